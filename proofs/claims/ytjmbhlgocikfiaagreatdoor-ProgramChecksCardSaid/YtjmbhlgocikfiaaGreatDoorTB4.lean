/- Plain lists: the first error, the first place, and what was passed. Chapter 1: names, and what they are. Chapter 1: the levels of codes. Chapter 1: leaves and depths, by the reference. Chapter 1: the check of a list. Chapter 1: the check of a list, by the reference. Chapter 1: levels, ancestors, codes of a level. Chapter 1: ancestors. Chapter 1: what stands below, codes of a level, codes with a name. Chapter 1: the codes of a level, and the example. Code lists that came in. -/
import Derived.Test.YtjmbhlgocikfiaaGreatDoorTAvTy
import Derived.Test.YtjmbhlgocikfiaaGreatDoorTE3
set_option linter.unusedVariables false
set_option linter.unnecessarySimpa false
set_option linter.unusedSimpArgs false
namespace Go.Proofs.YtjmbhlgocikfiaaGreatDoor
open Go Go.Av
attribute [local irreducible] AWp AOps AAny MAny DQ retQ retG St.le FCall GCall
set_option maxRecDepth 100000
theorem dropc {α:Type} {l:List α} {k:Nat} {x:α} (h:l[k]? = some x):l.drop k = x :: l.drop (k + 1):=by
 obtain ⟨h1,h2⟩:=List.getElem?_eq_some_iff.1 h
 rw [List.drop_eq_getElem_cons h1,h2]
theorem takec {α:Type} {l:List α} {k:Nat} {x:α} (h:l[k]? = some x):l.take (k + 1) = l.take k ++ [x]:=by
 rw [List.take_add_one,h];rfl
theorem drop_end {α:Type} {l:List α} {k:Nat} (h:¬ (k:Int) < l.length):l.drop k = []:=List.drop_eq_nil_of_le (by omega)
theorem take_end {α:Type} {l:List α} {k:Nat} (h:¬ (k:Int) < l.length):l.take k = l:=List.take_of_length_le (by omega)
theorem lt_of_get {α:Type} {l:List α} {k:Nat} {x:α} (h:l[k]? = some x):k < l.length:=(List.getElem?_eq_some_iff.1 h).1
def idxP {α:Type} (p:α → Bool):List α → Int → Int
 | [],_=>-1
 | x :: r,k=>if p x = true then k else idxP p r (k + 1)
theorem idxP_any {α:Type} (p:α → Bool):∀ (l:List α) (k:Int),0 ≤ k → decide (0 ≤ idxP p l k) = l.any p
 | [],k,_=>by simp [idxP]
 | x :: r,k,h=>by
  unfold idxP
  by_cases hp:p x = true
  ·rw [if_pos hp];simp [hp,h]
  ·rw [if_neg hp,idxP_any p r (k + 1) (by omega)]
   simp [hp]
theorem idxP_ge {α:Type} (p:α → Bool):∀ (l:List α) (k:Int),idxP p l k = -1 ∨ (k ≤ idxP p l k ∧ idxP p l k < k + l.length)
 | [],k=>.inl rfl
 | x :: r,k=>by
  unfold idxP
  by_cases hp:p x = true
  ·rw [if_pos hp];right;simp;omega
  ·rw [if_neg hp]
   rcases idxP_ge p r (k + 1) with h | h
   ·exact .inl h
   ·right;simp;omega
def firstE {α:Type} (f:Nat → α → Int):Nat → List α → Int
 | _,[]=>0
 | i,x :: r=>if f i x = 0 then firstE f (i + 1) r else f i x
def ErrAt {α:Type} (f:Nat → α → Int) (l:List α) (k:Nat):Prop:=k ≤ l.length ∧ firstE f 0 l = firstE f k (l.drop k) ∧ ∀ (i:Nat) x,i < k → l[i]? = some x → f i x = 0
theorem ErrAt.zero {α:Type} (f:Nat → α → Int) (l:List α):ErrAt f l 0:=⟨Nat.zero_le _,rfl,fun i x h=>absurd h (Nat.not_lt_zero _)⟩
theorem ErrAt.step {α:Type} {f:Nat → α → Int} {l:List α} {k:Nat} {x:α} (h:ErrAt f l k) (hx:l[k]? = some x) (h0:f k x = 0):ErrAt f l (k + 1):=by
 refine ⟨lt_of_get hx,?_,fun i y hi hy=>?_⟩
 ·rw [h.2.1,dropc hx,firstE,if_pos h0]
 ·by_cases e:i = k
  ·subst e;rw [hx] at hy;cases hy;exact h0
  ·exact h.2.2 i y (by omega) hy
theorem ErrAt.hit {α:Type} {f:Nat → α → Int} {l:List α} {k:Nat} {x:α} (h:ErrAt f l k) (hx:l[k]? = some x) (h0:¬ f k x = 0):f k x = firstE f 0 l:=by
 rw [h.2.1,dropc hx,firstE,if_neg h0]
theorem ErrAt.done {α:Type} {f:Nat → α → Int} {l:List α} {k:Nat} (h:ErrAt f l k) (hk:¬ (k:Int) < l.length):firstE f 0 l = 0:=by
 rw [h.2.1,drop_end hk];rfl
theorem firstE_zero {α:Type} {f:Nat → α → Int}:∀ {l:List α} {k:Nat},firstE f k l = 0 → ∀ (i:Nat) x,l[i]? = some x → f (k + i) x = 0
 | [],k,_,i,x,h=>by simp at h
 | y :: r,k,h,i,x,hx=>by
  unfold firstE at h
  split at h
  ·cases i with
   | zero=>simp at hx;subst hx;assumption
   | succ i =>
    have:=firstE_zero h i x (by simpa using hx)
    rw [show k + (i + 1) = k + 1 + i by omega];exact this
  ·exact absurd h (by assumption)
def AnyAt {α:Type} (p:α → Bool) (l:List α) (k:Nat):Prop:=k ≤ l.length ∧ ∀ x ∈ l.take k,p x = false
theorem AnyAt.zero {α:Type} (p:α → Bool) (l:List α):AnyAt p l 0:=⟨Nat.zero_le _,fun x hx=>by simp at hx⟩
theorem AnyAt.step {α:Type} {p:α → Bool} {l:List α} {k:Nat} {x:α} (h:AnyAt p l k) (hx:l[k]? = some x) (h0:p x = false):AnyAt p l (k + 1):=by
 refine ⟨lt_of_get hx,fun y hy=>?_⟩
 rw [takec hx] at hy
 rcases List.mem_append.1 hy with hy | hy
 ·exact h.2 y hy
 ·simp at hy;subst hy;exact h0
theorem AnyAt.hit {α:Type} {p:α → Bool} {l:List α} {k:Nat} {x:α} (h:AnyAt p l k) (hx:l[k]? = some x) (h0:p x = true):true = l.any p :=
 (List.any_eq_true.2 ⟨x,List.mem_of_getElem? hx,h0⟩).symm
theorem AnyAt.done {α:Type} {p:α → Bool} {l:List α} {k:Nat} (h:AnyAt p l k) (hk:¬ (k:Int) < l.length):false = l.any p:=by
 have:=h.2
 rw [take_end hk] at this
 exact (List.any_eq_false.2 (fun x hx=>by simp [this x hx])).symm
end Go.Proofs.YtjmbhlgocikfiaaGreatDoor
namespace Go.Proofs.YtjmbhlgocikfiaaGreatDoor
open Go Go.Av
attribute [local irreducible] AWp AOps AAny DQ retQ retG St.le FCall GCall
def nameCh (c:UInt8):Bool:=decide (97 ≤ c.toNat ∧ c.toNat ≤ 122 ∨ 48 ≤ c.toNat ∧ c.toNat ≤ 57 ∨ c.toNat = 95)
def words:List (List UInt8):=[[97,108,108],[97,110,100],[101,118,101,110,116],[102,114,111,109],[109,105,115,115,105,110,103],[110,111,116],[111,110],[111,114],[116,111],[117,110,100,101,114],[119,104,101,114,101]]
def headOk (l:List UInt8):Bool:=match l with | []=>false | c :: _=>decide (97 ≤ c.toNat ∧ c.toNat ≤ 122)
def nameB (l:List UInt8):Bool:=decide (l.length ≤ 16) && headOk l && l.all nameCh && !(decide (l ∈ words))
theorem nameB_empty {l:List UInt8} (h:(l.length:Int) < 1):false = nameB l:=by
 have:l = []:=List.eq_nil_of_length_eq_zero (by omega)
 subst this;rfl
theorem nameB_long {l:List UInt8} (h:16 < (l.length:Int)):false = nameB l:=by
 have:¬ l.length ≤ 16:=by omega
 simp [nameB,this]
theorem nameB_head {l:List UInt8} {el:UInt8} (hel:l[Int.toNat 0]? = some el) (h:(el.toNat:Int) < 97 ∨ 122 < (el.toNat:Int)):false = nameB l:=by
 cases l with
 | nil=>rfl
 | cons c r =>
  have:c = el:=by simpa using hel
  subst this
  have:¬ (97 ≤ c.toNat ∧ c.toNat ≤ 122):=by omega
  simp [nameB,headOk];omega
theorem nameB_bad {l:List UInt8} {k:Nat} {el:UInt8} (hel:l[k]? = some el) (h:¬ (97 ≤ el.toNat ∧ el.toNat ≤ 122 ∨ 48 ≤ el.toNat ∧ el.toNat ≤ 57 ∨ el.toNat = 95)):false = nameB l:=by
 have:l.all nameCh = false:=by
  rw [List.all_eq_false]
  exact ⟨el,List.mem_of_getElem? hel,by simp [nameCh];omega⟩
 simp [nameB,this]
theorem nameB_word {l:List UInt8} (h:l ∈ words):false = nameB l:=by simp [nameB,h]
theorem nameB_good {l:List UInt8} {a b:UInt8} {k:Nat} (h1:¬ 16 < (l.length:Int)) (h2:¬ (a.toNat:Int) < 97) (ha:l[Int.toNat 0]? = some a) (h3:¬ 122 < (b.toNat:Int)) (hb:l[Int.toNat 0]? = some b) (h4:∀ c ∈ l.take k,nameCh c = true) (h5:¬ (k:Int) < l.length) (h6:l ∉ words):true = nameB l:=by
 rw [ha] at hb
 cases hb
 have e:l.take k = l:=List.take_of_length_le (by omega)
 rw [e] at h4
 have:headOk l = true:=by
  cases l with
  | nil=>cases ha
  | cons c r=>cases ha;simp [headOk];omega
 simp [nameB,this,h6]
 exact ⟨by omega,h4⟩
theorem take_ok {l:List UInt8} {k:Nat} {el:UInt8} (hI:∀ c ∈ l.take k,nameCh c = true) (hel:l[k]? = some el) (h:97 ≤ el.toNat ∧ el.toNat ≤ 122 ∨ 48 ≤ el.toNat ∧ el.toNat ≤ 57 ∨ el.toNat = 95):∀ c ∈ l.take (k + 1),nameCh c = true:=by
 intro c hc
 rw [List.take_add_one,hel] at hc
 rcases List.mem_append.1 hc with hc | hc
 ·exact hI c hc
 ·simp at hc;subst hc;simpa [nameCh] using h
set_option maxHeartbeats 1000000 in
theorem name_call (l:List UInt8):FCall Tryz.prog 54 [.str l] (.b (nameB l)):=by
 refine fci Tryz.func54 62 fun hrd E h0=>?_
 repeat' ((first|refine aops_go ?_|refine S1 ?_|refine Z1 ?_|refine Z2 ?_|(refine And.intro ?_ ?_<;>intro h<;>try first|(exfalso;omega)|exact absurd rfl h)|refine Z3 ?_|refine Z4 ?_|intro el hel hbB|intro el hel|intro ex|refine Z5 ?_|(refine free_i ?_ ?_;exact ⟨by kernel_rfl,by decide⟩)|refine allI_c ?_ ?_|exact allI_n|refine allMP_c ?_ ?_|exact allMP_n|(refine many_step ?_ ?_ ?_;kernel_rfl;kernel_rfl)) <;> (try (conv=>whnf)))
 rotate_left
 ·refine loop_i (ι:=Nat) (fun k=>⟨[(0, .str l),(24, .sl 1 (l.map fun b=>[.v (.int .u8 b.toNat)])),(25, .i l.length),(26, .i k)],0,[]⟩) (fun k=>∀ c ∈ l.take k,nameCh c = true) (fun k=>l.length - k) 0 (by simp) (le_of h0 rfl ⟨rfl,rfl,rfl,rfl,trivial⟩ trivial rfl rfl rfl) (fun k hI=>?_)
  repeat' ((first|refine aops_go ?_|refine S1 ?_|refine Z1 ?_|refine Z2 ?_|(refine And.intro ?_ ?_<;>intro h<;>try first|(exfalso;omega)|exact absurd rfl h)|refine Z3 ?_|refine Z4 ?_|intro el hel hbB|intro el hel|intro ex|refine Z5 ?_|(refine free_i ?_ ?_;exact ⟨by kernel_rfl,by decide⟩)|refine allI_c ?_ ?_|exact allI_n|refine allMP_c ?_ ?_|exact allMP_n|(refine many_step ?_ ?_ ?_;kernel_rfl;kernel_rfl)) <;> (try (conv=>whnf)))
  all_goals first
   | exact ⟨k + 1,take_ok hI hel (by omega),by omega,le_of h0 rfl ⟨rfl,rfl,rfl,rfl,trivial⟩ trivial rfl rfl rfl⟩
   | (refine ret_tmp rfl (congrArg AV.b ?_);first | exact nameB_bad hel (by omega) | exact nameB_word (by subst h;decide) | exact nameB_good (by assumption) (by assumption) (by assumption) (by assumption) (by assumption) hI (by assumption) (by simp [words, *]))
 all_goals (refine ret_tmp rfl (congrArg AV.b ?_);first | exact nameB_empty h | exact nameB_long h | exact nameB_head hel (by omega))
set_option maxHeartbeats 2000000 in
theorem rname_call (l:List UInt8):FCall Tryz.prog 61 [.str l] (.b (nameB l)):=by
 refine fci Tryz.func61 70 fun hrd E h0=>?_
 repeat' ((first|refine aops_go ?_|refine S1 ?_|refine Z1 ?_|refine Z2 ?_|(refine And.intro ?_ ?_<;>intro h<;>try first|(exfalso;omega)|exact absurd rfl h)|refine Z3 ?_|refine Z4 ?_|intro el hel hbB|intro el hel|intro ex|refine Z5 ?_|(refine free_i ?_ ?_;exact ⟨by kernel_rfl,by decide⟩)|refine allI_c ?_ ?_|exact allI_n|refine allMP_c ?_ ?_|exact allMP_n|(refine many_step ?_ ?_ ?_;kernel_rfl;kernel_rfl)) <;> (try (conv=>whnf)))
 rotate_left
 ·refine loop_i (ι:=Nat) (fun k=>⟨[(0, .str l),(3, .i k)],0,[]⟩) (fun k=>∀ c ∈ l.take k,nameCh c = true) (fun k=>l.length - k) 0 (by simp) (le_of h0 rfl ⟨rfl,rfl,trivial⟩ trivial rfl rfl rfl) (fun k hI=>?_)
  repeat' ((first|refine aops_go ?_|refine S1 ?_|refine Z1 ?_|refine Z2 ?_|(refine And.intro ?_ ?_<;>intro h<;>try first|(exfalso;omega)|exact absurd rfl h)|refine Z3 ?_|refine Z4 ?_|intro el hel hbB|intro el hel|intro ex|refine Z5 ?_|(refine free_i ?_ ?_;exact ⟨by kernel_rfl,by decide⟩)|refine allI_c ?_ ?_|exact allI_n|refine allMP_c ?_ ?_|exact allMP_n|(refine many_step ?_ ?_ ?_;kernel_rfl;kernel_rfl)) <;> (try (conv=>whnf)))
  all_goals first
   | exact ⟨k + 1,take_ok hI hel (by omega),by omega,le_of h0 rfl ⟨rfl,rfl,trivial⟩ trivial rfl rfl rfl⟩
   | (refine ret_tmp rfl (congrArg AV.b ?_);first | exact nameB_bad hel (by omega) | exact nameB_word (by subst h;decide) | exact nameB_good (by assumption) (by assumption) (by assumption) (by assumption) (by assumption) hI (by assumption) (by simp [words, *]))
 all_goals first
  | (refine ret_tmp rfl (congrArg AV.b ?_);first | exact nameB_empty h | exact nameB_long h | exact nameB_head hel (by omega))
structure Code where
 name:List UInt8
 parent:Int
deriving DecidableEq
abbrev cA (c:Code):List AV:=[.str c.name, .i c.parent]
abbrev iA (d:Nat):List AV:=[.i (d:Int)]
abbrev lA (nm:List UInt8) (cs:List Code):AV:=.agg [.str nm, .sl 2 (cs.map cA)]
def depsFrom:List Nat → List Code → List Nat
 | out,[]=>out
 | out,c :: r=>depsFrom (out ++ [if out = [] then 0 else out.getD c.parent.toNat 0 + 1]) r
def deps (cs:List Code):List Nat:=depsFrom [] cs
theorem depsFrom_length:∀ (cs:List Code) (out:List Nat),(depsFrom out cs).length = out.length + cs.length
 | [],out=>rfl
 | c :: r,out=>by simp only [depsFrom,depsFrom_length r];simp;omega
theorem deps_length (cs:List Code):(deps cs).length = cs.length:=by simp [deps,depsFrom_length]
theorem depsFrom_get:∀ (cs:List Code) (out:List Nat) (j:Nat),j < out.length → (depsFrom out cs)[j]? = out[j]?
 | [],out,j,_=>rfl
 | c :: r,out,j,h=>by
  simp only [depsFrom]
  rw [depsFrom_get r _ j (by simp;omega),List.getElem?_append_left h]
theorem depsFrom_next:∀ (cs:List Code) (out:List Nat) (k:Nat) (c:Code),cs[k]? = some c → ((out ++ [] = [] ∧ k = 0) ∨ True) →
  (depsFrom out cs)[out.length + k]? = some (if out.length + k = 0 then 0 else if c.parent.toNat < out.length + k then (depsFrom out cs).getD c.parent.toNat 0 + 1 else 1)
 | [],out,k,c,h,_=>by simp at h
 | a :: r,out,0,c,h,_=>by
  simp at h
  subst h
  simp only [depsFrom,Nat.add_zero]
  rw [depsFrom_get _ _ _ (by simp)]
  simp only [List.getElem?_append_right (Nat.le_refl _),Nat.sub_self,List.getElem?_cons_zero]
  congr 1
  by_cases e:out = []
  ·subst e;simp
  ·have hl:¬ out.length = 0:=by simpa using e
   rw [if_neg e,if_neg hl]
   by_cases hp:a.parent.toNat < out.length
   ·rw [if_pos hp,List.getD_eq_getElem?_getD,List.getD_eq_getElem?_getD,depsFrom_get _ _ _ (by simp;omega),List.getElem?_append_left hp]
   ·rw [if_neg hp,List.getD_eq_getElem?_getD,List.getElem?_eq_none (by omega)]
    rfl
 | a :: r,out,k + 1,c,h,_=>by
  simp only [depsFrom]
  have:=depsFrom_next r (out ++ [if out = [] then 0 else out.getD a.parent.toNat 0 + 1]) k c (by simpa using h) (.inr trivial)
  simp only [List.length_append,List.length_cons,List.length_nil] at this
  rw [show out.length + (k + 1) = out.length + (0 + 1) + k by omega]
  exact this
def Before (cs:List Code):Prop:=∀ (i:Nat) c,cs[i]? = some c → 0 < i → 0 ≤ c.parent ∧ c.parent < i
theorem deps_get {cs:List Code} (h:Before cs) {k:Nat} {c:Code} (hc:cs[k]? = some c):(deps cs)[k]? = some (if k = 0 then 0 else (deps cs).getD c.parent.toNat 0 + 1):=by
 have h1:=depsFrom_next cs [] k c hc (.inr trivial)
 simp only [List.length_nil,Nat.zero_add] at h1
 unfold deps
 rw [h1]
 congr 1
 by_cases e:k = 0
 ·simp [e]
 ·rw [if_neg e,if_neg e]
  have:=h k c hc (by omega)
  rw [if_pos (by omega)]
def rowL (D:List Nat) (n k:Nat):List Nat:=D.take k ++ List.replicate (n - k) 0
theorem rowL_length {D:List Nat} {n k:Nat} (hD:D.length = n) (hk:k ≤ n):(rowL D n k).length = n:=by simp [rowL,hD];omega
theorem rowL_get {D:List Nat} {n k i:Nat} (hD:D.length = n) (hk:k ≤ n) (hi:i < k):(rowL D n k)[i]? = D[i]?:=by
 rw [rowL,List.getElem?_append_left (by simp;omega),List.getElem?_take_of_lt hi]
theorem rowL_set {D:List Nat} {n k:Nat} {d:Nat} (hD:D.length = n) (hk:k < n) (hd:D[k]? = some d):((rowL D n k).map iA).set k (iA d) = (rowL D n (k + 1)).map iA:=by
 have e:n - k = (n - (k + 1)) + 1:=by omega
 have h1:(D.take k).length = k:=by rw [List.length_take];omega
 rw [rowL,e,List.replicate_succ,rowL,List.take_add_one,hd]
 rw [List.map_append,List.map_cons,List.set_append_right _ _ (by rw [List.length_map,h1];exact Nat.le_refl _),List.length_map,h1,Nat.sub_self]
 simp
theorem rowL_zero (D:List Nat) (n:Nat):(rowL D n 0).map iA = List.replicate n (iA 0):=by simp [rowL]
theorem rowL_full {D:List Nat} {n:Nat} (hD:D.length = n):rowL D n n = D:=by simp [rowL, ← hD]
theorem rowL_skip {D:List Nat} {n k:Nat} (hD:D.length = n) (hk:k < n) (hd:D[k]? = some 0):rowL D n k = rowL D n (k + 1):=by
 have e:n - k = (n - (k + 1)) + 1:=by omega
 rw [rowL,e,List.replicate_succ,rowL,List.take_add_one,hd]
 simp
theorem deps_le {cs:List Code} (h:Before cs):∀ (j d:Nat),(deps cs)[j]? = some d → d ≤ j:=by
 intro j
 induction j using Nat.strongRecOn with
 | _ j ih =>
  intro d hd
  have hlt:j < cs.length:=by rw [← deps_length cs];exact (List.getElem?_eq_some_iff.1 hd).1
  have hc:=List.getElem?_eq_getElem hlt
  rw [deps_get h hc] at hd
  by_cases e:j = 0
  ·simp [e] at hd;omega
  ·rw [if_neg e] at hd
   obtain ⟨h1,h2⟩:=h j _ hc (by omega)
   have hp:(cs[j].parent).toNat < j:=by omega
   have hp2:(cs[j].parent).toNat < (deps cs).length:=by rw [deps_length];omega
   have:=ih _ hp _ (List.getElem?_eq_getElem hp2)
   rw [List.getD_eq_getElem?_getD,List.getElem?_eq_getElem hp2] at hd
   simp at hd
   omega
set_option maxHeartbeats 1000000 in
theorem depths_call (nm:List UInt8) (cs:List Code) (hb:Before cs) (hlen:cs.length ≤ 1000000):FCall Tryz.prog 91 [lA nm cs] (.sl 1 ((deps cs).map iA)):=by
 have hD:=deps_length cs
 refine fci Tryz.func91 31 fun hrd E h0=>?_
 repeat' ((first|refine aops_go ?_|refine S1 ?_|refine Z1 ?_|refine Z2 ?_|(refine And.intro ?_ ?_<;>intro h<;>try first|(exfalso;omega)|exact absurd rfl h)|refine Z3 ?_|refine Z4 ?_|intro el hel hbB|intro el hel|intro ex|refine Z5 ?_|(refine free_i ?_ ?_;exact ⟨by kernel_rfl,by decide⟩)|refine allI_c ?_ ?_|exact allI_n|refine allMP_c ?_ ?_|exact allMP_n|(refine many_step ?_ ?_ ?_;kernel_rfl;kernel_rfl)) <;> (try (conv=>whnf)))
 refine loop_i (ι:=Nat) (fun k=>⟨[(1, .ref 0 0),(3, .row 1 0 cs.length),(11, .sl 2 (cs.map cA)),(12, .i cs.length),(13, .i k)],2,[(0,some (.box [.str nm, .sl 2 (cs.map cA)])),(1,some (.row 3 1 0 ((rowL (deps cs) cs.length k).map iA)))]⟩) (fun k=>k ≤ cs.length) (fun k=>cs.length - k) 0 (Nat.zero_le _) (le_of h0 rfl ⟨rfl,rfl,rfl,rfl,rfl,trivial⟩ ⟨rfl,⟨0,by rw [rowL_zero];rfl⟩,trivial⟩ rfl rfl rfl) (fun k hI=>?_)
 repeat' ((first | (refine side_i ?_ ?_;(have:=hb k el hel (by omega);omega)) | (refine each_mapN ?_ (fun x hx=>?_);(rw [rowL_length hD hI];have:=hb k el hel (by omega);omega)) | (refine side_i ?_ ?_;(have h5:=hb k el hel (by omega);have h6:=deps_le hb el.parent.toNat x (by rw [← rowL_get hD hI (by omega)];exact hx);omega)) | (refine each_mapN ?_ (fun y hy=>?_);(rw [rowL_length hD hI];omega)) |refine aops_go ?_|refine S1 ?_|refine Z1 ?_|refine Z2 ?_|(refine And.intro ?_ ?_<;>intro h<;>try first|(exfalso;omega)|exact absurd rfl h)|refine Z3 ?_|refine Z4 ?_|intro el hel hbB|intro el hel|intro ex|refine Z5 ?_|(refine free_i ?_ ?_;exact ⟨by kernel_rfl,by decide⟩)|refine allI_c ?_ ?_|exact allI_n|refine allMP_c ?_ ?_|exact allMP_n|(refine many_step ?_ ?_ ?_;kernel_rfl;kernel_rfl)) <;> (try (conv=>whnf)))
 rotate_left
 ·refine ⟨k + 1,?_,?_,le_of h0 rfl ⟨rfl,rfl,rfl,rfl,rfl,trivial⟩ ⟨rfl,⟨0,?_⟩,trivial⟩ rfl rfl rfl⟩
  ·omega
  ·omega
  ·have hk0:k = 0:=by omega
   exact congrArg (fun l=>Blk.row 3 1 0 (l.map iA)) (rowL_skip (k:=k) hD (by omega) (by rw [deps_get hb hel,if_pos hk0])).symm
 ·apply ret_tmp
  ·rfl
  ·have e:k = cs.length:=by omega
   subst e
   exact congrArg (fun l=>AV.sl 1 (l.map iA)) (rowL_full hD)
 ·rename_i _ z hz
  refine ⟨k + 1,?_,?_,le_of h0 rfl ⟨rfl,rfl,rfl,rfl,rfl,trivial⟩ ⟨rfl,⟨0,congrArg (Blk.row 3 1 0) (rowL_set hD ?_ ?_).symm⟩,trivial⟩ rfl rfl rfl⟩
  ·omega
  ·omega
  ·omega
  ·have h5:=hb k el hel (by omega)
   rw [rowL_get hD hI (by omega)] at hz
   rw [deps_get hb hel,if_neg (by omega),List.getD_eq_getElem?_getD,hz]
   rfl
def leafB (cs:List Code) (code:Int):Bool:=cs.all fun c=>decide (c.parent ≠ code)
theorem take_all {α:Type} {l:List α} {p:α → Prop} {k:Nat} {el:α} (hI:∀ c ∈ l.take k,p c) (hel:l[k]? = some el) (h:p el):∀ c ∈ l.take (k + 1),p c:=by
 intro c hc
 rw [List.take_add_one,hel] at hc
 rcases List.mem_append.1 hc with hc | hc
 ·exact hI c hc
 ·simp at hc;subst hc;exact h
theorem leaf_no {cs:List Code} {code:Int} {k:Nat} {el:Code} (hel:cs[k]? = some el) (h:el.parent = code):false = leafB cs code:=by
 refine (List.all_eq_false.2 ⟨el,List.mem_of_getElem? hel,by simp [h]⟩).symm
theorem leaf_yes {cs:List Code} {code:Int} {k:Nat} (hI:∀ c ∈ cs.take k,c.parent ≠ code) (h:¬ (k:Int) < cs.length):true = leafB cs code:=by
 have e:cs.take k = cs:=List.take_of_length_le (by omega)
 rw [e] at hI
 exact (List.all_eq_true.2 fun c hc=>by simpa using hI c hc).symm
set_option maxHeartbeats 1000000 in
theorem leaf_call (nm:List UInt8) (cs:List Code) (code:Int) (hlen:cs.length ≤ 9223372036854775807):FCall Tryz.prog 101 [lA nm cs, .i code] (.b (leafB cs code)):=by
 refine fci Tryz.func101 21 fun hrd E h0=>?_
 repeat' ((first|refine aops_go ?_|refine S1 ?_|refine Z1 ?_|refine Z2 ?_|(refine And.intro ?_ ?_<;>intro h<;>try first|(exfalso;omega)|exact absurd rfl h)|refine Z3 ?_|refine Z4 ?_|intro el hel hbB|intro el hel|intro ex|refine Z5 ?_|(refine free_i ?_ ?_;exact ⟨by kernel_rfl,by decide⟩)|refine allI_c ?_ ?_|exact allI_n|refine allMP_c ?_ ?_|exact allMP_n|(refine many_step ?_ ?_ ?_;kernel_rfl;kernel_rfl)) <;> (try (conv=>whnf)))
 refine loop_i (ι:=Nat) (fun k=>⟨[(1, .i code),(2, .ref 0 0),(5, .i k)],1,[(0,some (.box [.str nm, .sl 2 (cs.map cA)]))]⟩) (fun k=>∀ c ∈ cs.take k,c.parent ≠ code) (fun k=>cs.length - k) 0 (by simp) (le_of h0 rfl ⟨rfl,rfl,rfl,trivial⟩ ⟨rfl,trivial⟩ rfl rfl rfl) (fun k hI=>?_)
 repeat' ((first|refine aops_go ?_|refine S1 ?_|refine Z1 ?_|refine Z2 ?_|(refine And.intro ?_ ?_<;>intro h<;>try first|(exfalso;omega)|exact absurd rfl h)|refine Z3 ?_|refine Z4 ?_|intro el hel hbB|intro el hel|intro ex|refine Z5 ?_|(refine free_i ?_ ?_;exact ⟨by kernel_rfl,by decide⟩)|refine allI_c ?_ ?_|exact allI_n|refine allMP_c ?_ ?_|exact allMP_n|(refine many_step ?_ ?_ ?_;kernel_rfl;kernel_rfl)) <;> (try (conv=>whnf)))
 all_goals first
  | exact ⟨k + 1,take_all hI hel h,by omega,le_of h0 rfl ⟨rfl,rfl,rfl,trivial⟩ ⟨rfl,trivial⟩ rfl rfl rfl⟩
  | (refine ret_tmp rfl (congrArg AV.b ?_);first | exact leaf_no hel h | exact leaf_yes hI h)
structure Good (cs:List Code):Prop where
 before:Before cs
 root:∀ c,cs[0]? = some c → c.parent = -1
set_option maxHeartbeats 1000000 in
theorem depth_call (nm:List UInt8) (cs:List Code) (code d:Nat) (hg:Good cs) (hlen:cs.length ≤ 9223372036854775807) (hd:(deps cs)[code]? = some d):FCall Tryz.prog 102 [lA nm cs, .i code] (.i d):=by
 have hb:=hg.before
 have hdl:=deps_le hb
 have hcl:code < cs.length:=by rw [← deps_length cs];exact (List.getElem?_eq_some_iff.1 hd).1
 refine fci Tryz.func102 22 fun hrd E h0=>?_
 repeat' ((first|refine aops_go ?_|refine S1 ?_|refine Z1 ?_|refine Z2 ?_|(refine And.intro ?_ ?_<;>intro h<;>try first|(exfalso;omega)|exact absurd rfl h)|refine Z3 ?_|refine Z4 ?_|intro el hel hbB|intro el hel|intro ex|refine Z5 ?_|(refine free_i ?_ ?_;exact ⟨by kernel_rfl,by decide⟩)|refine allI_c ?_ ?_|exact allI_n|refine allMP_c ?_ ?_|exact allMP_n|(refine many_step ?_ ?_ ?_;kernel_rfl;kernel_rfl)) <;> (try (conv=>whnf)))
 refine loop_i (ι:=Nat × Nat) (fun x=>⟨[(1, .i x.1),(2, .ref 0 0),(5, .i x.2)],1,[(0,some (.box [.str nm, .sl 2 (cs.map cA)]))]⟩) (fun x=>x.1 ≤ code ∧ (deps cs)[x.1]?.map (· + x.2) = some d) (fun x=>x.1) (code,0) ⟨Nat.le_refl _,by simp [hd]⟩ (le_of h0 rfl ⟨rfl,rfl,rfl,trivial⟩ ⟨rfl,trivial⟩ rfl rfl rfl) (fun x hI=>?_)
 obtain ⟨j,m⟩:=x
 obtain ⟨hj,hI⟩:=hI
 rw [Option.map_eq_some_iff] at hI
 obtain ⟨dj,hdj,hsum⟩:=hI
 have hdjl:=hdl _ _ hd
 simp only at hj hdj hsum
 repeat' ((first|refine aops_go ?_|refine S1 ?_|refine Z1 ?_|refine Z2 ?_|(refine And.intro ?_ ?_<;>intro h<;>try first|(exfalso;omega)|exact absurd rfl h)|refine Z3 ?_|refine Z4 ?_|intro el hel hbB|intro el hel|intro ex|refine Z5 ?_|(refine free_i ?_ ?_;exact ⟨by kernel_rfl,by decide⟩)|refine allI_c ?_ ?_|exact allI_n|refine allMP_c ?_ ?_|exact allMP_n|(refine many_step ?_ ?_ ?_;kernel_rfl;kernel_rfl)) <;> (try (conv=>whnf)))
 ·have hel':cs[j]? = some el:=hel
  have hj0:0 < j:=by
   rcases Nat.eq_zero_or_pos j with e | e
   ·subst e;have:=hg.root el hel';omega
   ·exact e
  obtain ⟨h1,h2⟩:=hb j el hel' hj0
  have h3:=deps_get hb hel'
  rw [hdj,if_neg (by omega)] at h3
  have hp:el.parent.toNat < (deps cs).length:=by rw [deps_length];omega
  rw [List.getD_eq_getElem?_getD,List.getElem?_eq_getElem hp] at h3
  simp at h3
  refine ⟨(el.parent.toNat,m + 1),⟨?_,?_⟩,?_,le_of h0 rfl ⟨congrArg (fun z=>some (AV.i z)) (Int.toNat_of_nonneg h1).symm,rfl,rfl,trivial⟩ ⟨rfl,trivial⟩ rfl rfl rfl⟩
  ·simp only;omega
  ·simp only [List.getElem?_eq_getElem hp,Option.map_some]
   congr 1
   omega
  ·simp only;omega
 ·refine ret_tmp rfl (congrArg (fun z:Nat=>AV.i (z:Int)) ?_)
  have hel':cs[j]? = some el:=hel
  have hj0:j = 0:=by
   rcases Nat.eq_zero_or_pos j with e | e
   ·exact e
   ·have:=hb j el hel' e;omega
  subst hj0
  rw [deps_get hb hel',if_pos rfl] at hdj
  cases hdj
  omega
def badP (i:Nat) (p:Int):Bool:=if i = 0 then decide (p ≠ -1) else decide (p < 0 ∨ (i:Int) ≤ p)
def scan:List Code → List Code → Option Int
 | _,[]=>none
 | pre,c :: r=>if nameB c.name = false then some 3 else if c.name ∈ pre.map (·.name) then some 10 else if badP pre.length c.parent = true then some 6 else scan (pre ++ [c]) r
def lv:Int → List (Bool × Nat) → Bool
 | _,[]=>true
 | l,(lf,d) :: r=>if lf = true then (if 0 ≤ l ∧ (d:Int) ≠ l then false else lv d r) else lv l r
def pairs (cs:List Code):List (Bool × Nat):=(List.range cs.length).map fun (i:Nat)=>(leafB cs i,(deps cs).getD i 0)
def chk (nm:List UInt8) (cs:List Code):Int :=
 if nameB nm = false then 3 else if cs.length = 0 then 5 else if 60 < cs.length then 1 else match scan [] cs with
 | some e=>e
 | none=>if lv (-1) (pairs cs) = true then 0 else 5
theorem chk_name {nm:List UInt8} {cs:List Code} (h:nameB nm = false):3 = chk nm cs:=by simp [chk,h]
theorem chk_nil {nm:List UInt8} {cs:List Code} (h:nameB nm = true) (h2:(cs.length:Int) = 0):5 = chk nm cs:=by
 have:cs.length = 0:=by omega
 simp [chk,h,this]
theorem chk_long {nm:List UInt8} {cs:List Code} (h:nameB nm = true) (h3:(60:Int) < cs.length):1 = chk nm cs:=by
 have h1:¬ cs.length = 0:=by omega
 have h2:60 < cs.length:=by omega
 simp only [chk,h,h1,h2,if_true,if_false,Bool.true_eq_false]
theorem chk_scan {nm:List UInt8} {cs:List Code} {e:Int} (h:nameB nm = true) (h1:¬ (cs.length:Int) = 0) (h2:¬ (60:Int) < cs.length) (h3:scan [] cs = some e):e = chk nm cs:=by
 have h1:¬ cs.length = 0:=by omega
 have h2:¬ 60 < cs.length:=by omega
 simp only [chk,h,h1,h2,if_false,Bool.true_eq_false,h3]
theorem chk_lv {nm:List UInt8} {cs:List Code} {b:Bool} (h:nameB nm = true) (h1:¬ (cs.length:Int) = 0) (h2:¬ (60:Int) < cs.length) (h3:scan [] cs = none) (h4:lv (-1) (pairs cs) = b):(if b = true then 0 else 5:Int) = chk nm cs:=by
 have h1:¬ cs.length = 0:=by omega
 have h2:¬ 60 < cs.length:=by omega
 simp only [chk,h,h1,h2,if_false,Bool.true_eq_false,h3,h4]
theorem drop_cons {α:Type} {l:List α} {k:Nat} {x:α} (h:l[k]? = some x):l.drop k = x :: l.drop (k + 1):=by
 obtain ⟨h1,h2⟩:=List.getElem?_eq_some_iff.1 h
 rw [List.drop_eq_getElem_cons h1,h2]
theorem take_snoc {α:Type} {l:List α} {k:Nat} {x:α} (h:l[k]? = some x):l.take (k + 1) = l.take k ++ [x]:=by
 rw [List.take_add_one,h];rfl
def ScanAt (cs:List Code) (k:Nat):Prop:=k ≤ cs.length ∧ scan [] cs = scan (cs.take k) (cs.drop k)
theorem ScanAt.step {cs:List Code} {k:Nat} {c:Code} (h:ScanAt cs k) (hc:cs[k]? = some c) (h1:nameB c.name = true) (h2:c.name ∉ (cs.take k).map (·.name)) (h3:badP k c.parent = false):ScanAt cs (k + 1):=by
 have hlt:=(List.getElem?_eq_some_iff.1 hc).1
 refine ⟨hlt,?_⟩
 have hl:(cs.take k).length = k:=by rw [List.length_take];omega
 rw [h.2,drop_cons hc,take_snoc hc]
 simp only [scan,h1,h2,hl,h3,Bool.true_eq_false,if_false,Bool.false_eq_true]
theorem ScanAt.name {cs:List Code} {k:Nat} {c:Code} (h:ScanAt cs k) (hc:cs[k]? = some c) (h1:nameB c.name = false):scan [] cs = some 3:=by
 rw [h.2,drop_cons hc];simp only [scan,h1,if_true]
theorem ScanAt.dup {cs:List Code} {k:Nat} {c:Code} (h:ScanAt cs k) (hc:cs[k]? = some c) (h1:nameB c.name = true) (h2:c.name ∈ (cs.take k).map (·.name)):scan [] cs = some 10:=by
 rw [h.2,drop_cons hc];simp only [scan,h1,h2,if_true,Bool.true_eq_false,if_false]
theorem ScanAt.bad {cs:List Code} {k:Nat} {c:Code} (h:ScanAt cs k) (hc:cs[k]? = some c) (h1:nameB c.name = true) (h2:c.name ∉ (cs.take k).map (·.name)) (h3:badP k c.parent = true):scan [] cs = some 6:=by
 have hlt:=(List.getElem?_eq_some_iff.1 hc).1
 have hl:(cs.take k).length = k:=by rw [List.length_take];omega
 rw [h.2,drop_cons hc];simp only [scan,h1,h2,hl,h3,if_true,Bool.true_eq_false,if_false]
theorem ScanAt.done {cs:List Code} {k:Nat} (h:ScanAt cs k) (hk:¬ (k:Int) < cs.length):scan [] cs = none:=by
 have e:k = cs.length:=by have:=h.1;omega
 rw [h.2,e,List.drop_length];rfl
def seenM (cs:List Code) (k:Nat):List (Key × AV):=(cs.take k).map fun c=>(Key.s c.name,AV.b true)
theorem seenM_keys (cs:List Code) (k:Nat):MapKeys .string (seenM cs k):=by
 intro p hp
 obtain ⟨c,_,rfl⟩:=List.mem_map.1 hp
 rfl
theorem mget_map (l:List Code) (n:List UInt8):mgetD (l.map fun c=>(Key.s c.name,AV.b true)) (.s n) (ofV (.bool false)) = .b (decide (n ∈ l.map (·.name))):=by
 induction l with
 | nil=>rfl
 | cons a r ih =>
  unfold mgetD mget at ih ⊢
  rw [List.map_cons,List.find?_cons]
  by_cases e:a.name = n
  ·subst e;simp
  ·have:¬ n = a.name:=fun h=>e h.symm
   simp only [Key.s.injEq,e,decide_false]
   rw [ih]
   simp [this]
theorem seen_get (cs:List Code) (k:Nat) (n:List UInt8):mgetD (seenM cs k) (.s n) (ofV (.bool false)) = .b (decide (n ∈ (cs.take k).map (·.name))):=mget_map _ n
theorem mset_new (l:List Code) (n:List UInt8) (h:n ∉ l.map (·.name)):mset (l.map fun c=>(Key.s c.name,AV.b true)) (.s n) (.b true) = (l.map fun c=>(Key.s c.name,AV.b true)) ++ [(.s n, .b true)]:=by
 induction l with
 | nil=>rfl
 | cons a r ih =>
  simp only [List.map_cons,List.mem_cons,not_or] at h
  have:¬ Key.s a.name = Key.s n:=by simp;exact fun e=>h.1 e.symm
  simp only [List.map_cons,mset,this,if_false,List.cons_append,ih h.2]
theorem seen_set {cs:List Code} {k:Nat} {c:Code} (hc:cs[k]? = some c) (h:c.name ∉ (cs.take k).map (·.name)):mset (seenM cs k) (.s c.name) (.b true) = seenM cs (k + 1):=by
 unfold seenM
 rw [mset_new _ _ h,take_snoc hc,List.map_append]
 rfl
def abv (cs:List Code):Nat → List Bool
 | 0=>List.replicate cs.length false
 | k + 1=>if k = 0 then abv cs k else match cs[k]? with
  | some c=>(abv cs k).set c.parent.toNat true
  | none=>abv cs k
theorem abv_length (cs:List Code):∀ k,(abv cs k).length = cs.length
 | 0=>by simp [abv]
 | k + 1=>by
  unfold abv
  split
  ·exact abv_length cs k
  ·split
   ·rw [List.length_set];exact abv_length cs k
   ·exact abv_length cs k
theorem abv_skip {cs:List Code} {k:Nat} (hk:k = 0):abv cs (k + 1) = abv cs k:=by simp [abv,hk]
theorem abv_next {cs:List Code} {k:Nat} {c:Code} (hk:0 < k) (hc:cs[k]? = some c):abv cs (k + 1) = (abv cs k).set c.parent.toNat true:=by
 have:¬ k = 0:=by omega
 rw [abv,if_neg this,hc]
theorem scan_all:∀ (cs pre:List Code),scan pre cs = none → ∀ (i:Nat) c,cs[i]? = some c → badP (pre.length + i) c.parent = false
 | [],pre,_,i,c,hc=>by simp at hc
 | a :: r,pre,h,i,c,hc=>by
  simp only [scan] at h
  split at h
  ·cases h
  ·split at h
   ·cases h
   ·split at h
    ·cases h
    ·rename_i h3
     cases i with
     | zero=>simp at hc;subst hc;simpa using h3
     | succ i =>
      have:=scan_all r (pre ++ [a]) h i c (by simpa using hc)
      rw [List.length_append,List.length_singleton] at this
      rw [show pre.length + (i + 1) = pre.length + 1 + i by omega]
      exact this
theorem scan_good {cs:List Code} (h:scan [] cs = none):Good cs:=by
 refine ⟨fun i c hc hi=>?_,fun c hc=>?_⟩
 ·have:=scan_all cs [] h i c hc
  simp [badP,Nat.ne_of_gt hi] at this
  omega
 ·have:=scan_all cs [] h 0 c hc
  simpa [badP] using this
theorem chk_bad {nm:List UInt8} {cs:List Code} (h:nameB nm = true) (h1:¬ (cs.length:Int) = 0) (h2:¬ (60:Int) < cs.length) (h3:scan [] cs = none) (h4:lv (-1) (pairs cs) = false):5 = chk nm cs:=by
 simpa using chk_lv h h1 h2 h3 h4
theorem chk_ok {nm:List UInt8} {cs:List Code} (h:nameB nm = true) (h1:¬ (cs.length:Int) = 0) (h2:¬ (60:Int) < cs.length) (h3:scan [] cs = none) (h4:lv (-1) (pairs cs) = true):0 = chk nm cs:=by
 simpa using chk_lv h h1 h2 h3 h4
theorem abv_at {cs:List Code} (hg:Good cs):∀ (k j:Nat),k ≤ cs.length → j < cs.length → ∃ b,(abv cs k)[j]? = some b ∧ (b = true ↔ ∃ (i:Nat) (c:Code),0 < i ∧ i < k ∧ cs[i]? = some c ∧ c.parent = j)
 | 0,j,_,hj=>⟨false,by simp [abv,hj],by simp⟩
 | k + 1,j,hk,hj=>by
  obtain ⟨b,hb,ih⟩:=abv_at hg k j (by omega) hj
  by_cases h0:k = 0
  ·subst h0
   refine ⟨b,by rw [abv_skip rfl,hb],ih.trans ⟨?_,?_⟩⟩
   ·rintro ⟨i,c,h1,h2,_⟩;omega
   ·rintro ⟨i,c,h1,h2,_⟩;omega
  ·have hc:cs[k]? = some cs[k]:=List.getElem?_eq_getElem (by omega)
   obtain ⟨h1,h2⟩:=hg.before k _ hc (by omega)
   by_cases hp:(cs[k].parent).toNat = j
   ·refine ⟨true,?_,fun _=>⟨k,_,by omega,by omega,hc,by omega⟩,fun _=>rfl⟩
    rw [abv_next (by omega) hc,List.getElem?_set,if_pos hp,if_pos (by rw [abv_length];omega)]
   ·refine ⟨b,?_,ih.trans ⟨?_,?_⟩⟩
    ·rw [abv_next (by omega) hc,List.getElem?_set,if_neg hp,hb]
    ·rintro ⟨i,c,g1,g2,g3,g4⟩;exact ⟨i,c,g1,by omega,g3,g4⟩
    ·rintro ⟨i,c,g1,g2,g3,g4⟩
     refine ⟨i,c,g1,?_,g3,g4⟩
     rcases Nat.lt_or_ge i k with h | h
     ·exact h
     ·have:i = k:=by omega
      subst this
      rw [hc] at g3
      cases g3
      omega
theorem abv_leaf {cs:List Code} (hg:Good cs) {j:Nat} {x:Bool} (h:(abv cs cs.length)[j]? = some x):leafB cs j = !x:=by
 have hj:j < cs.length:=by rw [← abv_length cs cs.length];exact (List.getElem?_eq_some_iff.1 h).1
 obtain ⟨b,hb,hiff⟩:=abv_at hg _ j (Nat.le_refl _) hj
 rw [hb] at h
 cases h
 cases hx:leafB cs j with
 | true =>
  cases x with
  | false=>rfl
  | true =>
   obtain ⟨i,c,_,_,h3,h4⟩:=hiff.1 rfl
   have:=List.all_eq_true.1 hx c (List.mem_of_getElem? h3)
   simp [h4] at this
 | false =>
  cases x with
  | true=>rfl
  | false =>
   exfalso
   obtain ⟨c,hc,he⟩:=List.all_eq_false.1 hx
   obtain ⟨i,hi,rfl⟩:=List.getElem_of_mem hc
   have he:cs[i].parent = j:=by simpa using he
   have:(false = true):=hiff.2 ⟨i,_,by
    rcases Nat.eq_zero_or_pos i with e | e
    ·subst e
     have:=hg.root _ (List.getElem?_eq_getElem hi)
     omega
    ·exact e,hi,List.getElem?_eq_getElem hi,he⟩
   cases this
theorem pairs_at {cs:List Code} {k d:Nat} (h:(deps cs)[k]? = some d):(pairs cs)[k]? = some (leafB cs k,d):=by
 have hk:k < cs.length:=by rw [← deps_length cs];exact (List.getElem?_eq_some_iff.1 h).1
 simp [pairs,hk,h]
theorem pairs_length (cs:List Code):(pairs cs).length = cs.length:=by simp [pairs]
def LvAt (cs:List Code) (k:Nat) (l:Int):Prop:=k ≤ cs.length ∧ lv (-1) (pairs cs) = lv l ((pairs cs).drop k) ∧ -1 ≤ l
theorem LvAt.skip {cs:List Code} {k d:Nat} {l:Int} (h:LvAt cs k l) (hd:(deps cs)[k]? = some d) (hl:leafB cs k = false):LvAt cs (k + 1) l:=by
 have hk:k < cs.length:=by rw [← deps_length cs];exact (List.getElem?_eq_some_iff.1 hd).1
 refine ⟨hk,?_,h.2.2⟩
 rw [h.2.1,drop_cons (pairs_at hd),hl]
 simp [lv]
theorem LvAt.next {cs:List Code} {k d:Nat} {l:Int} (h:LvAt cs k l) (hd:(deps cs)[k]? = some d) (hl:leafB cs k = true) (h2:¬ (0 ≤ l ∧ (d:Int) ≠ l)):LvAt cs (k + 1) d:=by
 have hk:k < cs.length:=by rw [← deps_length cs];exact (List.getElem?_eq_some_iff.1 hd).1
 refine ⟨hk,?_,by omega⟩
 rw [h.2.1,drop_cons (pairs_at hd),hl]
 simp only [lv,if_true,if_neg h2]
theorem LvAt.bad {cs:List Code} {k d:Nat} {l:Int} (h:LvAt cs k l) (hd:(deps cs)[k]? = some d) (hl:leafB cs k = true) (h2:0 ≤ l ∧ (d:Int) ≠ l):lv (-1) (pairs cs) = false:=by
 rw [h.2.1,drop_cons (pairs_at hd),hl]
 simp only [lv,if_true,if_pos h2]
theorem LvAt.done {cs:List Code} {k:Nat} {l:Int} (h:LvAt cs k l) (hk:¬ (k:Int) < cs.length):lv (-1) (pairs cs) = true:=by
 have e:k = (pairs cs).length:=by rw [pairs_length];have:=h.1;omega
 rw [h.2.1,e,List.drop_length];rfl
abbrev bA (b:Bool):List AV:=[.b b]
set_option maxHeartbeats 4000000 in
theorem check_call (nm:List UInt8) (cs:List Code) (hlen:cs.length ≤ 9223372036854775807):FCall Tryz.prog 47 [lA nm cs] (.i (chk nm cs)):=by
 refine fci Tryz.func47 102 fun hrd E h0=>?_
 repeat' ((first | refine call_i (name_call _) ?_ | refine draw_e ⟨[(1, .ref 0 0),(2, .i 0),(3, .mp 1),(4, .row 2 0 cs.length)],3,[(0,some (.box [.str nm, .sl 2 (cs.map cA)])),(1,some (.map [])),(2,some (.row 4 1 0 (List.replicate cs.length [.b false])))]⟩ ?_ ?_ |refine aops_go ?_|refine S1 ?_|refine Z1 ?_|refine Z2 ?_|(refine And.intro ?_ ?_<;>intro h<;>try first|(exfalso;omega)|exact absurd rfl h)|refine Z3 ?_|refine Z4 ?_|intro el hel hbB|intro el hel|intro ex|refine Z5 ?_|(refine free_i ?_ ?_;exact ⟨by kernel_rfl,by decide⟩)|refine allI_c ?_ ?_|exact allI_n|refine allMP_c ?_ ?_|exact allMP_n|(refine many_step ?_ ?_ ?_;kernel_rfl;kernel_rfl)) <;> (try (conv=>whnf)))
 case refine_1=>exact ret_tmp rfl (congrArg AV.i (chk_name h))
 case refine_2.refine_1=>exact ret_tmp rfl (congrArg AV.i (chk_nil (by assumption) h))
 case refine_2.refine_2.refine_1=>exact ret_tmp rfl (congrArg AV.i (chk_long (by assumption) h))
 case refine_2.refine_2.refine_2.refine_2 =>
  rename_i hn hz
  have hl:=h
  clear h
  have hlen6:cs.length ≤ 1000000:=by omega
  refine loop_i (ι:=Nat) (fun k=>⟨[(1, .ref 0 0),(3, .mp 1),(4, .row 2 0 cs.length),(31, .sl 2 (cs.map cA)),(32, .i cs.length),(33, .i k)],3,[(0,some (.box [.str nm, .sl 2 (cs.map cA)])),(1,some (.map (seenM cs k))),(2,some (.row 4 1 0 ((abv cs k).map bA)))]⟩) (fun k=>ScanAt cs k) (fun k=>cs.length - k) 0 ⟨Nat.zero_le _,by simp⟩ (le_of h0 rfl ⟨rfl,rfl,rfl,rfl,rfl,rfl,trivial⟩ ⟨rfl,rfl,⟨0,by simp [abv]⟩,trivial⟩ rfl rfl rfl) (fun k hI=>?_)
  repeat' ((first | refine call_i (name_call _) ?_ | refine call_i (depths_call _ _ (scan_good (hI.done (by assumption))).before hlen6) ?_ | (refine side_i ?_ ?_;exact seenM_keys _ _) | refine as_eq (seen_get _ _ _) ?_ | (refine each_mapN ?_ (fun x hx=>?_);(rw [abv_length];omega)) |refine aops_go ?_|refine S1 ?_|refine Z1 ?_|refine Z2 ?_|(refine And.intro ?_ ?_<;>intro h<;>try first|(exfalso;omega)|exact absurd rfl h)|refine Z3 ?_|refine Z4 ?_|intro el hel hbB|intro el hel|intro ex|refine Z5 ?_|(refine free_i ?_ ?_;exact ⟨by kernel_rfl,by decide⟩)|refine allI_c ?_ ?_|exact allI_n|refine allMP_c ?_ ?_|exact allMP_n|(refine many_step ?_ ?_ ?_;kernel_rfl;kernel_rfl)) <;> (try (conv=>whnf)))
  all_goals first
   | exact ret_tmp rfl (congrArg AV.i (chk_scan hn hz hl (hI.name hel (by assumption))))
   | exact ret_tmp rfl (congrArg AV.i (chk_scan hn hz hl (hI.dup hel (by assumption) (by assumption))))
   | exact ret_tmp rfl (congrArg AV.i (chk_scan hn hz hl (hI.bad hel (by assumption) (by assumption) (by unfold badP;split <;> simp <;> omega))))
   | exact ⟨k + 1,hI.step hel (by assumption) (by assumption) (by unfold badP;split <;> simp <;> omega),by omega,le_of h0 rfl ⟨rfl,rfl,rfl,rfl,rfl,rfl,trivial⟩ ⟨rfl,congrArg Blk.map (seen_set hel (by assumption)).symm,⟨0,congrArg (fun l=>Blk.row 4 1 0 (l.map bA)) (abv_skip (by omega))⟩,trivial⟩ rfl rfl rfl⟩
   | exact ⟨k + 1,hI.step hel (by assumption) (by assumption) (by unfold badP;split <;> simp <;> omega),by omega,le_of h0 rfl ⟨rfl,rfl,rfl,rfl,rfl,rfl,trivial⟩ ⟨rfl,congrArg Blk.map (seen_set hel (by assumption)).symm,⟨0,congrArg (Blk.row 4 1 0) ((congrArg (List.map bA) (abv_next (by omega) hel)).trans List.map_set)⟩,trivial⟩ rfl rfl rfl⟩
   | skip
  have hs:=hI.done h
  have hg:=scan_good hs
  have hk:k = cs.length:=by have:=hI.1;omega
  subst hk
  refine loop_i (ι:=Nat × Int) (fun x=>⟨[(4, .row 2 0 cs.length),(7, .i x.2),(82, .sl 1 ((deps cs).map iA)),(83, .i (deps cs).length),(84, .i x.1)],3,[(2,some (.row 4 1 0 ((abv cs cs.length).map bA)))]⟩) (fun x=>LvAt cs x.1 x.2) (fun x=>cs.length - x.1) (0, -1) ⟨Nat.zero_le _,by simp,by simp⟩ (le_of h0 rfl ⟨rfl,rfl,rfl,rfl,rfl,trivial⟩ ⟨⟨0,rfl⟩,trivial⟩ rfl rfl rfl) (fun x hJ=>?_)
  obtain ⟨j,l⟩:=x
  have hJ0:=hJ.1
  have hJ2:=hJ.2.2
  have hdl:=deps_length cs
  simp only at hJ hJ0 hJ2
  repeat' ((first | (refine each_mapN ?_ (fun x hx=>?_);(rw [abv_length];omega)) |refine aops_go ?_|refine S1 ?_|refine Z1 ?_|refine Z2 ?_|(refine And.intro ?_ ?_<;>intro h<;>try first|(exfalso;omega)|exact absurd rfl h)|refine Z3 ?_|refine Z4 ?_|intro el hel hbB|intro el hel|intro ex|refine Z5 ?_|(refine free_i ?_ ?_;exact ⟨by kernel_rfl,by decide⟩)|refine allI_c ?_ ?_|exact allI_n|refine allMP_c ?_ ?_|exact allMP_n|(refine many_step ?_ ?_ ?_;kernel_rfl;kernel_rfl)) <;> (try (conv=>whnf)))
  all_goals first
   | exact ⟨(j + 1,l),hJ.skip hel (by rw [abv_leaf (j:=j) hg hx,h];rfl),by simp only;omega,le_of h0 rfl ⟨rfl,rfl,rfl,rfl,rfl,trivial⟩ ⟨⟨0,rfl⟩,trivial⟩ rfl rfl rfl⟩
   | exact ret_tmp rfl (congrArg AV.i (chk_bad hn hz hl hs (hJ.bad hel (by rw [abv_leaf (j:=j) hg hx];simp [*]) ⟨by assumption,by assumption⟩)))
   | exact ⟨(j + 1,(el:Int)),hJ.next hel (by rw [abv_leaf (j:=j) hg hx];simp [*]) (by simp only at *;omega),by simp only;omega,le_of h0 rfl ⟨rfl,rfl,rfl,rfl,rfl,trivial⟩ ⟨⟨0,rfl⟩,trivial⟩ rfl rfl rfl⟩
   | exact ret_tmp rfl (congrArg AV.i (chk_ok hn hz hl hs (hJ.done (by simp only at *;omega))))
 all_goals first
  | exact le_of h0 rfl ⟨rfl,rfl,rfl,rfl,trivial⟩ ⟨rfl,rfl,⟨0,rfl⟩,trivial⟩ rfl rfl rfl
  | exact le_trans (le_swp 1 2 h0 rfl rfl) (le_of h0 rfl ⟨rfl,rfl,rfl,rfl,trivial⟩ ⟨rfl,rfl,⟨0,rfl⟩,trivial⟩ rfl rfl rfl)
theorem dup_step {cs:List Code} {i k:Nat} {a b:Code} (hi:cs[i]? = some a) (hI:∀ c ∈ cs.take k,c.name ≠ a.name) (hb:cs[k]? = some b) (h:¬ b.name = a.name):∀ c ∈ cs.take (k + 1),c.name ≠ a.name:=take_all hI hb h
theorem dup_yes {cs:List Code} {i k:Nat} {a b:Code} (hki:k < i) (hb:cs[k]? = some b) (h:b.name = a.name):a.name ∈ (cs.take i).map (·.name) :=
 List.mem_map.2 ⟨b,List.mem_of_getElem? (i:=k) (by rw [List.getElem?_take_of_lt hki];exact hb),h⟩
theorem dup_no {cs:List Code} {i:Nat} {a:Code} (hI:∀ c ∈ cs.take i,c.name ≠ a.name):a.name ∉ (cs.take i).map (·.name):=by
 intro h
 obtain ⟨c,hc,he⟩:=List.mem_map.1 h
 exact hI c hc he
set_option maxHeartbeats 4000000 in
theorem rcheck_call (nm:List UInt8) (cs:List Code) (hlen:cs.length ≤ 9223372036854775807):FCall Tryz.prog 59 [lA nm cs] (.i (chk nm cs)):=by
 refine fci Tryz.func59 100 fun hrd E h0=>?_
 repeat' ((first | refine call_i (rname_call _) ?_ |refine aops_go ?_|refine S1 ?_|refine Z1 ?_|refine Z2 ?_|(refine And.intro ?_ ?_<;>intro h<;>try first|(exfalso;omega)|exact absurd rfl h)|refine Z3 ?_|refine Z4 ?_|intro el hel hbB|intro el hel|intro ex|refine Z5 ?_|(refine free_i ?_ ?_;exact ⟨by kernel_rfl,by decide⟩)|refine allI_c ?_ ?_|exact allI_n|refine allMP_c ?_ ?_|exact allMP_n|(refine many_step ?_ ?_ ?_;kernel_rfl;kernel_rfl)) <;> (try (conv=>whnf)))
 case refine_1=>exact ret_tmp rfl (congrArg AV.i (chk_name h))
 case refine_2.refine_1=>exact ret_tmp rfl (congrArg AV.i (chk_nil (by assumption) h))
 case refine_2.refine_2.refine_1=>exact ret_tmp rfl (congrArg AV.i (chk_long (by assumption) h))
 rename_i hn hz
 have hl:=h
 clear h
 refine loop_i (ι:=Nat) (fun k=>⟨[(1, .ref 0 0),(3, .i k)],1,[(0,some (.box [.str nm, .sl 2 (cs.map cA)]))]⟩) (fun k=>ScanAt cs k) (fun k=>cs.length - k) 0 ⟨Nat.zero_le _,by simp⟩ (le_of h0 rfl ⟨rfl,rfl,trivial⟩ ⟨rfl,trivial⟩ rfl rfl rfl) (fun k hI=>?_)
 repeat' ((first | refine call_i (rname_call _) ?_ |refine aops_go ?_|refine S1 ?_|refine Z1 ?_|refine Z2 ?_|(refine And.intro ?_ ?_<;>intro h<;>try first|(exfalso;omega)|exact absurd rfl h)|refine Z3 ?_|refine Z4 ?_|intro el hel hbB|intro el hel|intro ex|refine Z5 ?_|(refine free_i ?_ ?_;exact ⟨by kernel_rfl,by decide⟩)|refine allI_c ?_ ?_|exact allI_n|refine allMP_c ?_ ?_|exact allMP_n|(refine many_step ?_ ?_ ?_;kernel_rfl;kernel_rfl)) <;> (try (conv=>whnf)))
 case refine_2.refine_2.refine_2.refine_1.refine_1=>exact ret_tmp rfl (congrArg AV.i (chk_scan hn hz hl (hI.name hel h)))
 ·rename_i hk
  rename Code=>c
  rename cs[k]? = _=>hc
  have hnm:=h
  clear h
  refine loop_i (ι:=Nat) (fun j=>⟨[(1, .ref 0 0),(3, .i k),(4, .i j)],1,[(0,some (.box [.str nm, .sl 2 (cs.map cA)]))]⟩) (fun j=>j ≤ k ∧ ∀ a ∈ cs.take j,a.name ≠ c.name) (fun j=>k - j) 0 ⟨Nat.zero_le _,by simp⟩ (le_of h0 rfl ⟨rfl,rfl,rfl,trivial⟩ ⟨rfl,trivial⟩ rfl rfl rfl) (fun j hJ=>?_)
  obtain ⟨hj,hJ⟩:=hJ
  repeat' ((first | (refine draw_q ?_ ?_;kernel_rfl) |refine aops_go ?_|refine S1 ?_|refine Z1 ?_|refine Z2 ?_|(refine And.intro ?_ ?_<;>intro h<;>try first|(exfalso;omega)|exact absurd rfl h)|refine Z3 ?_|refine Z4 ?_|intro el hel hbB|intro el hel|intro ex|refine Z5 ?_|(refine free_i ?_ ?_;exact ⟨by kernel_rfl,by decide⟩)|refine allI_c ?_ ?_|exact allI_n|refine allMP_c ?_ ?_|exact allMP_n|(refine many_step ?_ ?_ ?_;kernel_rfl;kernel_rfl)) <;> (try (conv=>whnf)))
  all_goals first
   | exact ret_tmp rfl (congrArg AV.i (chk_scan hn hz hl (hI.dup hc hnm (dup_yes (by omega) hel h))))
   | exact ⟨j + 1,⟨by omega,dup_step hc hJ hel h⟩,by omega,le_of h0 rfl ⟨rfl,rfl,rfl,trivial⟩ ⟨rfl,trivial⟩ rfl rfl rfl⟩
   | (have hjk:j = k:=by omega
      subst hjk
      first
       | exact ⟨j + 1,hI.step hc hnm (dup_no hJ) (by unfold badP;split <;> simp <;> omega),by omega,le_of h0 rfl ⟨rfl,rfl,trivial⟩ ⟨rfl,trivial⟩ rfl rfl rfl⟩
       | exact ret_tmp rfl (congrArg AV.i (chk_scan hn hz hl (hI.bad hc hnm (dup_no hJ) (by unfold badP;split <;> simp <;> omega)))))
 ·have hs:=hI.done h
  have hg:=scan_good hs
  have hdl:=deps_length cs
  refine loop_i (ι:=Nat × Int) (fun x=>⟨[(1, .ref 0 0),(6, .i x.2),(7, .i x.1)],1,[(0,some (.box [.str nm, .sl 2 (cs.map cA)]))]⟩) (fun x=>LvAt cs x.1 x.2) (fun x=>cs.length - x.1) (0, -1) ⟨Nat.zero_le _,by simp,by simp⟩ (le_of h0 rfl ⟨rfl,rfl,rfl,trivial⟩ ⟨rfl,trivial⟩ rfl rfl rfl) (fun x hJ=>?_)
  obtain ⟨j,l⟩:=x
  have hJ0:=hJ.1
  have hJ2:=hJ.2.2
  simp only at hJ hJ0 hJ2
  repeat' ((first | refine call_i (leaf_call _ _ _ hlen) ?_ | refine call_i (depth_call _ _ _ _ hg hlen (List.getElem?_eq_getElem (i:=j) (by omega))) ?_ |refine aops_go ?_|refine S1 ?_|refine Z1 ?_|refine Z2 ?_|(refine And.intro ?_ ?_<;>intro h<;>try first|(exfalso;omega)|exact absurd rfl h)|refine Z3 ?_|refine Z4 ?_|intro el hel hbB|intro el hel|intro ex|refine Z5 ?_|(refine free_i ?_ ?_;exact ⟨by kernel_rfl,by decide⟩)|refine allI_c ?_ ?_|exact allI_n|refine allMP_c ?_ ?_|exact allMP_n|(refine many_step ?_ ?_ ?_;kernel_rfl;kernel_rfl)) <;> (try (conv=>whnf)))
  all_goals first
   | exact ⟨(j + 1,l),hJ.skip (List.getElem?_eq_getElem (by simp only at *;omega)) h,by simp only at *;omega,le_of h0 rfl ⟨rfl,rfl,rfl,trivial⟩ ⟨rfl,trivial⟩ rfl rfl rfl⟩
   | exact ret_tmp rfl (congrArg AV.i (chk_bad hn hz hl hs (hJ.bad (List.getElem?_eq_getElem (by simp only at *;omega)) (by assumption) ⟨by assumption,by assumption⟩)))
   | exact ⟨(j + 1,((deps cs)[j]'(by simp only at *;omega):Int)),hJ.next (List.getElem?_eq_getElem (by simp only at *;omega)) (by assumption) (by simp only at *;omega),by simp only at *;omega,le_of h0 rfl ⟨rfl,rfl,rfl,trivial⟩ ⟨rfl,trivial⟩ rfl rfl rfl⟩
   | exact ret_tmp rfl (congrArg AV.i (chk_ok hn hz hl hs (hJ.done (by simp only at *;omega))))
theorem chk_good {nm:List UInt8} {cs:List Code} (h:chk nm cs = 0):Good cs ∧ 0 < cs.length ∧ cs.length ≤ 60:=by
 unfold chk at h
 split at h
 ·cases h
 ·split at h
  ·cases h
  ·split at h
   ·cases h
   ·rename_i h1 h2 h3
    cases hs:scan [] cs with
    | some e =>
     rw [hs] at h
     simp only at h
     subst h
     exfalso
     have:∀ (cs pre:List Code) e,scan pre cs = some e → e = 3 ∨ e = 10 ∨ e = 6:=by
      intro cs
      induction cs with
      | nil=>intro pre e h;cases h
      | cons a r ih =>
       intro pre e h
       simp only [scan] at h
       split at h
       ·cases h;exact .inl rfl
       ·split at h
        ·cases h;exact .inr (.inl rfl)
        ·split at h
         ·cases h;exact .inr (.inr rfl)
         ·exact ih _ _ h
     have:=this _ _ _ hs
     omega
    | none=>exact ⟨scan_good hs,by omega,by omega⟩
theorem good60 {nm:List UInt8} {cs:List Code} (h:chk nm cs = 0):cs.length ≤ 1000000:=by have:=(chk_good h).2.2;omega
def maxL (ds:List Nat):Nat:=ds.foldl max 0
theorem max_take {ds:List Nat} {k x:Nat} (h:ds[k]? = some x):(max (maxL (ds.take k):Int) x) = (maxL (ds.take (k + 1)):Nat):=by
 rw [List.take_add_one,h]
 unfold maxL
 rw [List.foldl_append]
 simp only [Option.toList_some,List.foldl_cons,List.foldl_nil]
 omega
set_option maxHeartbeats 1000000 in
theorem max_call (ds:List Nat) (hne:0 < ds.length) (hlen:ds.length ≤ 1000000):FCall Tryz.prog 230 [.sl 1 (ds.map iA)] (.i (maxL ds)):=by
 refine fci Tryz.func230 25 fun hrd E h0=>?_
 repeat' ((first|refine aops_go ?_|refine S1 ?_|refine Z1 ?_|refine Z2 ?_|(refine And.intro ?_ ?_<;>intro h<;>try first|(exfalso;omega)|exact absurd rfl h)|refine Z3 ?_|refine Z4 ?_|intro el hel hbB|intro el hel|intro ex|refine Z5 ?_|(refine free_i ?_ ?_;exact ⟨by kernel_rfl,by decide⟩)|refine allI_c ?_ ?_|exact allI_n|refine allMP_c ?_ ?_|exact allMP_n|(refine many_step ?_ ?_ ?_;kernel_rfl;kernel_rfl)) <;> (try (conv=>whnf)))
 refine loop_i (ι:=Nat) (fun k=>⟨[(0, .sl 1 (ds.map iA)),(3, .i (maxL (ds.take k))),(4, .i k)],0,[]⟩) (fun k=>k ≤ ds.length) (fun k=>ds.length - k) 1 hne (le_of h0 rfl ⟨rfl,congrArg (fun z:Int=>some (AV.i z)) (by
  have:=max_take (k:=0) hel
  rw [← this]
  simp [maxL]),rfl,trivial⟩ trivial rfl rfl rfl) (fun k hI=>?_)
 repeat' ((first|refine aops_go ?_|refine S1 ?_|refine Z1 ?_|refine Z2 ?_|(refine And.intro ?_ ?_<;>intro h<;>try first|(exfalso;omega)|exact absurd rfl h)|refine Z3 ?_|refine Z4 ?_|intro el hel hbB|intro el hel|intro ex|refine Z5 ?_|(refine free_i ?_ ?_;exact ⟨by kernel_rfl,by decide⟩)|refine allI_c ?_ ?_|exact allI_n|refine allMP_c ?_ ?_|exact allMP_n|(refine many_step ?_ ?_ ?_;kernel_rfl;kernel_rfl)) <;> (try (conv=>whnf)))
 all_goals first
  | exact ⟨k + 1,by omega,by omega,le_of h0 rfl ⟨rfl,congrArg (fun z:Int=>some (AV.i z)) (max_take hel),rfl,trivial⟩ trivial rfl rfl rfl⟩
  | (refine ret_tmp rfl (congrArg (fun z:Nat=>AV.i (z:Int)) ?_)
     rw [show k = ds.length by omega,List.take_length])
def hasB (nm:List UInt8) (cs:List Code) (code:Int):Bool:=decide (0 ≤ code) && decide (code < cs.length) && decide (chk nm cs = 0)
def levelsS (nm:List UInt8) (cs:List Code):Int:=if chk nm cs = 0 then (maxL (deps cs):Int) + 1 else -1
theorem deps_max {cs:List Code} (hb:Before cs):maxL (deps cs) ≤ cs.length:=by
 have:∀ (ds:List Nat) (m a:Nat),(∀ d ∈ ds,d ≤ m) → a ≤ m → ds.foldl max a ≤ m:=by
  intro ds
  induction ds with
  | nil=>intro m a _ h;exact h
  | cons d r ih=>intro m a h ha;exact ih m _ (fun x hx=>h x (by simp [hx])) (by have:=h d (by simp);omega)
 refine this _ _ _ (fun d hd=>?_) (Nat.zero_le _)
 obtain ⟨i,hi,rfl⟩:=List.getElem_of_mem hd
 have h1:=deps_le hb i _ (List.getElem?_eq_getElem hi)
 have h2:=deps_length cs
 omega
set_option maxHeartbeats 1000000 in
theorem levels_call (nm:List UInt8) (cs:List Code) (hlen:cs.length ≤ 9223372036854775807):FCall Tryz.prog 227 [lA nm cs] (.i (levelsS nm cs)):=by
 have hdl:=deps_length cs
 have hmx:=fun h=>And.intro (deps_max (cs:=cs) (chk_good (nm:=nm) h).1.before) (chk_good (nm:=nm) (cs:=cs) h).2.2
 refine fci Tryz.func227 10 fun hrd E h0=>?_
 repeat' ((first | refine call_i (check_call _ _ hlen) ?_ | refine call_i (depths_call _ _ (chk_good (by simpa using h)).1.before (good60 (nm:=nm) (by simpa using h))) ?_ | refine call_i (max_call _ (by have:=chk_good (nm:=nm) (cs:=cs) (by simpa using h);omega) (by have:=good60 (nm:=nm) (cs:=cs) (by simpa using h);omega)) ?_ | (refine side_i ?_ ?_;(have:=hmx (by simpa using h);omega)) |refine aops_go ?_|refine S1 ?_|refine Z1 ?_|refine Z2 ?_|(refine And.intro ?_ ?_<;>intro h<;>try first|(exfalso;omega)|exact absurd rfl h)|refine Z3 ?_|refine Z4 ?_|intro el hel hbB|intro el hel|intro ex|refine Z5 ?_|(refine free_i ?_ ?_;exact ⟨by kernel_rfl,by decide⟩)|refine allI_c ?_ ?_|exact allI_n|refine allMP_c ?_ ?_|exact allMP_n|(refine many_step ?_ ?_ ?_;kernel_rfl;kernel_rfl)) <;> (try (conv=>whnf)))
 all_goals first
  | exact ret_tmp rfl (congrArg AV.i (by simp [levelsS,h]))
  | exact ret_tmp rfl (congrArg AV.i (by have h:chk nm cs = 0:=by simpa using h
                                         simp [levelsS,h]))
def par (cs:List Code) (code:Nat):Nat:=((cs[code]?).map (·.parent.toNat)).getD 0
def upN (cs:List Code) (code:Nat):Nat → Nat
 | 0=>code
 | s + 1=>upN cs (par cs code) s
def dep (cs:List Code) (code:Nat):Nat:=(deps cs).getD code 0
def upS (nm:List UInt8) (cs:List Code) (code level:Int):Int :=
 if hasB nm cs code = true ∧ 0 ≤ level ∧ level ≤ dep cs code.toNat then (upN cs code.toNat (dep cs code.toNat - level.toNat):Int) else -1
theorem dep_get {cs:List Code} {j d:Nat} (h:(deps cs)[j]? = some d):dep cs j = d:=by rw [dep,List.getD_eq_getElem?_getD,h];rfl
theorem dep_at {cs:List Code} {j:Nat} (h:j < cs.length):(deps cs)[j]? = some (dep cs j):=by
 have h2:j < (deps cs).length:=by rw [deps_length];exact h
 rw [dep,List.getD_eq_getElem?_getD,List.getElem?_eq_getElem h2];rfl
theorem dep_par {cs:List Code} (hb:Before cs) {j:Nat} {c:Code} (hc:cs[j]? = some c) (hj:0 < j):dep cs j = dep cs (par cs j) + 1 ∧ par cs j < j ∧ (par cs j:Int) = c.parent:=by
 obtain ⟨h1,h2⟩:=hb j c hc hj
 have hp:par cs j = c.parent.toNat:=by rw [par,hc];rfl
 have h3:=deps_get hb hc
 rw [if_neg (by omega)] at h3
 have:=dep_get h3
 rw [hp]
 exact ⟨this,by omega,by omega⟩
def underS (nm:List UInt8) (cs:List Code) (code above:Int):Bool:=hasB nm cs code && hasB nm cs above && decide (upS nm cs code (dep cs above.toNat) = above)
def fixB (c:Code) (nm:List UInt8):Bool:=decide (c.name = nm)
theorem find1_call (c:Code) (nm:List UInt8):FCall Tryz.prog 229 [.agg (cA c), .iptr [.str nm]] (.b (fixB c nm)):=by
 refine fci Tryz.func229 8 fun hrd E h0=>?_
 repeat' ((first|refine aops_go ?_|refine S1 ?_|refine Z1 ?_|refine Z2 ?_|(refine And.intro ?_ ?_<;>intro h<;>try first|(exfalso;omega)|exact absurd rfl h)|refine Z3 ?_|refine Z4 ?_|intro el hel hbB|intro el hel|intro ex|refine Z5 ?_|(refine free_i ?_ ?_;exact ⟨by kernel_rfl,by decide⟩)|refine allI_c ?_ ?_|exact allI_n|refine allMP_c ?_ ?_|exact allMP_n|(refine many_step ?_ ?_ ?_;kernel_rfl;kernel_rfl)) <;> (try (conv=>whnf)))
 all_goals first
  | exact ret_tmp rfl rfl
def idxF:List Code → List UInt8 → Int → Int
 | [],_,_=>-1
 | c :: r,nm,k=>if fixB c nm = true then k else idxF r nm (k + 1)
set_option maxHeartbeats 2000000 in
theorem index_call (cs:List Code) (nm:List UInt8) (hlen:cs.length ≤ 9223372036854775807):FCall Tryz.prog 228 [.sl 2 (cs.map cA), .fn 229 [.iptr [.str nm]]] (.i (idxF cs nm 0)):=by
 refine fci Tryz.func228 19 fun hrd E h0=>?_
 repeat' ((first|refine aops_go ?_|refine S1 ?_|refine Z1 ?_|refine Z2 ?_|(refine And.intro ?_ ?_<;>intro h<;>try first|(exfalso;omega)|exact absurd rfl h)|refine Z3 ?_|refine Z4 ?_|intro el hel hbB|intro el hel|intro ex|refine Z5 ?_|(refine free_i ?_ ?_;exact ⟨by kernel_rfl,by decide⟩)|refine allI_c ?_ ?_|exact allI_n|refine allMP_c ?_ ?_|exact allMP_n|(refine many_step ?_ ?_ ?_;kernel_rfl;kernel_rfl)) <;> (try (conv=>whnf)))
 refine loop_i (ι:=Nat) (fun k=>⟨[(0, .sl 2 (cs.map cA)),(1, .fn 229 [.iptr [.str nm]]),(7, .i cs.length),(8, .i k)],0,[]⟩) (fun k=>k ≤ cs.length ∧ idxF cs nm 0 = idxF (cs.drop k) nm k) (fun k=>cs.length - k) 0 ⟨Nat.zero_le _,rfl⟩ (le_of h0 rfl ⟨rfl,rfl,rfl,rfl,trivial⟩ trivial rfl rfl rfl) (fun k hI=>?_)
 obtain ⟨hk,hI⟩:=hI
 repeat' ((first | refine call_i (find1_call _ _) ?_ |refine aops_go ?_|refine S1 ?_|refine Z1 ?_|refine Z2 ?_|(refine And.intro ?_ ?_<;>intro h<;>try first|(exfalso;omega)|exact absurd rfl h)|refine Z3 ?_|refine Z4 ?_|intro el hel hbB|intro el hel|intro ex|refine Z5 ?_|(refine free_i ?_ ?_;exact ⟨by kernel_rfl,by decide⟩)|refine allI_c ?_ ?_|exact allI_n|refine allMP_c ?_ ?_|exact allMP_n|(refine many_step ?_ ?_ ?_;kernel_rfl;kernel_rfl)) <;> (try (conv=>whnf)))
 all_goals first
  | exact ⟨k + 1,⟨by omega,by rw [hI,drop_cons hel,idxF,if_neg (by simp [h])];rfl⟩,by omega,le_of h0 rfl ⟨rfl,rfl,rfl,rfl,trivial⟩ trivial rfl rfl rfl⟩
  | exact ret_tmp rfl (congrArg AV.i (by rw [hI,drop_cons hel,idxF,if_pos (by simp [h])]))
  | exact ret_tmp rfl (congrArg AV.i (by rw [hI,show k = cs.length by omega,List.drop_length];rfl))
def findS (nm:List UInt8) (cs:List Code) (n:List UInt8):Int:=if chk nm cs = 0 then idxF cs n 0 else -1
set_option maxHeartbeats 2000000 in
theorem find_call (nm:List UInt8) (cs:List Code) (n:List UInt8) (hlen:cs.length ≤ 9223372036854775807):FCall Tryz.prog 223 [lA nm cs, .str n] (.i (findS nm cs n)):=by
 refine fci Tryz.func223 12 fun hrd E h0=>?_
 repeat' ((first | refine call_i (check_call _ _ hlen) ?_ | refine call_i (index_call _ _ hlen) ?_ | refine ncall_frz 1 ?_ |refine aops_go ?_|refine S1 ?_|refine Z1 ?_|refine Z2 ?_|(refine And.intro ?_ ?_<;>intro h<;>try first|(exfalso;omega)|exact absurd rfl h)|refine Z3 ?_|refine Z4 ?_|intro el hel hbB|intro el hel|intro ex|refine Z5 ?_|(refine free_i ?_ ?_;exact ⟨by kernel_rfl,by decide⟩)|refine allI_c ?_ ?_|exact allI_n|refine allMP_c ?_ ?_|exact allMP_n|(refine many_step ?_ ?_ ?_;kernel_rfl;kernel_rfl)) <;> (try (conv=>whnf)))
 all_goals first
  | (refine ret_tmp rfl (congrArg AV.i ?_);(rw [findS,if_neg h];done))
  | (refine ret_tmp rfl (congrArg AV.i ?_);(rw [findS,if_pos (by simpa using h)];done))
def atK (cs:List Code) (level:Int) (k:Nat):List Nat:=(List.range k).filter fun i=>decide ((dep cs i:Int) = level)
theorem atK_le (cs:List Code) (level:Int) (k:Nat):(atK cs level k).length ≤ k:=by
 have:=List.length_filter_le (fun i=>decide ((dep cs i:Int) = level)) (List.range k)
 simpa [atK] using this
def atS (nm:List UInt8) (cs:List Code) (level:Int):List Nat:=if chk nm cs = 0 then atK cs level cs.length else []
end Go.Proofs.YtjmbhlgocikfiaaGreatDoor
namespace Go.Proofs.YtjmbhlgocikfiaaGreatDoor
open Go Go.Av
set_option maxRecDepth 100000
def okI (n:Int):Prop:=-9223372036854775808 ≤ n ∧ n ≤ 9223372036854775807
theorem sh_i {f:Nat} {l:List AV} (h:Sh Tryz.prog f 3 l):∃ n,okI n ∧ l = [.i n]:=by
 obtain ⟨n,h1,h2⟩:=sh_int Tryz.underlying3 h
 exact ⟨n,wf_i64 h1,h2⟩
theorem sh_s {f:Nat} {l:List AV} (h:Sh Tryz.prog f 9 l):∃ s:List UInt8,s.length ≤ maxLen ∧ l = [.str s]:=sh_str Tryz.underlying9 h
theorem ash_by {a:AV} (h:AShape Tryz.prog 22 a):∃ l:List UInt8,l.length ≤ maxLen ∧ a = .sl 1 (l.map u8A):=ash_bytes Tryz.underlying22 Tryz.underlying5 (by kernel_rfl) h
theorem ash_i {a:AV} (h:AShape Tryz.prog 3 a):∃ n,okI n ∧ a = .i n:=ash_i64 Tryz.underlying3 h
theorem ash_s {a:AV} (h:AShape Tryz.prog 9 a):∃ s:List UInt8,s.length ≤ maxLen ∧ a = .str s:=ash_str Tryz.underlying9 h
end Go.Proofs.YtjmbhlgocikfiaaGreatDoor
