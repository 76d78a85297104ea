/- A small program logic over the kit's walk: abstract values, owned blocks, and rules for the code. Quiet operations: they hand back a value and write nothing that was there. Calls, conversions, and operations that build values or own memory. Operations that make or write memory of one's own. Rows of one's own: make, append, literals; maps of one's own; closures. Slice literals, cuts, maps of one's own, closures. -/
import Derived.WalkKit
import Derived.WalkSpells
import Derived.WalkLawsBesides
import Derived.Lib.Hide
import Derived.Deep.LoopGhost
import Derived.Lib.AppendStr
set_option linter.unusedSimpArgs false
set_option linter.unusedVariables false
set_option linter.unnecessarySimpa false
namespace Go.Av
open Go Go.RowKit
inductive AV where
 | any
 | v (x:Value)
 | str (l:List UInt8)
 | agg (l:List AV)
 | tup (l:List AV)
 | ref (i off:Nat)
 | iptr (l:List AV)
 | sl (sz:Nat) (l:List (List AV))
 | row (i ver len:Nat)
 | mp (i:Nat)
 | elt (i ver k off:Nat)
 | fn (f:Nat) (caps:List AV)
 | err
 | fo (f:Nat) (l:List AV)
 | own (e sz:Nat) (l:List (List AV))
 | sub (i ver lo len:Nat)
instance:Inhabited AV:=⟨.any⟩
inductive Key where
 | s (l:List UInt8)
 | i (k:IntKind) (n:Int)
deriving DecidableEq
def Key.val:Key → Value
 | .s l=>.string ⟨l.toArray⟩
 | .i k n=>.int k n
inductive D9 where
 | bx (τ:Nat) (l:List AV)
 | row (e sz ver:Nat) (l:List (List AV))
 | map (m:List (Key × AV))
 | it (s:List UInt8) (pos:Nat)
@[match_pattern] abbrev D9.box (l:List AV):D9:=.bx 0 l
abbrev Qy (τ:Nat):Type:={ t:Nat // τ = 0 ∨ τ = t + 1 }
def look {α:Type}:List (Nat × α) → Nat → Option α
 | [],_=>none
 | (k,x) :: r,n=>cond (Nat.beq k n) (some x) (look r n)
theorem E3 {α:Type} (k:Nat) (x:α) (r:List (Nat × α)) (n:Nat):look ((k,x) :: r) n = if k = n then some x else look r n:=by
 by_cases h:k = n
 ·subst h;simp [look]
 ·have:Nat.beq k n = false:=by
   cases hb:Nat.beq k n
   ·rfl
   ·exact absurd (Nat.eq_of_beq_eq_true hb) h
  simp [look,this,h]
abbrev Hp:=List (Nat × Option D9)
def B2 (hp:Hp) (i:Nat):Option D9 :=
 match look hp i with
 | some (some b)=>some b
 | _=>none
theorem D5 (k:Nat) (x:Option D9) (r:Hp) (n:Nat):B2 ((k,x) :: r) n = if k = n then x else B2 r n:=by
 unfold B2
 rw [E3]
 by_cases h:k = n <;> simp [h]
 cases x <;> rfl
structure Th where
 v:Nat → Value
 N:Nat → Nat → Option Nat
instance:CoeFun Th fun _=>Nat → Value:=⟨Th.v⟩
structure Cx where
 θ:Th
 nx:Nat
 hp:Hp
 X:Nat → Prop
 w:World
def fp:Value → Option Nat
 | .pointer (some a)=>some a.block
 | .slice (some a) _ _=>some a.block
 | .map (some r)=>some r
 | _=>none
def C6:Nat:=8796093022208
def L7:D9 → Bool
 | .row e _ _ _=>Nat.ble C6 e
 | _=>false
def FP (θ:Th) (i:Nat) (b:D9) (k:Nat):Prop:=fp (θ i) = some k ∨ (L7 b = true ∧ ∃ p,θ.N i k = some p)
def Cx.own (c:Cx) (k:Nat):Prop:=∃ i b,B2 c.hp i = some b ∧ FP c.θ i b k
def Cx.U (c:Cx) (k:Nat):Prop:=c.X k ∨ c.own k
inductive Im (U:Nat → Prop) (w:World):AV → Value → Prop
 | v (x:Value):Im U w (.v x) x
 | str (l:List UInt8):Im U w (.str l) (.string ⟨l.toArray⟩)
 | agg (l:List AV) (cs:List Value) (hl:l.length = cs.length) (h:∀ (j:Nat) x c,l[j]? = some x → cs[j]? = some c → Im U w x c):Im U w (.agg l) (.agg cs.toArray)
 | tup (l:List AV) (cs:List Value) (hl:l.length = cs.length) (h:∀ (j:Nat) x c,l[j]? = some x → cs[j]? = some c → Im U w x c):Im U w (.tup l) (.tuple cs.toArray)
 | fn (f:Nat) (l:List AV) (cs:List Value) (hl:l.length = cs.length) (h:∀ (j:Nat) x c,l[j]? = some x → cs[j]? = some c → Im U w x c):Im U w (.fn f l) (.func (.func f) #[] cs.toArray)
 | err (t:TypeId) (p:Value):Im U w .err (.iface t p)
 | any (x:Value):Im U w .any x
 | own (e sz:Nat) (l:List (List AV)) (x:Value):Im U w (.own e sz l) x
 | iptr (l:List AV) (a:Addr) (f:Nat → Value) (hu:l ≠ [] → ¬ U a.block) (hc:∀ j,j < l.length → w.cell? (a.add j) = some (f j))
   (h:∀ (j:Nat) x,l[j]? = some x → Im U w x (f j)):Im U w (.iptr l) (.pointer (some a))
 | slnil (sz:Nat):Im U w (.sl sz []) (.slice none 0 0)
 | sl (sz:Nat) (l:List (List AV)) (a:Addr) (cap:Nat) (f:Nat → Nat → Value) (hcap:l.length ≤ cap) (hm:cap ≤ maxLen) (hu:l ≠ [] → 0 < sz → ¬ U a.block)
   (hsz:∀ e ∈ l,e.length = sz) (hc:∀ i,i < l.length → ∀ j,j < sz → w.cell? (a.add (i * sz + j)) = some (f i j))
   (h:∀ (i:Nat) e,l[i]? = some e → ∀ (j:Nat) x,e[j]? = some x → Im U w x (f i j)):Im U w (.sl sz l) (.slice (some a) l.length cap)
def PN (v:Value) (sz lo len:Nat) (x:Value):Prop:=(v = .slice none 0 0 ∧ x = .slice none 0 0 ∧ lo = 0 ∧ len = 0) ∨
 ∃ g n cap,v = .slice (some ⟨g,0,none⟩) n cap ∧ x = .slice (some (if cap = lo then ⟨g,0,none⟩ else ⟨g,lo * sz,none⟩)) len (cap - lo)
def BX:Nat:=1099511627776
def IH (f:Nat) (cs:Array Value):Value:=if f < BX then .func (.func f) #[] cs else .func (.func (f - BX)) cs #[]
inductive C5 (c:Cx):AV → Value → Prop
 | any (x:Value):C5 c .any x
 | im {a:AV} {x:Value} (h:Im c.U c.w a x):C5 c a x
 | agg (l:List AV) (cs:List Value) (hl:l.length = cs.length) (h:∀ (j:Nat) x y,l[j]? = some x → cs[j]? = some y → C5 c x y):C5 c (.agg l) (.agg cs.toArray)
 | tup (l:List AV) (cs:List Value) (hl:l.length = cs.length) (h:∀ (j:Nat) x y,l[j]? = some x → cs[j]? = some y → C5 c x y):C5 c (.tup l) (.tuple cs.toArray)
 | fo (f:Nat) (l:List AV) (cs:List Value) (hl:l.length = cs.length) (h:∀ (j:Nat) x y,l[j]? = some x → cs[j]? = some y → C5 c x y):C5 c (.fo f l) (IH f cs.toArray)
 | ref (i off b:Nat) (hi:i < c.nx) (hθ:c.θ i = .pointer (some ⟨b,0,none⟩)):C5 c (.ref i off) (.pointer (some ⟨b,off,none⟩))
 | row (i ver len:Nat) (x:Value) (hi:i < c.nx) (h:∀ e sz v' l,B2 c.hp i = some (.row e sz v' l) → ver ≤ v' ∧ (ver = v' → l.length = len ∧ x = c.θ i)):C5 c (.row i ver len) x
 | mp (i:Nat) (r:Option Nat) (hi:i < c.nx) (hθ:c.θ i = .map r):C5 c (.mp i) (.map r)
 | elt (i ver k off:Nat) (x:Value) (hi:i < c.nx) (h:∀ e sz v' l,B2 c.hp i = some (.row e sz v' l) → ver ≤ v' ∧ (ver = v' → ∃ g n cap,c.θ i = .slice (some ⟨g,0,none⟩) n cap ∧ x = .pointer (some ⟨g,k * sz + off,none⟩))):C5 c (.elt i ver k off) x
 | sub (i ver lo len:Nat) (x:Value) (hi:i < c.nx) (h:∀ e sz v' l,B2 c.hp i = some (.row e sz v' l) → ver ≤ v' ∧ (ver = v' → lo + len ≤ l.length ∧ PN (c.θ i) sz lo len x)):C5 c (.sub i ver lo len) x
def C4:Nat:=1099511627776
def G2:Nat:=2199023255552
def Q0:Nat:=4398046511104
def y8 (w:World) (g e m:Nat):Prop:=Q0 ≤ e → e < C6 → ∀ cur t fz,w.heap[g]? = some (.cells cur t fz) → fz.2 ≤ m
theorem y8.lt {w:World} {g e m:Nat} (h:e < Q0):y8 w g e m:=fun h2=>absurd h2 (by omega)
theorem y8.ge {w:World} {g e m:Nat} (h:C6 ≤ e):y8 w g e m:=fun _ h2=>absurd h2 (by omega)
theorem y8.mono {w w':World} {g e m:Nat} (h:y8 w g e m) (hw:w'.heap[g]? = w.heap[g]?):y8 w' g e m:=fun h1 h2 cur t fz hc=>h h1 h2 cur t fz (by rw [← hw];exact hc)
def R6 (e:Nat):Bool:=Nat.blt e Q0 || Nat.ble C6 e
theorem y8.not {w:World} {g e m:Nat} (h:R6 e = true):y8 w g e m:=by
 simp only [R6,Bool.or_eq_true,Nat.blt_eq,Nat.ble_eq] at h
 exact h.elim .lt .ge
theorem DC {e:Nat} (h:e < Q0):R6 e = true:=by simp only [R6,Bool.or_eq_true,Nat.blt_eq];exact .inl h
theorem X7 {e:Nat} (h:C6 ≤ e):R6 e = true:=by simp only [R6,Bool.or_eq_true,Nat.ble_eq];exact .inr h
theorem GK {e:Nat} (h:e < G2):e < Q0:=by unfold G2 at h;unfold Q0;omega
theorem X1 {e:Nat} (h:e < C4):e < Q0:=by unfold C4 at h;unfold Q0;omega
def u7 (e:Nat):Nat:=cond (Nat.ble 17592186044416 e) (e - 17592186044416) (cond (Nat.ble 13194139533312 e) (e - 13194139533312) (cond (Nat.ble C6 e) (e - C6) (e - G2)))
def G6 (w:World) (g:Nat) (cur:Array Value) (e:Nat):Prop:=(e < G2 ∧ w.heap[g]? = some (.cells cur e (0,0))) ∨ (C4 ≤ e ∧ e < G2 ∧ ∃ t fz,w.heap[g]? = some (.cells cur t fz) ∧ cur.size ≤ fz.1) ∨ (G2 ≤ e ∧ R6 e = true ∧ w.heap[g]? = some (.cells cur (u7 e) (0,0))) ∨ (R6 e = false ∧ ∃ fz,w.heap[g]? = some (.cells cur (e - Q0) fz))
def p7:Nat:=17592186044416
def R1:Nat:=13194139533312
def W6 (e:Nat):Bool:=Nat.ble R1 e && Nat.blt e p7
def L4 (e:Nat):Bool:=(Nat.ble G2 e && Nat.blt e Q0) || Nat.ble p7 e
theorem DD {e:Nat} (h:e < C4):L4 e = false:=by
 cases hb:L4 e with
 | false=>rfl
 | true =>
   simp only [L4,Bool.or_eq_true,Bool.and_eq_true,Nat.ble_eq] at hb
   unfold C4 at h;unfold G2 p7 at hb;omega
def Kept (hp:Hp) (i:Nat):Prop:=∃ e sz v l,B2 hp i = some (.row e sz v l) ∧ L4 e = true
def J7 (w:World) (e size:Nat) (v:Value) (n:Nat) (xs:List Value):Prop :=
 xs.length = n * size ∧ ((v = .slice none 0 0 ∧ n = 0) ∨ ∃ g cap cur,v = .slice (some ⟨g,0,none⟩) n cap ∧ y8 w g e (n * size) ∧ G6 w g cur e ∧ n ≤ cap ∧ cap ≤ maxLen ∧ cur.size = cap * size ∧ cur.toList.take (n * size) = xs)
theorem J7.of {w:World} {b e size n:Nat} {v:Value} {xs:List Value} (h:w.ownsRow b e size v n xs) (he:e < G2):J7 w e size v n xs:=by
 refine ⟨h.1,?_⟩
 rcases h.2 with hn | ⟨g,cap,cur,hv,_,hg,r⟩
 ·exact .inl hn
 ·exact .inr ⟨g,cap,cur,hv, .lt (GK he), .inl ⟨he,hg⟩,r⟩
theorem J7.row {w:World} {e size n:Nat} {v:Value} {xs:List Value} (h:J7 w e size v n xs) (he:e < C4):w.ownsRow 0 e size v n xs:=by
 refine ⟨h.1,?_⟩
 rcases h.2 with hn | ⟨g,cap,cur,hv,h0,hg,r⟩
 ·exact .inl hn
 ·rcases hg with ⟨_,hg⟩ | ⟨hb,_⟩ | ⟨hb,_⟩ | ⟨hb,_⟩
  ·exact .inr ⟨g,cap,cur,hv,Nat.zero_le _,hg,r⟩
  ·omega
  ·unfold C4 at he;unfold G2 at hb;omega
  ·rw [DC (X1 he)] at hb;cases hb
theorem G6.some {w:World} {g e:Nat} {cur:Array Value} (h:G6 w g cur e):∃ t fz,w.heap[g]? = .some (.cells cur t fz) ∧ (R6 e = true → fz = (0,0) ∨ cur.size ≤ fz.1):=by
 rcases h with ⟨_,h⟩ | ⟨_,_,t,fz,h,hf⟩ | ⟨_,_,h⟩ | ⟨hn,fz,h⟩
 ·exact ⟨_,_,h,fun _=>.inl rfl⟩
 ·exact ⟨t,fz,h,fun _=>.inr hf⟩
 ·exact ⟨_,_,h,fun _=>.inl rfl⟩
 ·exact ⟨_,fz,h,fun h2=>by rw [hn] at h2;cases h2⟩
theorem G6.lt {w:World} {g e:Nat} {cur:Array Value} (h:G6 w g cur e):g < w.heap.size:=by
 obtain ⟨t,fz,h,_⟩:=h.some
 exact (Array.getElem?_eq_some_iff.1 h).1
theorem G6.mono {w w':World} {g e:Nat} {cur:Array Value} (h:G6 w g cur e) (hw:w'.heap[g]? = w.heap[g]?):G6 w' g cur e:=by
 unfold G6 at h ⊢
 rw [hw];exact h
theorem J7.len {w w':World} {e e' s s' n n':Nat} {v:Value} {xs xs':List Value} (h:J7 w e s v n xs) (h':J7 w' e' s' v n' xs'):n = n':=by
 rcases h.2 with ⟨h1,h2⟩ | ⟨g,cap,cur,h1,_⟩ <;> rcases h'.2 with ⟨h3,h4⟩ | ⟨g',cap',cur',h3,_⟩
 ·omega
 ·rw [h1] at h3;cases h3
 ·rw [h1] at h3;cases h3
 ·rw [h1] at h3;cases h3;rfl
theorem J7.cells {w:World} {e size n:Nat} {v:Value} {xs:List Value} (h:J7 w e size v n xs) {g:Nat} (hg:v.ownBlock = some g):∀ j u,xs[j]? = some u → w.cell? ((⟨g,0,none⟩:Addr).add j) = some u:=by
 intro j u hu
 rcases h.2 with ⟨rfl,_⟩ | ⟨g',cap,cur,rfl,_,hgg,_,_,_,htake⟩
 ·simp [Value.ownBlock] at hg
 ·simp [Value.ownBlock] at hg
  subst hg
  obtain ⟨t,fz,hgg,_⟩:=hgg.some
  have hadd:(⟨g',0,none⟩:Addr).add j = ⟨g',j,none⟩:=by unfold Addr.add;split <;> simp_all
  rw [hadd]
  rw [← htake,List.getElem?_take] at hu
  split at hu
  ·rw [Array.getElem?_toList] at hu
   simp [World.cell?,hgg,hu]
  ·cases hu
def U2 (w:World) (k:Nat):Prop:=∃ cur t fz,w.heap[k]? = some (.cells cur t fz)
theorem U2.lt {w:World} {k:Nat} (h:U2 w k):k < w.heap.size:=by
 obtain ⟨_,_,_,h⟩:=h
 exact (Array.getElem?_eq_some_iff.1 h).1
theorem U2.mono {w w':World} {k:Nat} (h:U2 w k) (hw:w'.heap[k]? = w.heap[k]?):U2 w' k:=by
 obtain ⟨a,b,c,h⟩:=h
 exact ⟨a,b,c,hw.trans h⟩
def AJ (c:Cx) (i e sz:Nat) (l:List (List AV)):Prop:=C6 ≤ e → (∀ k p,c.θ.N i k = some p → U2 c.w k) ∧
 ∀ (k:Nat) el,l[k]? = some el → ∀ (j e' sz':Nat) l',el[j]? = some (.own e' sz' l') →
  (W6 e = true ∧ C4 ≤ e' ∧ ∃ g n cap y,c.θ i = .slice (some ⟨g,0,none⟩) n cap ∧ c.w.cell? ⟨g,k * sz + j,none⟩ = some y ∧ C5 c (.row (e' - C4) sz' l'.length) y) ∨
  ∃ g n cap y ys,c.θ i = .slice (some ⟨g,0,none⟩) n cap ∧ c.w.cell? ⟨g,k * sz + j,none⟩ = some y ∧ J7 c.w e' sz' y l'.length ys ∧ e' < C4 ∧ (∀ el ∈ l',el.length = sz') ∧
   (∀ (q:Nat) el',l'[q]? = some el' → ∀ (j':Nat) x,el'[j']? = some x → ∃ z,ys[q * sz' + j']? = some z ∧ Im c.U c.w x z) ∧ ∀ b,fp y = some b → b ≠ g ∧ c.θ.N i b = some (k * sz + j)
theorem AJ.lt {c:Cx} {i e sz:Nat} {l:List (List AV)} (h:e < C6):AJ c i e sz l:=fun h2=>absurd h (by omega)
theorem DE {e:Nat} (h:e < G2):e < C6:=by unfold G2 at h;unfold C6;omega
theorem K8 {e:Nat} (h:e < C4):e < C6:=by unfold C4 at h;unfold C6;omega
def J4 (c:Cx) (i:Nat):D9 → Prop
 | .bx τ l=>∃ b arr, ∃ ty:Qy τ,c.θ i = .pointer (some ⟨b,0,none⟩) ∧ c.w.heap[b]? = some (.cells arr ty.1 (0,0)) ∧ arr.size = l.length ∧
   ∀ (j:Nat) x y,l[j]? = some x → arr[j]? = some y → C5 c x y
 | .row e sz _ l=>∃ xs:List Value,J7 c.w e sz (c.θ i) l.length xs ∧ (∀ el ∈ l,el.length = sz) ∧
   (∀ (k:Nat) el,l[k]? = some el → ∀ (j:Nat) x,el[j]? = some x → ∃ y,xs[k * sz + j]? = some y ∧ Im c.U c.w x y) ∧ AJ c i e sz l
 | .map m=>∃ r es clock,c.θ i = .map (some r) ∧ c.w.heap[r]? = some (.map es clock) ∧ es.size = m.length ∧
   ∀ (j:Nat) (kx:Key × AV) e,m[j]? = some kx → es[j]? = some e → e.key = kx.1.val ∧ Im c.U c.w kx.2 e.val
 | .it s pos=>∃ r,c.θ i = .pointer (some ⟨r,0,none⟩) ∧ c.w.heap[r]? = some (.stringIter ⟨s.toArray⟩ pos)
structure Cx.le (c c':Cx):Prop where
 nx:c.nx ≤ c'.nx
 θ:∀ i,i < c.nx → c'.θ i = c.θ i ∨ ∃ a n k,c.θ i = .slice a n k
 rows:∀ i,i < c.nx → ∀ e' sz' v' l',B2 c'.hp i = some (.row e' sz' v' l') → ∃ e v l,B2 c.hp i = some (.row e sz' v l) ∧ (v < v' ∨ (v = v' ∧ l.length = l'.length ∧ c'.θ i = c.θ i))
 size:c.w.heap.size ≤ c'.w.heap.size
 heap:∀ k,k < c.w.heap.size → ¬ c.U k → c'.w.heap[k]? = c.w.heap[k]?
 U:∀ k,k < c.w.heap.size → c'.U k → c.U k
theorem DF {w:World} {a:Addr} {v:Value} (h:w.cell? a = some v):a.block < w.heap.size:=World.block_lt_of_cell? w a h
theorem M1 (a:Addr) (n:Nat):(a.add n).block = a.block:=by unfold Addr.add;split <;> rfl
theorem Im.mono {U U':Nat → Prop} {w w':World} (hh:∀ k,k < w.heap.size → ¬ U k → w'.heap[k]? = w.heap[k]?) (hU:∀ k,k < w.heap.size → U' k → U k)
  {a:AV} {x:Value} (h:Im U w a x):Im U' w' a x:=by
 have cellEq:∀ {p:Addr} {y:Value}, ¬ U p.block → w.cell? p = some y → w'.cell? p = some y:=by
  intro p y hn hc
  rw [← hc]
  exact World.cell?_of_block (hh _ (DF hc) hn)
 induction h with
 | v x=>exact .v x
 | str l=>exact .str l
 | agg l cs hl h ih=>exact .agg l cs hl ih
 | tup l cs hl h ih=>exact .tup l cs hl ih
 | fn f l cs hl h ih=>exact .fn f l cs hl ih
 | err t p=>exact .err t p
 | any x=>exact .any x
 | own e sz l x=>exact .own e sz l x
 | iptr l a f hu hc h ih =>
   refine .iptr l a f (fun hne hu'=>hu hne (hU _ ?_ hu')) (fun j hj=>cellEq ?_ (hc j hj)) ih
   ·have:=hc 0 (List.length_pos_iff.2 hne)
    simpa [M1] using DF this
   ·rw [M1];exact hu (by intro e;simp [e] at hj)
 | slnil sz=>exact .slnil sz
 | sl sz l a cap f hcap hm hu hsz hc h ih =>
   refine .sl sz l a cap f hcap hm (fun hne hs hu'=>hu hne hs (hU _ ?_ hu')) hsz (fun i hi j hj=>cellEq ?_ (hc i hi j hj)) ih
   ·have:=hc 0 (List.length_pos_iff.2 hne) 0 hs
    simpa [M1] using DF this
   ·rw [M1];exact hu (by intro e;simp [e] at hi) (by omega)
theorem C5.mono {c c':Cx} (h:c.le c') {a:AV} {x:Value} (r:C5 c a x):C5 c' a x:=by
 induction r with
 | any x=>exact .any x
 | im hi=>exact .im (hi.mono h.heap h.U)
 | agg l cs hl _ ih=>exact .agg l cs hl ih
 | tup l cs hl _ ih=>exact .tup l cs hl ih
 | fo f l cs hl _ ih=>exact .fo f l cs hl ih
 | ref i off b hi hθ =>
   refine .ref i off b (Nat.lt_of_lt_of_le hi h.nx) ?_
   rcases h.θ i hi with e | ⟨a,n,k,e⟩
   ·rw [e,hθ]
   ·rw [hθ] at e;cases e
 | row i ver len x hi hr =>
   refine .row i ver len x (Nat.lt_of_lt_of_le hi h.nx) fun e' sz' v' l' hl'=>?_
   obtain ⟨e,v,l,hl,hv⟩:=h.rows i hi e' sz' v' l' hl'
   obtain ⟨h1,h2⟩:=hr e sz' v l hl
   rcases hv with hv | ⟨rfl,hlen,ht⟩
   ·exact ⟨by omega,fun e=>by omega⟩
   ·exact ⟨h1,fun e=>⟨hlen ▸ (h2 e).1,by rw [ht];exact (h2 e).2⟩⟩
 | elt i ver k off x hi hr =>
   refine .elt i ver k off x (Nat.lt_of_lt_of_le hi h.nx) fun e' sz' v' l' hl'=>?_
   obtain ⟨e,v,l,hl,hv⟩:=h.rows i hi e' sz' v' l' hl'
   obtain ⟨h1,h2⟩:=hr e sz' v l hl
   rcases hv with hv | ⟨rfl,hlen,ht⟩
   ·exact ⟨by omega,fun e=>by omega⟩
   ·exact ⟨h1,fun e=>by rw [ht];exact h2 e⟩
 | sub i ver lo len x hi hr =>
   refine .sub i ver lo len x (Nat.lt_of_lt_of_le hi h.nx) fun e' sz' v' l' hl'=>?_
   obtain ⟨e,v,l,hl,hv⟩:=h.rows i hi e' sz' v' l' hl'
   obtain ⟨h1,h2⟩:=hr e sz' v l hl
   rcases hv with hv | ⟨rfl,hll,ht⟩
   ·exact ⟨by omega,fun e=>by omega⟩
   ·exact ⟨h1,fun e=>by rw [ht, ← hll];exact h2 e⟩
 | mp i r hi hθ =>
   refine .mp i r (Nat.lt_of_lt_of_le hi h.nx) ?_
   rcases h.θ i hi with e | ⟨a,n,k,e⟩
   ·rw [e,hθ]
   ·rw [hθ] at e;cases e
theorem Is {w:World} {e size n:Nat} {v:Value} {xs:List Value} (h:J7 w e size v n xs) {k:Nat} (hk:fp v = some k):k < w.heap.size:=by
 rcases h.2 with ⟨rfl,_⟩ | ⟨g,cap,cur,rfl,_,hb,_⟩
 ·simp [fp] at hk
 ·simp [fp] at hk
  subst hk
  exact hb.lt
theorem J4.lt0 {c:Cx} {i:Nat} {b:D9} (h:J4 c i b) {k:Nat} (hk:fp (c.θ i) = some k):k < c.w.heap.size:=by
 cases b with
 | bx τ l =>
   obtain ⟨b,arr,ty,hθ,hb,_⟩:=h
   rw [hθ] at hk
   simp [fp] at hk
   subst hk
   exact (Array.getElem?_eq_some_iff.1 hb).1
 | row e sz ver l =>
   obtain ⟨xs,ho,_⟩:=h
   exact Is ho hk
 | map m =>
   obtain ⟨r,es,clock,hθ,hr,_⟩:=h
   rw [hθ] at hk
   simp [fp] at hk
   subst hk
   exact (Array.getElem?_eq_some_iff.1 hr).1
 | it s pos =>
   obtain ⟨r,hθ,hr⟩:=h
   rw [hθ] at hk
   simp [fp] at hk
   subst hk
   exact (Array.getElem?_eq_some_iff.1 hr).1
theorem J4.lt {c:Cx} {i:Nat} {b:D9} (h:J4 c i b) {k:Nat} (hk:FP c.θ i b k):k < c.w.heap.size:=by
 rcases hk with hk | ⟨hn,p,hp⟩
 ·exact h.lt0 hk
 ·cases b with
  | row e sz ver l =>
    obtain ⟨_,_,_,_,hne⟩:=h
    exact ((hne (Nat.ble_eq ▸ hn)).1 k p hp).lt
  | _=>cases hn
theorem J4.nest {c:Cx} {i e sz v:Nat} {l:List (List AV)} (h:J4 c i (.row e sz v l)):AJ c i e sz l:=let ⟨_,_,_,_,h⟩:=h;h
theorem J4.mono {c c':Cx} (h:c.le c') {i:Nat} {b:D9} (o:J4 c i b) (hθ:c'.θ i = c.θ i) (hN:∀ k,c'.θ.N i k = c.θ.N i k) (hb:∀ k,FP c.θ i b k → c'.w.heap[k]? = c.w.heap[k]?):J4 c' i b:=by
 have hb0:∀ k,fp (c.θ i) = some k → c'.w.heap[k]? = c.w.heap[k]?:=fun k hk=>hb k (.inl hk)
 cases b with
 | bx τ l =>
   obtain ⟨b,arr,ty,h1,h2,h3,h4⟩:=o
   exact ⟨b,arr,ty,by rw [hθ,h1],by rw [hb0 b (by simp [h1,fp]),h2],h3,fun j x y hx hy=>(h4 j x y hx hy).mono h⟩
 | row e sz ver l =>
   obtain ⟨xs,h1,h2,h3,h4⟩:=o
   refine ⟨xs,?_,h2,fun k el hk j x hx=>?_,fun hne=>⟨fun k p hk=>have hk2:c.θ.N i k = some p:=by rw [← hN];exact hk
    ((h4 hne).1 k p hk2).mono (hb k (.inr ⟨Nat.ble_eq ▸ hne,p,hk2⟩)),fun k el hk j e' sz' l' hj=>?_⟩⟩
   ·rw [hθ]
    refine ⟨h1.1,?_⟩
    rcases h1.2 with hn | ⟨g,cap,cur,hv,hg,hh,r⟩
    ·exact .inl hn
    ·exact .inr ⟨g,cap,cur,hv,hg.mono (hb0 g (by simp [hv,fp])),hh.mono (hb0 g (by simp [hv,fp])),r⟩
   ·obtain ⟨y,hy,hi⟩:=h3 k el hk j x hx
    exact ⟨y,hy,hi.mono h.heap h.U⟩
   ·rcases (h4 hne).2 k el hk j e' sz' l' hj with ⟨g0,g1,g,n,cap,y,g2,g3,g4⟩ | ⟨g,n,cap,y,ys,g1,g2,g3,g4,g5,g6,g7⟩
    ·exact .inl ⟨g0,g1,g,n,cap,y,by rw [hθ,g2],(World.cell?_of_block (hb0 g (by rw [g2];rfl))).trans g3,g4.mono h⟩
    refine .inr ⟨g,n,cap,y,ys,by rw [hθ,g1],?_,⟨g3.1,g3.2.imp id fun ⟨g',cap',cur,q1,q2,q3,q4⟩=>⟨g',cap',cur,q1, .lt (X1 g4),q3.mono (hb g' (.inr ⟨Nat.ble_eq ▸ hne,_,(g7 g' (by rw [q1];rfl)).2⟩)),q4⟩⟩,g4,g5,fun q el' hq j' x hx=>?_,fun b hbb=>⟨(g7 b hbb).1,by rw [hN];exact (g7 b hbb).2⟩⟩
    ·rw [← g2]
     exact World.cell?_of_block (hb0 g (by rw [g1];rfl))
    ·obtain ⟨z,hz,hi⟩:=g6 q el' hq j' x hx
     exact ⟨z,hz,hi.mono h.heap h.U⟩
 | map m =>
   obtain ⟨r,es,clock,h1,h2,h3,h4⟩:=o
   exact ⟨r,es,clock,by rw [hθ,h1],by rw [hb0 r (by simp [h1,fp]),h2],h3,fun j kx e hx he=>⟨(h4 j kx e hx he).1,(h4 j kx e hx he).2.mono h.heap h.U⟩⟩
 | it s pos =>
   obtain ⟨r,h1,h2⟩:=o
   exact ⟨r,by rw [hθ,h1],by rw [hb0 r (by simp [h1,fp]),h2]⟩
theorem J4.nodf {c:Cx} {i:Nat} {b:D9} (o:J4 c i b) {k:Nat} (hk:FP c.θ i b k) {d:Option (List Deferred)}:c.w.heap[k]? ≠ some (Obj.deferred d):=by
 rcases hk with hk | ⟨hn,p,hp⟩
 ·cases b with
  | bx τ l =>
    obtain ⟨b,arr,ty,hθ,hb,_⟩:=o
    rw [hθ] at hk
    simp [fp] at hk
    subst hk
    rw [hb];intro e;cases e
  | row e sz ver l =>
    obtain ⟨xs,ho,_⟩:=o
    rcases ho.2 with ⟨h1,_⟩ | ⟨g,cap,cur,h1,_,hb,_⟩
    ·rw [h1] at hk;simp [fp] at hk
    ·rw [h1] at hk
     simp [fp] at hk
     subst hk
     obtain ⟨t,fz,h2,_⟩:=hb.some
     rw [h2];intro e;cases e
  | map m =>
    obtain ⟨r,es,clock,hθ,hr,_⟩:=o
    rw [hθ] at hk
    simp [fp] at hk
    subst hk
    rw [hr];intro e;cases e
  | it s pos =>
    obtain ⟨r,hθ,hr⟩:=o
    rw [hθ] at hk
    simp [fp] at hk
    subst hk
    rw [hr];intro e;cases e
 ·cases b with
  | row e sz ver l =>
    obtain ⟨_,_,_,_,hne⟩:=o
    obtain ⟨_,_,_,h2⟩:=(hne (Nat.ble_eq ▸ hn)).1 k p hp
    rw [h2];intro e;cases e
  | _=>cases hn
structure St where
 sl:List (Nat × AV)
 nx:Nat
 hp:Hp
def GL:List (Nat × IntKind × List Int):=[(0, .u8,[0,1,56,2,57,49,28,3,61,58,42,50,38,29,17,4,62,47,59,36,45,43,51,22,53,39,33,30,24,18,12,5,63,55,48,27,60,41,37,16,46,35,44,21,52,32,23,11,54,26,40,15,34,20,31,10,25,14,19,9,13,8,7,6])]
def PO:List Nat:=[]
def PQ:List Nat:=[]
structure N8 (U:Nat → Prop) (w:World):Prop where
 tab:∀ g k l,look GL g = some (k,l) → ¬ U g ∧ ∃ t fr,w.heap[g]? = some (.cells (l.map (Value.int k)).toArray t fr)
 err:∀ g,g ∈ PO → ¬ U g ∧ ∃ te pe t fr,w.heap[g]? = some (.cells #[.iface te pe] t fr)
 num:∀ g,g ∈ PQ → ¬ U g ∧ ∃ m t fr,w.heap[g]? = some (.cells #[.int .i64 m] t fr)
theorem N8.mono {U U':Nat → Prop} {w w':World} (h:N8 U w) (hU:∀ k,k < w.heap.size → U' k → U k) (hh:∀ k,k < w.heap.size → ¬ U k → w'.heap[k]? = w.heap[k]?):N8 U' w':=by
 refine ⟨fun g k l hg=>?_,fun g hg=>?_,fun g hg=>?_⟩
 ·obtain ⟨h1,t,fr,h2⟩:=h.tab g k l hg
  have hlt:g < w.heap.size:=(Array.getElem?_eq_some_iff.1 h2).1
  exact ⟨fun hu=>h1 (hU g hlt hu),t,fr,by rw [hh g hlt h1];exact h2⟩
 ·obtain ⟨h1,te,pe,t,fr,h2⟩:=h.err g hg
  have hlt:g < w.heap.size:=(Array.getElem?_eq_some_iff.1 h2).1
  exact ⟨fun hu=>h1 (hU g hlt hu),te,pe,t,fr,by rw [hh g hlt h1];exact h2⟩
 ·obtain ⟨h1,m,t,fr,h2⟩:=h.num g hg
  have hlt:g < w.heap.size:=(Array.getElem?_eq_some_iff.1 h2).1
  exact ⟨fun hu=>h1 (hU g hlt hu),m,t,fr,by rw [hh g hlt h1];exact h2⟩
theorem N8.cell {U:Nat → Prop} {w:World} (h:N8 U w) {g:Nat} {k:IntKind} {l:List Int} (hg:look GL g = some (k,l)) {j:Nat} {v:Int} (hj:l[j]? = some v):w.cell? ⟨g,j,none⟩ = some (.int k v):=by
 obtain ⟨_,t,fr,h2⟩:=h.tab g k l hg
 unfold World.cell?
 simp [h2,hj]
structure Env where
 w0:World
 X:Nat → Prop
 O:Nat → Prop
 θ0:Nat → Value
 n0:Nat
 tab:N8 (fun k=>X k ∨ O k) w0
 /-- whether the function ranges over functions -/
 rf:Bool
structure Fr (E:Env) (w:World):Prop where
 os:w.os = E.w0.os
 tape:w.tape = E.w0.tape
 output:w.output = E.w0.output
 size:E.w0.heap.size ≤ w.heap.size
 block:∀ k,k < E.w0.heap.size → ¬ E.O k → w.heap[k]? = E.w0.heap[k]?
abbrev QU (b:Nat):Deferred:={ target:=.collected b,args:=#[] }
def II (E:Env) (ds:List Deferred) (w:World):Prop:=(E.rf = false → ds = []) ∧ ∃ bs:List Nat,ds = bs.map QU ∧ bs.Nodup ∧ ∀ b ∈ bs,E.w0.heap.size ≤ b ∧ w.heap[b]? = some (Obj.deferred (some []))
theorem II.nil {E:Env} {w:World}:II E [] w:=⟨fun _=>rfl,[],rfl,List.nodup_nil,fun b h=>by cases h⟩
theorem II.mono {E:Env} {ds:List Deferred} {w w':World} (h:II E ds w) (hw:∀ b:Nat,w.heap[b]? = some (Obj.deferred (some [])) → w'.heap[b]? = w.heap[b]?):II E ds w':=by
 obtain ⟨h1,bs,h2,h3,h4⟩:=h
 exact ⟨h1,bs,h2,h3,fun b hb=>⟨(h4 b hb).1,(hw b (h4 b hb).2).trans (h4 b hb).2⟩⟩
theorem Fz {w:World} {b:Nat} {o:Obj} (h:w.heap[b]? = some o):b < w.heap.size:=(Array.getElem?_eq_some_iff.1 h).1
def cx (E:Env) (θ:Th) (σ:St) (w:World):Cx:={ θ:=θ,nx:=σ.nx,hp:=σ.hp,X:=E.X,w:=w }
structure H0 (E:Env) (n:Nat) (θ:Th) (σ:St) (a:Act) (w:World):Prop where
 size:a.tmps.size = n
 defers:II E a.defers w
 fr:Fr E w
 slots:∀ s x,look σ.sl s = some x → C5 (cx E θ σ w) x (a.tmps.getD s undef)
 owns:∀ i b,B2 σ.hp i = some b → i < σ.nx ∧ J4 (cx E θ σ w) i b
 apart:∀ i j b b' k,B2 σ.hp i = some b → B2 σ.hp j = some b' → FP θ i b k → FP θ j b' k → i = j
 mine:∀ i b k,B2 σ.hp i = some b → FP θ i b k → ¬ E.X k ∧ (E.O k ∨ E.w0.heap.size ≤ k)
 X:∀ k,E.X k → k < E.w0.heap.size
 base:E.n0 ≤ σ.nx ∧ ∀ i,i < E.n0 → θ i = E.θ0 i ∨ (∃ x n k,E.θ0 i = .slice x n k) ∧ ¬ Kept σ.hp i
def T4 (E:Env) (n:Nat) (σ:St) (a:Act) (w:World):Prop:=∃ θ,H0 E n θ σ a w
def Q1:Value → AV
 | .string s=>.str s.data.toList
 | x=>.v x
theorem BZ {U:Nat → Prop} {w:World} (x:Value):Im U w (Q1 x) x:=by
 cases x with
 | string s=>exact (by cases s;exact .str _)
 | _=>exact .v _
def It (g:Nat):AV:=match look GL g with
 | some (k,l)=>.iptr (l.map fun z=>.v (.int k z))
 | none=>.v (.pointer (some ⟨g,0,none⟩))
def D8 (σ:St):Operand → Option AV
 | .tmp t=>look σ.sl t
 | .const c=>some (Q1 c)
 | .global g=>some (It g)
 | .func f=>some (.v (.func (.func f) #[] #[]))
theorem OB {U:Nat → Prop} {w:World} (h:N8 U w) (g:Nat):Im U w (It g) (.pointer (some ⟨g,0,none⟩)):=by
 unfold It
 cases hg:look GL g with
 | none=>exact .v _
 | some p =>
   obtain ⟨k,l⟩:=p
   refine .iptr _ _ (fun j=>.int k (l.getD j 0)) (fun _=>(h.tab g k l hg).1) (fun j hj=>?_) (fun j x hx=>?_)
   ·rw [List.length_map] at hj
    have:=h.cell hg (j:=j) (List.getElem?_eq_getElem hj)
    rw [List.getD_eq_getElem?_getD,List.getElem?_eq_getElem hj]
    by_cases hj0:j = 0
    ·subst hj0;simpa [Addr.add] using this
    ·simpa [Addr.add,hj0] using this
   ·rw [List.getElem?_map,Option.map_eq_some_iff] at hx
    obtain ⟨v,hv,rfl⟩:=hx
    rw [List.getD_eq_getElem?_getD,hv]
    exact .v _
theorem H0.tabU {E:Env} {n:Nat} {θ:Th} {σ:St} {a:Act} {w:World} (h:H0 E n θ σ a w):N8 (cx E θ σ w).U w:=by
 refine E.tab.mono (fun k hk hu=>?_) (fun k hk hu=>h.fr.block k hk fun ho=>hu (.inr ho))
 rcases hu with hx | ⟨i,b,hi,hb⟩
 ·exact .inl hx
 ·rcases (h.mine i b k hi hb).2 with ho | ho
  ·exact .inr ho
  ·omega
theorem H0.ev {E:Env} {n:Nat} {θ:Th} {σ:St} {a:Act} {w:World} (h:H0 E n θ σ a w) {x:Operand} {av:AV} (hx:D8 σ x = some av):C5 (cx E θ σ w) av (a.eval x):=by
 cases x with
 | tmp t=>exact h.slots t av hx
 | const c=>simp [D8] at hx;subst hx;exact .im (BZ c)
 | global g=>simp [D8] at hx;subst hx;exact .im (OB h.tabU g)
 | func f=>simp [D8] at hx;subst hx;exact .im (.v _)
theorem C5.val {c:Cx} {x y:Value} (h:C5 c (.v x) y):y = x:=by
 cases h with
 | im h=>cases h;rfl
theorem C5.sval {c:Cx} {l:List UInt8} {y:Value} (h:C5 c (.str l) y):y = .string ⟨l.toArray⟩:=by
 cases h with
 | im h=>cases h;rfl
def St.put (σ:St) (d:Nat) (x:AV):St:={ σ with sl:=(d,x) :: σ.sl }
theorem H0.put {E:Env} {n:Nat} {θ:Th} {σ:St} {a:Act} {w:World} (h:H0 E n θ σ a w) {d:Nat} (hd:d < n) {x:AV} {v:Value} (hr:C5 (cx E θ σ w) x v) :
  H0 E n θ (σ.put d x) (a.put (some d) v) w where
 size:=by simp [Act.put,h.size]
 defers:=h.defers
 fr:=h.fr
 slots:=by
  intro s y hs
  simp only [St.put,E3] at hs
  by_cases e:d = s
  ·subst e
   simp at hs
   subst hs
   have:(a.put (some d) v).tmps.getD d undef = v:=by simp [Act.put,Array.getD,h.size,hd]
   rw [this]
   exact hr
  ·rw [if_neg e] at hs
   have:(a.put (some d) v).tmps.getD s undef = a.tmps.getD s undef:=by
    simp [Act.put,Array.getD_eq_getD_getElem?,Array.getElem?_setIfInBounds_ne e]
   rw [this]
   exact h.slots s y hs
 owns:=h.owns
 apart:=h.apart
 mine:=h.mine
 X:=h.X
 base:=h.base
def B6 (P:Program) (E:Env) (n:Nat) (ops:Array Oper) (l:List Oper) (σ:St) (K:St → Prop):Prop :=
 ∀ a w,T4 E n σ a w → wpList P ops (fun e a' w'=>e = .normal ∧ ∃ σ',K σ' ∧ T4 E n σ' a' w') l a w
def E4 (P:Program) (E:Env) (n:Nat) (c:Code) (σ:St) (Q:Exit → St → Prop):Prop :=
 ∀ a w,T4 E n σ a w → c.wp P (fun e a' w'=>∃ σ',Q e σ' ∧ T4 E n σ' a' w') a w
section rules
variable {P:Program} {E:Env} {n:Nat} {ops:Array Oper} {rest:List Oper} {σ:St} {K:St → Prop} {Q:Exit → St → Prop}
theorem Le (h:K σ):B6 P E n ops [] σ K:=fun _ _ hs=>⟨rfl,σ,h,hs⟩
variable {d:Nat} {ty:TypeId} {pos:String} {after:Array Edge} {x y:Operand}
theorem Eb {op:Op} {j dj dd:Nat} {g:Bool} (hj:(ops[j]?).bind (·.dst) = some dj) (hb:look σ.sl dj = some (.v (.bool g)))
  (k:B6 P E n ops (⟨some dd,op,ty,pos,after,none⟩ :: rest) σ K):B6 P E n ops (⟨some dd,op,ty,pos,after,some (j,g)⟩ :: rest) σ K:=by
 intro a w hs
 have hs0:=hs
 obtain ⟨θ,hs⟩:=hs
 have hv:a.tmps.getD dj undef = .bool g:=(hs.slots dj _ hb).val
 have hlt:dj < a.tmps.size:=by
  rcases Nat.lt_or_ge dj a.tmps.size with h | h
  ·exact h
  ·rw [Array.getD_eq_getD_getElem?,Array.getElem?_eq_none h] at hv;cases hv
 have hy:yielded ops a.tmps j = some g:=by
  rw [Array.getD_eq_getD_getElem?,Array.getElem?_eq_getElem hlt] at hv
  simp at hv
  simp [yielded,hj,hlt,hv]
 have hh:=k a w hs0
 unfold wpList at hh ⊢
 rw [if_pos (by simp [Region.wanted])] at hh
 rw [if_pos (by simp [Region.wanted,hy])]
 exact hh
def PR:Value → Bool → Bool
 | .bool b,g=>b != g
 | _,_=>true
theorem BO {op:Op} {j dj dd:Nat} {g:Bool} {u:Value} (hj:(ops[j]?).bind (·.dst) = some dj) (hb:look σ.sl dj = some (.v u)) (hu':PR u g = true) (hdd:Nat.blt dd n = true)
  (k:B6 P E n ops rest (σ.put dd (.v undef)) K):B6 P E n ops (⟨some dd,op,ty,pos,after,some (j,g)⟩ :: rest) σ K:=by
 have hu:u ≠ .bool g:=by rintro rfl;simp [PR] at hu'
 intro a w hs
 obtain ⟨θ,hs⟩:=hs
 have hv:a.tmps.getD dj undef = u:=(hs.slots dj _ hb).val
 have hy:yielded ops a.tmps j ≠ some g:=by
  intro e
  simp only [yielded,hj,Option.bind_some] at e
  by_cases hlt:dj < a.tmps.size
  ·rw [Array.getD_eq_getD_getElem?,Array.getElem?_eq_getElem hlt] at hv
   simp at hv
   rw [Array.getElem?_eq_getElem hlt] at e
   rw [hv] at e
   split at e
   ·rename_i b hb'
    cases hb'
    cases e
    exact hu rfl
   ·cases e
  ·rw [Array.getElem?_eq_none (by omega)] at e
   cases e
 unfold wpList
 have hw:¬ Region.wanted (⟨some dd,op,ty,pos,after,some (j,g)⟩:Oper) (yielded ops a.tmps) = true:=by simpa [Region.wanted] using hy
 rw [if_neg hw]
 exact k _ _ ⟨θ,hs.put (Nat.blt_eq ▸ hdd) (.im (.v _))⟩
theorem DW {l:List Oper} {dj:Nat} {b c:Bool} (hb:look σ.sl dj = some (.v (.bool b))) (h:b = c) (k:B6 P E n ops l (σ.put dj (.v (.bool c))) K):B6 P E n ops l σ K:=by
 intro a w ⟨θ,hs⟩
 subst h
 refine k a w ⟨θ,hs.size,hs.defers,hs.fr,fun s x hx=>?_,hs.owns,hs.apart,hs.mine,hs.X,hs.base⟩
 simp only [St.put,E3] at hx
 by_cases e:dj = s
 ·subst e
  rw [if_pos rfl] at hx
  cases hx
  exact hs.slots dj _ hb
 ·rw [if_neg e] at hx
  exact hs.slots s x hx
theorem GM {op:Op} {j dj dd:Nat} {g b:Bool} (hj:(ops[j]?).bind (·.dst) = some dj) (hb:look σ.sl dj = some (.v (.bool b))) (hdd:Nat.blt dd n = true)
  (ht:b = g → B6 P E n ops (⟨some dd,op,ty,pos,after,none⟩ :: rest) (σ.put dj (.v (.bool g))) K)
  (hf:b = !g → B6 P E n ops rest ((σ.put dj (.v (.bool !g))).put dd (.v undef)) K) :
  B6 P E n ops (⟨some dd,op,ty,pos,after,some (j,g)⟩ :: rest) σ K:=by
 by_cases h:b = g
 ·refine DW hb h (Eb hj ?_ (ht h))
  simp [St.put,E3]
 ·have h':b = !g:=by cases b <;> cases g <;> simp_all
  refine DW hb h' (BO (u:=.bool !g) hj ?_ (by cases g <;> rfl) hdd (hf h'))
  simp [St.put,E3]
def GA (K:St → Prop) (Q:Exit → St → Prop):Exit → St → Prop
 | .normal,σ=>K σ
 | e,σ=>Q e σ
def DX (id:Nat) (Q:Exit → St → Prop):Exit → St → Prop
 | .exit i,σ=>cond (Nat.beq i id) (Q .normal σ) (Q (.exit i) σ)
 | e,σ=>Q e σ
theorem OC {c1 c2:Code} (h:E4 P E n c1 σ (GA (fun σ'=>E4 P E n c2 σ' Q) Q)):E4 P E n (.seq c1 c2) σ Q:=by
 intro a w hs
 refine wp_seq (wp_mono (h a w hs) ?_)
 rintro e a w ⟨σ',hq,hs'⟩
 cases e with
 | normal=>exact hq a w hs'
 | _=>exact ⟨σ',hq,hs'⟩
theorem Iu {id:Nat} {l:List Oper} (hl:ops.toList = l) (h:B6 P E n ops l σ (fun σ'=>Q .normal σ')):E4 P E n (.region id ops false) σ Q:=by
 intro a w hs
 subst hl
 have hw:=h a w hs
 refine wp_mono (wp_region_list hw) ?_
 rintro e a w ⟨rfl,σ',hq,hs'⟩
 exact ⟨σ',hq,hs'⟩
theorem Lf (h:Q .normal σ):E4 P E n .skip σ Q:=fun _ _ hs=>wp_skip ⟨σ,h,hs⟩
theorem OD (h:Q .ret σ):E4 P E n .ret σ Q:=fun _ _ hs=>wp_ret ⟨σ,h,hs⟩
theorem Lg {id:Nat} (h:Q (.exit id) σ):E4 P E n (.exit id) σ Q:=fun _ _ hs=>wp_exit ⟨σ,h,hs⟩
theorem KD {id:Nat} {c:Code} (h:E4 P E n c σ (DX id Q)):E4 P E n (.block id c) σ Q:=by
 intro a w hs
 refine wp_block (wp_mono (h a w hs) ?_)
 rintro e a w ⟨σ',hq,hs'⟩
 cases e with
 | exit i =>
   simp only [Exit.inBlock]
   by_cases hi:i = id
   ·subst hi;simp [DX] at hq;rw [if_pos rfl];exact ⟨σ',hq,hs'⟩
   ·have:Nat.beq i id = false:=by
     cases hb:Nat.beq i id
     ·rfl
     ·exact absurd (Nat.eq_of_beq_eq_true hb) hi
    simp [DX,this] at hq;rw [if_neg hi];exact ⟨σ',hq,hs'⟩
 | _=>exact ⟨σ',hq,hs'⟩
theorem DG {c:Operand} {t f:Code} {b:Bool} (hc:D8 σ c = some (.v (.bool b))) (ht:b = true → E4 P E n t σ Q) (hf:b = false → E4 P E n f σ Q):E4 P E n (.cond c t f) σ Q:=by
 intro a w hs
 have hs0:=hs
 obtain ⟨θ,hs⟩:=hs
 exact wp_cond_split (hs.ev hc).val (fun e=>ht e a w hs0) (fun e=>hf e a w hs0)
theorem Iv {c:Operand} {t f:Code} (hc:D8 σ c = some (.v (.bool true))) (ht:E4 P E n t σ Q):E4 P E n (.cond c t f) σ Q:=DG hc (fun _=>ht) (fun e=>by cases e)
theorem Iw {c:Operand} {t f:Code} (hc:D8 σ c = some (.v (.bool false))) (hf:E4 P E n f σ Q):E4 P E n (.cond c t f) σ Q:=DG hc (fun e=>by cases e) (fun _=>hf)
theorem Ez {c:Code} {dj:Nat} {b b':Bool} (hb:look σ.sl dj = some (.v (.bool b))) (h:b = b') (k:E4 P E n c (σ.put dj (.v (.bool b'))) Q):E4 P E n c σ Q:=by
 intro a w ⟨θ,hs⟩
 subst h
 refine k a w ⟨θ,hs.size,hs.defers,hs.fr,fun s x hx=>?_,hs.owns,hs.apart,hs.mine,hs.X,hs.base⟩
 simp only [St.put,E3] at hx
 by_cases e:dj = s
 ·subst e
  rw [if_pos rfl] at hx
  cases hx
  exact hs.slots dj _ hb
 ·rw [if_neg e] at hx
  exact hs.slots s x hx
theorem Ix {t f:Code} {tc:Nat} {b:Bool} (hc:look σ.sl tc = some (.v (.bool b))) (ht:b = true → E4 P E n t (σ.put tc (.v (.bool true))) Q) (hf:b = false → E4 P E n f (σ.put tc (.v (.bool false))) Q):E4 P E n (.cond (.tmp tc) t f) σ Q :=
 DG (c:=.tmp tc) hc (fun e=>Ez hc e (ht e)) (fun e=>Ez hc e (hf e))
def St.le (E:Env) (n:Nat) (σ σ':St):Prop:=∀ a w,T4 E n σ a w → T4 E n σ' a w
theorem U3 {c:Code} {σ':St} (h:St.le E n σ σ') (k:E4 P E n c σ' Q):E4 P E n c σ Q:=fun a w hs=>k a w (h a w hs)
theorem Lh {ι:Type} {c:Code} (S:ι → St) (I:ι → Prop) (m:ι → Nat) (x0:ι) (hI:I x0) (h0:St.le E n σ (S x0))
  (h:∀ x,I x → E4 P E n c (S x) (GA (fun σ'=>∃ y,I y ∧ m y < m x ∧ St.le E n σ' (S y)) Q)):E4 P E n (.loop c) σ Q:=by
 intro a w hs
 refine wp_loop_ghost (fun k a w=>∃ x,m x = k ∧ I x ∧ T4 E n (S x) a w) (m x0) ⟨x0,rfl,hI,h0 a w hs⟩ ?_
 rintro k a w ⟨x,rfl,hIx,hx⟩
 refine wp_mono (h x hIx a w hx) ?_
 rintro e a w ⟨σ',hq,hs'⟩
 cases e with
 | normal =>
   obtain ⟨y,hIy,hy,hle⟩:=hq
   exact ⟨m y,hy,y,rfl,hIy,hle a w hs'⟩
 | _=>exact ⟨σ',hq,hs'⟩
end rules
def K1 (θ:Th) (i:Nat) (v:Value):Th:=⟨fun j=>if j = i then v else θ j,θ.N⟩
theorem CL (θ:Th) (i:Nat) (v:Value):(K1 θ i v).N = θ.N:=rfl
theorem D0 (θ:Th) (i:Nat) (v:Value):K1 θ i v i = v:=by simp [K1]
theorem I3 (θ:Th) {i j:Nat} (v:Value) (h:j ≠ i):K1 θ i v j = θ j:=by simp [K1,h]
def St.new (σ:St) (b:D9):St:={ sl:=σ.sl,nx:=σ.nx + 1,hp:=(σ.nx,some b) :: σ.hp }
def St.set (σ:St) (i:Nat) (b:D9):St:={ σ with hp:=(i,some b) :: σ.hp }
section steps
variable {E:Env} {n:Nat} {θ:Th} {σ:St} {a:Act} {w w':World}
theorem Fr.below (h:Fr E w) (hb:Below w.heap.size w w'):Fr E w' :=
 ⟨hb.os.trans h.os,hb.tape.trans h.tape,hb.output.trans h.output,Nat.le_trans h.size hb.size,fun k hk ho=>(hb.block k (Nat.lt_of_lt_of_le hk h.size)).trans (h.block k hk ho)⟩
theorem H0.below (h:H0 E n θ σ a w) (hb:Below w.heap.size w w'):H0 E n θ σ a w':=by
 have le:(cx E θ σ w).le (cx E θ σ w'):=⟨Nat.le_refl _,fun i hi=>.inl rfl,fun i hi e' sz' v' l' hl=>⟨e',v',l',hl, .inr ⟨rfl,rfl,rfl⟩⟩,hb.size,fun k hk _=>hb.block k hk,fun k hk hu=>hu⟩
 exact ⟨h.size,h.defers.mono fun b hd=>hb.block b (Fz hd),h.fr.below hb,fun s x hs=>(h.slots s x hs).mono le,fun i b hi=>⟨(h.owns i b hi).1,(h.owns i b hi).2.mono le rfl (fun _=>rfl) fun k hk=>hb.block k ((h.owns i b hi).2.lt hk)⟩,h.apart,h.mine,h.X,h.base⟩
theorem H0.grow (h:H0 E n θ σ a w) (hb:Below w.heap.size w w') (v:Value) (b:D9) (hf:∀ k,fp v = some k → w.heap.size ≤ k)
  (ho:(cx E θ σ w).le (cx E (K1 θ σ.nx v) (σ.new b) w') → J4 (cx E (K1 θ σ.nx v) (σ.new b) w') σ.nx b) (hnb:L7 b = false:=by rfl):H0 E n (K1 θ σ.nx v) (σ.new b) a w':=by
 have look':∀ i,B2 (σ.new b).hp i = if σ.nx = i then some b else B2 σ.hp i:=fun i=>by simp [St.new,D5]
 have fpu:∀ {i:Nat} {b':D9} {k:Nat},i ≠ σ.nx → FP (K1 θ σ.nx v) i b' k → FP θ i b' k:=fun hne h=>by
  unfold FP at h ⊢
  rwa [I3 _ _ hne,CL] at h
 have fpn:∀ {k:Nat},FP (K1 θ σ.nx v) σ.nx b k → fp v = some k:=fun h=>by
  rcases h with h | ⟨h,_⟩
  ·rwa [D0] at h
  ·rw [hnb] at h;cases h
 have le:(cx E θ σ w).le (cx E (K1 θ σ.nx v) (σ.new b) w'):=by
  refine ⟨Nat.le_succ _,fun i hi=>.inl (I3 _ _ (Nat.ne_of_lt hi)),fun i hi e' sz' v' l' hl=>?_,hb.size,fun k hk _=>hb.block k hk,fun k hk hu=>?_⟩
  ·have hi':i < σ.nx:=hi
   refine ⟨e',v',l',?_, .inr ⟨rfl,rfl,I3 _ _ (Nat.ne_of_lt hi)⟩⟩
   have:=look' i
   rw [if_neg (by omega)] at this
   exact this ▸ hl
  ·rcases hu with hu | ⟨i,b',hi,hk'⟩
   ·exact .inl hu
   ·have hi2:=look' i
    by_cases e:σ.nx = i
    ·subst e
     rw [if_pos rfl] at hi2
     have hbb:b = b':=by
      have:some b = some b':=hi2.symm.trans hi
      exact Option.some.inj this
     subst hbb
     have hk2:k < w.heap.size:=hk
     have:=hf k (fpn hk')
     omega
    ·rw [if_neg e] at hi2
     exact .inr ⟨i,b',hi2 ▸ hi,fpu (Ne.symm e) hk'⟩
 refine ⟨h.size,h.defers.mono fun b hd=>hb.block b (Fz hd),h.fr.below hb,fun s x hs=>(h.slots s x hs).mono le,fun i b' hi=>?_,fun i j b1 b2 k hi hj hki hkj=>?_,fun i b' k hi hk=>?_,h.X,⟨Nat.le_succ_of_le h.base.1,fun i hi=>by
  have hne:¬ σ.nx = i:=by have:=h.base.1;omega
  rw [I3 _ _ (by omega)]
  refine (h.base.2 i hi).imp id fun ⟨h1,h2⟩=>⟨h1,fun ⟨e,sz,v,l,hl,hk⟩=>h2 ⟨e,sz,v,l,?_,hk⟩⟩
  rw [look',if_neg hne] at hl;exact hl⟩⟩
 ·rw [look'] at hi
  by_cases e:σ.nx = i
  ·subst e
   rw [if_pos rfl] at hi
   cases hi
   exact ⟨Nat.lt_succ_self _,ho le⟩
  ·rw [if_neg e] at hi
   obtain ⟨h1,h2⟩:=h.owns i b' hi
   exact ⟨Nat.lt_succ_of_lt h1,h2.mono le (I3 _ _ (Ne.symm e)) (fun _=>rfl) fun k hk=>hb.block k (h2.lt hk)⟩
 ·rw [look'] at hi hj
  by_cases ei:σ.nx = i <;> by_cases ej:σ.nx = j
  ·omega
  ·subst ei
   rw [if_neg ej] at hj
   rw [if_pos rfl] at hi
   cases hi
   have h1:=hf k (fpn hki)
   have h2:k < w.heap.size:=(h.owns j b2 hj).2.lt (fpu (Ne.symm ej) hkj)
   omega
  ·subst ej
   rw [if_neg ei] at hi
   rw [if_pos rfl] at hj
   cases hj
   have h1:=hf k (fpn hkj)
   have h2:k < w.heap.size:=(h.owns i b1 hi).2.lt (fpu (Ne.symm ei) hki)
   omega
  ·rw [if_neg ei] at hi
   rw [if_neg ej] at hj
   exact h.apart i j b1 b2 k hi hj (fpu (Ne.symm ei) hki) (fpu (Ne.symm ej) hkj)
 ·rw [look'] at hi
  by_cases ei:σ.nx = i
  ·subst ei
   rw [if_pos rfl] at hi
   cases hi
   have h1:=hf k (fpn hk)
   have h2:=h.fr.size
   refine ⟨fun hx=>?_, .inr (by omega)⟩
   have:=h.X k hx
   omega
  ·rw [if_neg ei] at hi
   exact h.mine i b' k hi (fpu (Ne.symm ei) hk)
def Nb (v v':Value):D9 → D9 → Prop
 | b, .row _ sz ver' l'=>(∃ x n c,v = .slice x n c) ∧ ∃ e ver l,b = .row e sz ver l ∧ (ver < ver' ∨ (ver = ver' ∧ l.length = l'.length ∧ v' = v))
 | _, .bx ..=>v' = v
 | _, .map _=>v' = v
 | _, .it ..=>v' = v
theorem H0.turn (h:H0 E n θ σ a w) {i:Nat} {b b':D9} {v':Value} (hi:B2 σ.hp i = some b) (hos:w'.os = w.os) (htape:w'.tape = w.tape) (hout:w'.output = w.output)
  (hsize:w.heap.size ≤ w'.heap.size) (hh:∀ k,k < w.heap.size → fp (θ i) ≠ some k → w'.heap[k]? = w.heap[k]?) (hf:∀ k,fp v' = some k → fp (θ i) = some k ∨ w.heap.size ≤ k)
  (ht:Nb (θ i) v' b b')
  (ho:(cx E θ σ w).le (cx E (K1 θ i v') (σ.set i b') w') → J4 (cx E (K1 θ i v') (σ.set i b') w') i b')
  (hkp:∀ e sz v l,b' = .row e sz v l → L4 e = true → i < E.n0 → v' = θ i ∧ ∃ e0 sz0 v0 l0,b = .row e0 sz0 v0 l0 ∧ L4 e0 = true:=by intro _ _ _ _ h hk _;cases h <;> exact ⟨rfl,_,_,_,_,rfl,hk⟩)
  (hne:L7 b' = true → L7 b = true ∨ ∀ k,θ.N i k = none:=by intro h;first | exact .inl h | cases h):H0 E n (K1 θ i v') (σ.set i b') a w':=by
 have look':∀ j,B2 (σ.set i b').hp j = if i = j then some b' else B2 σ.hp j:=fun j=>by simp [St.set,D5]
 have own0:∀ k,fp (θ i) = some k → (cx E θ σ w).own k:=fun k hk=>⟨i,b,hi, .inl hk⟩
 have fpu:∀ {j:Nat} {bj:D9} {k:Nat},j ≠ i → FP (K1 θ i v') j bj k → FP θ j bj k:=fun hne h=>by
  unfold FP at h ⊢
  rwa [I3 _ _ hne,CL] at h
 have fpi:∀ {k:Nat},FP (K1 θ i v') i b' k → FP θ i b k ∨ w.heap.size ≤ k:=fun {k} h=>by
  rcases h with h | ⟨h,p,hp⟩
  ·rw [D0] at h
   exact (hf k h).imp .inl id
  ·rcases hne h with h2 | h2
   ·exact .inl (.inr ⟨h2,p,hp⟩)
   ·rw [CL,h2 k] at hp;cases hp
 have look2:∀ {bj:D9},B2 (σ.set i b').hp i = some bj → bj = b':=fun {bj} hj=>by
  rw [look',if_pos rfl] at hj
  exact (Option.some.inj hj).symm
 have le:(cx E θ σ w).le (cx E (K1 θ i v') (σ.set i b') w'):=by
  refine ⟨Nat.le_refl _,fun j hj=>?_,fun j hj e' sz' vr' l' hl=>?_,hsize,fun k hk hu=>?_,fun k hk hu=>?_⟩
  ·by_cases e:j = i
   ·subst e
    cases b' with
    | bx τ l=>exact .inl (by simp only [cx,D0];exact ht)
    | row e sz ver l=>exact .inr ht.1
    | map m=>exact .inl (by simp only [cx,D0];exact ht)
    | it s pos=>exact .inl (by simp only [cx,D0];exact ht)
   ·exact .inl (I3 _ _ e)
  ·have hl2:=look' j
   by_cases e:i = j
   ·subst e
    rw [if_pos rfl] at hl2
    have:b' = .row e' sz' vr' l':=by
     have:some b' = some (.row e' sz' vr' l'):=hl2.symm.trans hl
     exact Option.some.inj this
    subst this
    obtain ⟨_,e0,v0,l0,rfl,hv⟩:=ht
    refine ⟨e0,v0,l0,hi,?_⟩
    rcases hv with hv | ⟨hv,hll,hvv⟩
    ·exact .inl hv
    ·exact .inr ⟨hv,hll,by simp only [cx,D0];exact hvv⟩
   ·rw [if_neg e] at hl2
    exact ⟨e',vr',l',hl2 ▸ hl, .inr ⟨rfl,rfl,I3 _ _ (Ne.symm e)⟩⟩
  ·exact hh k hk fun e=>hu (.inr (own0 k e))
  ·rcases hu with hu | ⟨j,bj,hj,hk'⟩
   ·exact .inl hu
   ·have hl2:=look' j
    by_cases e:i = j
    ·subst e
     have hb2:=look2 hj
     subst hb2
     rcases fpi hk' with h1 | h1
     ·exact .inr ⟨i,b,hi,h1⟩
     ·have hk2:k < w.heap.size:=hk
      omega
    ·rw [if_neg e] at hl2
     exact .inr ⟨j,bj,hl2 ▸ hj,fpu (Ne.symm e) hk'⟩
 have hfr:Fr E w':=by
  refine ⟨hos.trans h.fr.os,htape.trans h.fr.tape,hout.trans h.fr.output,Nat.le_trans h.fr.size hsize,fun k hk hO=>?_⟩
  have h1:=h.fr.size
  rw [hh k (by omega) fun e=>?_]
  ·exact h.fr.block k hk hO
  ·rcases (h.mine i b k hi (.inl e)).2 with h2 | h2
   ·exact hO h2
   ·omega
 refine ⟨h.size,h.defers.mono fun k hd=>hh k (Fz hd) fun hk=>(h.owns i b hi).2.nodf (.inl hk) hd,hfr,fun s x hs=>(h.slots s x hs).mono le,fun j bj hj=>?_,fun j1 j2 b1 b2 k h1 h2 hk1 hk2=>?_,fun j bj k hj hk=>?_,h.X,⟨h.base.1,fun j hj=>?_⟩⟩
 ·rw [look'] at hj
  by_cases e:i = j
  ·subst e
   rw [if_pos rfl] at hj
   cases hj
   exact ⟨(h.owns i b hi).1,ho le⟩
  ·rw [if_neg e] at hj
   obtain ⟨h1,h2⟩:=h.owns j bj hj
   refine ⟨h1,h2.mono le (I3 _ _ (Ne.symm e)) (fun _=>rfl) fun k hk=>hh k (h2.lt hk) fun e2=>e (h.apart i j b bj k hi hj (.inl e2) hk)⟩
 ·by_cases e1:i = j1 <;> by_cases e2:i = j2
  ·omega
  ·subst e1
   have hb1:=look2 h1
   subst hb1
   rw [look',if_neg e2] at h2
   rcases fpi hk1 with h3 | h3
   ·exact h.apart i j2 b b2 k hi h2 h3 (fpu (Ne.symm e2) hk2)
   ·have h4:k < w.heap.size:=(h.owns j2 b2 h2).2.lt (fpu (Ne.symm e2) hk2)
    omega
  ·subst e2
   have hb2:=look2 h2
   subst hb2
   rw [look',if_neg e1] at h1
   rcases fpi hk2 with h3 | h3
   ·exact h.apart j1 i b1 b k h1 hi (fpu (Ne.symm e1) hk1) h3
   ·have h4:k < w.heap.size:=(h.owns j1 b1 h1).2.lt (fpu (Ne.symm e1) hk1)
    omega
  ·rw [look',if_neg e1] at h1
   rw [look',if_neg e2] at h2
   exact h.apart j1 j2 b1 b2 k h1 h2 (fpu (Ne.symm e1) hk1) (fpu (Ne.symm e2) hk2)
 ·by_cases e:i = j
  ·subst e
   have hb1:=look2 hj
   subst hb1
   rcases fpi hk with h3 | h3
   ·exact h.mine i b k hi h3
   ·have h4:=h.fr.size
    refine ⟨fun hx=>?_, .inr (by omega)⟩
    have:=h.X k hx
    omega
  ·rw [look',if_neg e] at hj
   exact h.mine j bj k hj (fpu (Ne.symm e) hk)
 ·by_cases e:j = i
  ·subst e
   rw [D0]
   have hv:v' = θ j ∨ ∃ x n k,θ j = .slice x n k:=by
    cases b' with
    | bx τ l=>exact .inl ht
    | row e sz ver l=>exact .inr ht.1
    | map m=>exact .inl ht
    | it s pos=>exact .inl ht
   have hk2:Kept (σ.set j b').hp j → v' = θ j ∧ Kept σ.hp j:=fun ⟨e,sz,v,l,hl,hk⟩=>by
    rw [look',if_pos rfl] at hl
    obtain ⟨h1,e0,sz0,v0,l0,rfl,h3⟩:=hkp e sz v l (Option.some.inj hl) hk hj
    exact ⟨h1,e0,sz0,v0,l0,hi,h3⟩
   by_cases hkk:Kept (σ.set j b').hp j
   ·obtain ⟨h1,h2⟩:=hk2 hkk
    rw [h1]
    rcases h.base.2 j hj with e2 | ⟨_,e2⟩
    ·exact .inl e2
    ·exact absurd h2 e2
   ·rcases hv with hv | ⟨x,m,k,hv⟩
    ·rcases h.base.2 j hj with e2 | ⟨e2,_⟩
     ·exact .inl (hv.trans e2)
     ·exact .inr ⟨e2,hkk⟩
    ·rcases h.base.2 j hj with e2 | ⟨e2,_⟩
     ·exact .inr ⟨⟨x,m,k,by rw [← e2,hv]⟩,hkk⟩
     ·exact .inr ⟨e2,hkk⟩
  ·rw [I3 _ _ e]
   refine (h.base.2 j hj).imp id fun ⟨h1,h2⟩=>⟨h1,fun ⟨e',sz,v,l,hl,hk⟩=>h2 ⟨e',sz,v,l,?_,hk⟩⟩
   rw [look',if_neg (Ne.symm e)] at hl;exact hl
theorem DY {a b:Nat} (h:b < a):Nat.ble a b = false:=by
 cases hb:Nat.ble a b with
 | false=>rfl
 | true=>have:=Nat.ble_eq ▸ hb;omega
theorem u9 {a b:Nat} (h:a ≤ b):Nat.ble a b = true:=Nat.ble_eq ▸ h
theorem I8 {e sz v:Nat} {l:List (List AV)} (h:e < C6):L7 (.row e sz v l) = false:=by
 cases hb:L7 (.row e sz v l) with
 | false=>rfl
 | true=>have:C6 ≤ e:=Nat.ble_eq ▸ hb;omega
end steps
class G7 (P:Program) (T:Nat) (l:outParam (List Value)):Prop where
 out:∃ i z,P.info? T = some i ∧ i.zero = some z ∧ z.cells = l.toArray
class G3 (P:Program) (T:Nat) (agg:outParam Bool) (sz:outParam Nat):Prop where
 out:∃ i d,P.info? T = some i ∧ P.underlying T = some d ∧ i.size = sz ∧ (match d with | .struct _ | .array _ _=>true | _=>false) = agg
class L3 (P:Program) (S f:Nat) (off sz:outParam Nat):Prop where
 out:∃ fs fd i,P.underlying S = some (.struct fs) ∧ fs[f]? = some fd ∧ fd.offset = off ∧ P.info? fd.type = some i ∧ i.size = sz
class I6 (P:Program) (T:Nat) (e sz:outParam Nat):Prop where
 out:P.underlying T = some (.slice e) ∧ ∃ i,P.info? e = some i ∧ i.size = sz
class Ac (P:Program) (T:Nat) (len e sz:outParam Nat):Prop where
 out:P.underlying T = some (.array len e) ∧ ∃ i,P.info? e = some i ∧ i.size = sz
class K3 (P:Program) (T:Nat) (n:outParam Nat):Prop where
 out:∃ i,P.info? T = some i ∧ i.bytes = n
class KE (P:Program) (T:Nat):Prop where
 out:∃ i,P.info? T = some i ∧ i.zero = some (.int .u8 0)
class O0 (P:Program) (T:Nat):Prop where
 out:P.underlying T = some .string
class CM (P:Program) (T:Nat):Prop where
 out:P.underlying T = some .bool
class p8 (P:Program) (T:Nat):Prop where
 out:∃ ms,P.underlying T = some (.interface ms)
class n3 (P:Program) (T:Nat) (k1 k2:outParam IntKind):Prop where
 out : ∃ f1 f2 : Field,P.underlying T = some (.struct #[f1,f2]) ∧ (f1.name ≠ "_" ∧ f2.name ≠ "_" ∧ f1.offset = 0 ∧ f2.offset = 1) ∧ (P.underlying f1.type = some (.int k1) ∧ P.underlying f2.type = some (.int k2)) ∧ P.stoodInHeld T = false ∧ P.eqGuardType P.depth T = false
class p0 (P:Program) (T:Nat) (k:outParam IntKind):Prop where
 out : ∃ f1 f2 : Field,P.underlying T = some (.struct #[f1,f2]) ∧ (f1.name ≠ "_" ∧ f2.name ≠ "_" ∧ f1.offset = 0 ∧ f2.offset = 1) ∧ (P.underlying f1.type = some .string ∧ P.underlying f2.type = some (.int k)) ∧ P.stoodInHeld T = false ∧ P.eqGuardType P.depth T = false
class CN (P:Program) (T:Nat) (k1 k2 k3:outParam IntKind):Prop where
 out : ∃ f1 f2 f3 : Field,P.underlying T = some (.struct #[f1,f2,f3]) ∧ (f1.name ≠ "_" ∧ f2.name ≠ "_" ∧ f3.name ≠ "_" ∧ f1.offset = 0 ∧ f2.offset = 1 ∧ f3.offset = 2) ∧ (P.underlying f1.type = some (.int k1) ∧ P.underlying f2.type = some (.int k2) ∧ P.underlying f3.type = some (.int k3)) ∧ P.stoodInHeld T = false ∧ P.eqGuardType P.depth T = false
class J9 (P:Program) (T:Nat) (k:outParam IntKind):Prop where
 out:P.underlying T = some (.int k)
class TMap (P:Program) (T:Nat) (k e:outParam Nat):Prop where
 out:P.underlying T = some (.map k e)
def KF (P:Program) (T:Nat):Bool:=match P.underlying T with
 | some (.interface _)=>true
 | _=>false
theorem p8.of {P:Program} {T:Nat} (h:KF P T = true):p8 P T:=by
 unfold KF at h
 split at h
 ·rename_i ms hm;exact ⟨ms,hm⟩
 ·cases h
def Ba (P:Program) (T:Nat) (k:IntKind):Bool:=match P.underlying T with
 | some (.int k')=>decide (k' = k)
 | _=>false
theorem p1 {P:Program} {T:Nat} {k:IntKind} (h:Ba P T k = true):P.underlying T = some (.int k):=by
 unfold Ba at h
 split at h
 ·rename_i k' hk;rw [hk,of_decide_eq_true h]
 ·cases h
def GN (P:Program) (T:Nat) (k1 k2:IntKind):Bool:=match P.underlying T with
 | some (.struct ⟨[f1,f2]⟩) => decide (f1.name ≠ "_" ∧ f2.name ≠ "_" ∧ f1.offset = 0 ∧ f2.offset = 1) && Ba P f1.type k1 && Ba P f2.type k2 && !P.stoodInHeld T && !P.eqGuardType P.depth T
 | _=>false
theorem n3.of {P:Program} {T:Nat} {k1 k2:IntKind} (h:GN P T k1 k2 = true):n3 P T k1 k2:=by
 unfold GN at h
 split at h
 ·rename_i f1 f2 hf
  simp only [Bool.and_eq_true,Bool.not_eq_true'] at h
  obtain ⟨⟨⟨⟨h1,h2⟩,h3⟩,h4⟩,h5⟩:=h
  exact ⟨f1,f2,hf,of_decide_eq_true h1,⟨p1 h2,p1 h3⟩,h4,h5⟩
 ·cases h
def Iy (P:Program) (T:Nat):Bool:=match P.underlying T with
 | some .string=>true
 | _=>false
theorem Li {P:Program} {T:Nat} (h:Iy P T = true):P.underlying T = some .string:=by
 unfold Iy at h
 split at h
 ·assumption
 ·cases h
def IJ (P:Program) (T:Nat) (k:IntKind):Bool:=match P.underlying T with
 | some (.struct ⟨[f1,f2]⟩) => decide (f1.name ≠ "_" ∧ f2.name ≠ "_" ∧ f1.offset = 0 ∧ f2.offset = 1) && Iy P f1.type && Ba P f2.type k && !P.stoodInHeld T && !P.eqGuardType P.depth T
 | _=>false
theorem p0.of {P:Program} {T:Nat} {k:IntKind} (h:IJ P T k = true):p0 P T k:=by
 unfold IJ at h
 split at h
 ·rename_i f1 f2 hf
  simp only [Bool.and_eq_true,Bool.not_eq_true'] at h
  obtain ⟨⟨⟨⟨h1,h2⟩,h3⟩,h4⟩,h5⟩:=h
  exact ⟨f1,f2,hf,of_decide_eq_true h1,⟨Li h2,p1 h3⟩,h4,h5⟩
 ·cases h
def DZ (P:Program) (T:Nat) (k1 k2 k3:IntKind):Bool:=match P.underlying T with
 | some (.struct ⟨[f1,f2,f3]⟩) => decide (f1.name ≠ "_" ∧ f2.name ≠ "_" ∧ f3.name ≠ "_" ∧ f1.offset = 0 ∧ f2.offset = 1 ∧ f3.offset = 2) && Ba P f1.type k1 && Ba P f2.type k2 && Ba P f3.type k3 && !P.stoodInHeld T && !P.eqGuardType P.depth T
 | _=>false
theorem CN.of {P:Program} {T:Nat} {k1 k2 k3:IntKind} (h:DZ P T k1 k2 k3 = true):CN P T k1 k2 k3:=by
 unfold DZ at h
 split at h
 ·rename_i f1 f2 f3 hf
  simp only [Bool.and_eq_true,Bool.not_eq_true'] at h
  obtain ⟨⟨⟨⟨⟨h1,h2⟩,h3⟩,h3'⟩,h4⟩,h5⟩:=h
  exact ⟨f1,f2,f3,hf,of_decide_eq_true h1,⟨p1 h2,p1 h3,p1 h3'⟩,h4,h5⟩
 ·cases h
def RC:TypeDesc → Bool
 | .struct _ | .array _ _=>true
 | _=>false
theorem G7.of {P:Program} {T:Nat} {l:List Value} (h:((P.info? T).bind fun i=>i.zero.map (·.cells)) = some l.toArray):G7 P T l:=by
 cases hi:P.info? T with
 | none=>simp [hi] at h
 | some i =>
   cases hz:i.zero with
   | none=>simp [hi,hz] at h
   | some z=>simp [hi,hz] at h;exact ⟨i,z,hi,hz,h⟩
theorem G3.of {P:Program} {T sz:Nat} {ag:Bool} (h:(P.info? T).map (·.size) = some sz) (h2:(P.underlying T).map RC = some ag):G3 P T ag sz:=by
 cases hi:P.info? T with
 | none=>simp [hi] at h
 | some i =>
   cases hu:P.underlying T with
   | none=>simp [hu] at h2
   | some d =>
     simp [hi] at h
     simp [hu] at h2
     refine ⟨i,d,hi,hu,h,?_⟩
     rw [← h2]
     cases d <;> rfl
def Nc (P:Program) (S f:Nat):Option (Nat × Nat) :=
 match P.underlying S with
 | some (.struct fs)=>(fs[f]?).bind fun fd=>(P.info? fd.type).map fun i=>(fd.offset,i.size)
 | _=>none
theorem L3.of {P:Program} {S f off sz:Nat} (h:Nc P S f = some (off,sz)):L3 P S f off sz:=by
 unfold Nc at h
 split at h
 ·rename_i fs hu
  cases hf:fs[f]? with
  | none=>simp [hf] at h
  | some fd =>
    cases hi:P.info? fd.type with
    | none=>simp [hf,hi] at h
    | some i =>
      simp [hf,hi] at h
      exact ⟨fs,fd,i,hu,hf,h.1,hi,h.2⟩
 ·cases h
theorem I6.of {P:Program} {T e sz:Nat} (h:P.underlying T = some (.slice e)) (h2:(P.info? e).map (·.size) = some sz):I6 P T e sz:=by
 cases hi:P.info? e with
 | none=>simp [hi] at h2
 | some i=>simp [hi] at h2;exact ⟨h,i,hi,h2⟩
theorem Ac.of {P:Program} {T len e sz:Nat} (h:P.underlying T = some (.array len e)) (h2:(P.info? e).map (·.size) = some sz):Ac P T len e sz:=by
 cases hi:P.info? e with
 | none=>simp [hi] at h2
 | some i=>simp [hi] at h2;exact ⟨h,i,hi,h2⟩
theorem K3.of {P:Program} {T n:Nat} (h:(P.info? T).map (·.bytes) = some n):K3 P T n:=by
 cases hi:P.info? T with
 | none=>simp [hi] at h
 | some i=>simp [hi] at h;exact ⟨i,hi,h⟩
def kx (E:Env) (θ:Th) (nx:Nat) (hp:Hp) (w:World):Cx:=⟨θ,nx,hp,E.X,w⟩
structure Q3 (E:Env) (θ:Th) (nx:Nat) (hp:Hp) (ev:Operand → Option AV) (a:Act) (w:World):Prop where
 fr:Fr E w
 owns:∀ i b,B2 hp i = some b → i < nx ∧ J4 (kx E θ nx hp w) i b
 X:∀ k,E.X k → k < E.w0.heap.size
 rel:∀ {x av},ev x = some av → C5 (kx E θ nx hp w) av (a.eval x)
 apart:∀ i j b b' k,B2 hp i = some b → B2 hp j = some b' → FP θ i b k → FP θ j b' k → i = j
 fresh:∀ i b k,B2 hp i = some b → FP θ i b k → ¬ E.X k
 tab:N8 (kx E θ nx hp w).U w
theorem Q3.Ult {E:Env} {θ:Th} {nx:Nat} {hp:Hp} {ev:Operand → Option AV} {a:Act} {w:World} (hs:Q3 E θ nx hp ev a w):∀ k,(kx E θ nx hp w).U k → k < w.heap.size:=by
 rintro k (hk | ⟨i,b,hi,hk⟩)
 ·have h1:=hs.X k hk
  have h2:=hs.fr.size
  omega
 ·exact (hs.owns i b hi).2.lt hk
theorem H0.evT {E:Env} {n:Nat} {θ:Th} {σ:St} {a:Act} {w:World} (h:H0 E n θ σ a w):Q3 E θ σ.nx σ.hp (D8 σ) a w:=⟨h.fr,h.owns,h.X,fun hx=>h.ev hx,h.apart,fun i b k hi hk=>(h.mine i b k hi hk).1,h.tabU⟩
def BP (P:Program) (o:Oper) (a:Act) (w:World) (K:Value → World → Prop):Prop :=
 match (execOp a.eval o).run P w with
 | .ok (.value v) w'=>K v w'
 | .ok (.enter f args) w'=>Calls P f args w' fun e w''=>∃ v,e = .returned v ∧ K v w''
 | _=>False
def E2 (P:Program) (E:Env) (nx:Nat) (hp:Hp) (ev:Operand → Option AV) (op:Op) (ty:TypeId) (av:AV):Prop :=
 ∀ d pos after θ a w K,Q3 E θ nx hp ev a w → (∀ v w',Below w.heap.size w w' → C5 (kx E θ nx hp w') av v → K v w') → BP P ⟨d,op,ty,pos,after,none⟩ a w K
theorem GO {P:Program} {o:Oper} {a:Act} {w:World} {K:Value → World → Prop} {next:Act → World → Prop} {Q:Exit → Act → World → Prop} (h:BP P o a w K) (hk:∀ v w',K v w' → next (a.put o.dst v) w'):o.wp P a w next Q:=by
 unfold BP at h
 unfold Oper.wp
 split at h
 ·rename_i v w' hr
  rw [hr]
  exact hk _ _ h
 ·rename_i f args w' hr
  rw [hr]
  refine Calls.mono h ?_
  rintro e w'' ⟨v,rfl,hv⟩
  exact hk _ _ hv
 ·exact h.elim
section rules
variable {P:Program} {E:Env} {n nx:Nat} {hp:Hp} {ev:Operand → Option AV} {ops:Array Oper} {rest:List Oper} {σ:St} {K:St → Prop} {Q:Exit → St → Prop}
variable {ty:TypeId} {x y:Operand}
theorem GP {op:Op} {d:Nat} {pos:String} {after:Array Edge} {av:AV} (h:E2 P E σ.nx σ.hp (D8 σ) op ty av) (hd:Nat.blt d n = true) (k:B6 P E n ops rest (σ.put d av) K) :
  B6 P E n ops (⟨some d,op,ty,pos,after,none⟩ :: rest) σ K:=by
 intro a w ⟨θ,hs⟩
 unfold wpList
 rw [if_pos (by simp [Region.wanted])]
 left
 exact GO (h (some d) pos after θ a w _ hs.evT fun v w' hb hr=>(⟨hb,hr⟩:Below w.heap.size w w' ∧ C5 (kx E θ σ.nx σ.hp w') av v)) fun v w' hv=>k _ _ ⟨θ,(hs.below hv.1).put (Nat.blt_eq ▸ hd) hv.2⟩
theorem C7 {op:Op} {av:AV} (hrun:∀ d pos after θ a w,Q3 E θ nx hp ev a w → ∃ v,(execOp a.eval ⟨d,op,ty,pos,after,none⟩).run P w = .ok (.value v) w ∧ C5 (kx E θ nx hp w) av v):E2 P E nx hp ev op ty av:=by
 intro d pos after θ a w K hs hk
 obtain ⟨v,hr,hv⟩:=hrun d pos after θ a w hs
 unfold BP
 rw [hr]
 exact hk v w (Below.refl _ _) hv
def k9 (P:Program) (E:Env) (nx:Nat) (hp:Hp) (ev:Operand → Option AV) (op:Op) (ty:TypeId) (av:AV):Prop :=
 ∀ d pos after θ a w,Q3 E θ nx hp ev a w → ∃ v,(∀ w,(execOp a.eval ⟨d,op,ty,pos,after,none⟩).run P w = .ok (.value v) w) ∧ C5 (kx E θ nx hp w) av v
theorem k9.q {op:Op} {av:AV} (h:k9 P E nx hp ev op ty av):E2 P E nx hp ev op ty av:=C7 fun d pos after θ a w hs=>by
 obtain ⟨v,h1,h2⟩:=h d pos after θ a w hs
 exact ⟨v,h1 w,h2⟩
theorem KG {op:Op} {av:AV} (hrun:∀ d pos after θ a w,Q3 E θ nx hp ev a w → ∃ v w',(execOp a.eval ⟨d,op,ty,pos,after,none⟩).run P w = .ok (.value v) w' ∧ Below w.heap.size w w' ∧ C5 (kx E θ nx hp w') av v):E2 P E nx hp ev op ty av:=by
 intro d pos after θ a w K hs hk
 obtain ⟨v,w',hr,hb,hv⟩:=hrun d pos after θ a w hs
 unfold BP
 rw [hr]
 exact hk v w' hb hv
theorem KH {av:AV} (hx:ev x = some av):E2 P E nx hp ev (.move x) ty av:=C7 fun _ _ _ _ _ _ h=>⟨_,rfl,h.rel hx⟩
theorem GQ {av:AV} (hx:ev x = some av):E2 P E nx hp ev (.assign x) ty av:=C7 fun _ _ _ _ _ _ h=>⟨_,rfl,h.rel hx⟩
theorem Lj {c:Operand} {av:AV} (hc:ev c = some (.v (.bool true))) (hx:ev x = some av):E2 P E nx hp ev (.pick c x y) ty av :=
 C7 fun _ _ _ _ _ _ h=>⟨_,by simp [execOp,(h.rel hc).val,asBool,Sem.run_pure],h.rel hx⟩
theorem Lk {c:Operand} {av:AV} (hc:ev c = some (.v (.bool false))) (hy:ev y = some av):E2 P E nx hp ev (.pick c x y) ty av :=
 C7 fun _ _ _ _ _ _ h=>⟨_,by simp [execOp,(h.rel hc).val,asBool,Sem.run_pure],h.rel hy⟩
theorem PS (a b:Int):(a == b) = decide (a = b):=by by_cases h:a = b <;> simp [h]
theorem RD (a b:List UInt8):(a == b) = decide (a = b):=by by_cases h:a = b <;> simp [h]
theorem RE (a b:Bool):(a == b) = decide (a = b):=by by_cases h:a = b <;> simp [h]
def X8:BinOp → IntKind → Int → Int → Option Value
 | .add,k,a,b=>some (.int k (k.wrap (a + b)))
 | .sub,k,a,b=>some (.int k (k.wrap (a - b)))
 | .mul,k,a,b=>some (.int k (k.wrap (a * b)))
 | .eql,_,a,b=>some (.bool (decide (a = b)))
 | .neq,_,a,b=>some (.bool (decide (a ≠ b)))
 | .lss,_,a,b=>some (.bool (decide (a < b)))
 | .leq,_,a,b=>some (.bool (decide (a ≤ b)))
 | .gtr,_,a,b=>some (.bool (decide (b < a)))
 | .geq,_,a,b=>some (.bool (decide (b ≤ a)))
 | .and,k,a,b=>some (.int k (k.wrap (BitVec.ofInt k.bits a &&& BitVec.ofInt k.bits b).toNat))
 | .or,k,a,b=>some (.int k (k.wrap (BitVec.ofInt k.bits a ||| BitVec.ofInt k.bits b).toNat))
 | .xor,k,a,b=>some (.int k (k.wrap (BitVec.ofInt k.bits a ^^^ BitVec.ofInt k.bits b).toNat))
 | .andNot,k,a,b=>some (.int k (k.wrap (BitVec.ofInt k.bits a &&& ~~~ BitVec.ofInt k.bits b).toNat))
 | _,_,_,_=>none
theorem GR {op:BinOp} {k:IntKind} {a b:Int} {r:Value} (h:X8 op k a b = some r) (T:TypeId) (w:World):(binOp op T (.int k a) (.int k b)).run P w = .ok r w:=by
 cases op <;> simp only [X8,Option.some.injEq,reduceCtorEq] at h <;> subst h <;>
  simp [binOp,Op.intArith,Op.intCmp,Op.intBits,Sem.run_pure,bne,PS]
theorem S4 (op:BinOp) (T:TypeId) (k k':IntKind) (a b:Int) (w:World):(eqGuard op T x y (.int k a) (.int k' b)).run P w = .ok () w:=by
 cases op <;> simp [eqGuard,Sem.run_pure]
theorem G1 {op:BinOp} {T T2:TypeId} {a:Act} {w:World} {r:Value} {d:Option Tmp} {pos:String} {after:Array Edge} (he:(eqGuard op T x y (a.eval x) (a.eval y)).run P w = .ok () w)
  (h:(binOp op T (a.eval x) (a.eval y)).run P w = .ok r w):(execOp a.eval ⟨d, .binOp op T x y T2,ty,pos,after,none⟩).run P w = .ok (.value r) w:=by
 simp [execOp,Sem.run_bind,Sem.run_pure,he,h]
theorem l4 {op:BinOp} {T T2:TypeId} {k:IntKind} {a b:Int} {r:Value} (hx:ev x = some (.v (.int k a))) (hy:ev y = some (.v (.int k b))) (hr:X8 op k a b = some r) :
  E2 P E nx hp ev (.binOp op T x y T2) ty (.v r) :=
 C7 fun _ _ _ _ _ w h=>⟨r,G1 (by rw [(h.rel hx).val,(h.rel hy).val];exact S4 ..) (by rw [(h.rel hx).val,(h.rel hy).val];exact GR hr T w), .im (.v _)⟩
theorem H4 {n:Int} (h:-9223372036854775808 ≤ n ∧ n ≤ 9223372036854775807):IntKind.i64.wrap n = n:=IntWalk.i64_in n h
theorem GB {T T2:TypeId} {k:IntKind} {a b:Int} (hx:ev x = some (.v (.int k a))) (hy:ev y = some (.v (.int k b))) (hb:b ≠ 0) :
  E2 P E nx hp ev (.binOp .quo T x y T2) ty (.v (.int k (k.wrap (a.tdiv b)))) :=
 C7 fun _ _ _ _ _ w h=>⟨_,G1 (by rw [(h.rel hx).val,(h.rel hy).val];exact S4 ..) (by rw [(h.rel hx).val,(h.rel hy).val];simp [binOp,Op.intDiv,hb,Sem.run_pure]), .im (.v _)⟩
theorem Nd {T T2:TypeId} {k:IntKind} {a b:Int} (hx:ev x = some (.v (.int k a))) (hy:ev y = some (.v (.int k b))) (hb:b ≠ 0) :
  E2 P E nx hp ev (.binOp .rem T x y T2) ty (.v (.int k (a.tmod b))) :=
 C7 fun _ _ _ _ _ w h=>⟨_,G1 (by rw [(h.rel hx).val,(h.rel hy).val];exact S4 ..) (by rw [(h.rel hx).val,(h.rel hy).val];simp [binOp,Op.intDiv,hb,Sem.run_pure]), .im (.v _)⟩
theorem Nf {T T2:TypeId} {k k':IntKind} {a b:Int} (hx:ev x = some (.v (.int k a))) (hy:ev y = some (.v (.int k' b))) (hb:0 ≤ b) :
  E2 P E nx hp ev (.binOp .shl T x y T2) ty (.v (.int k (k.wrap (a * 2 ^ (min b.toNat k.bits))))) :=
 C7 fun _ _ _ _ _ w h=>⟨_,G1 (by rw [(h.rel hx).val,(h.rel hy).val];exact S4 ..) (by
  have:¬ b < 0:=by omega
  rw [(h.rel hx).val,(h.rel hy).val];simp [binOp,Op.shift,this,Sem.run_pure]), .im (.v _)⟩
theorem Ng {T T2:TypeId} {k k':IntKind} {a b:Int} (hx:ev x = some (.v (.int k a))) (hy:ev y = some (.v (.int k' b))) (hb:0 ≤ b) :
  E2 P E nx hp ev (.binOp .shr T x y T2) ty (.v (.int k (a.fdiv (2 ^ (min b.toNat k.bits))))) :=
 C7 fun _ _ _ _ _ w h=>⟨_,G1 (by rw [(h.rel hx).val,(h.rel hy).val];exact S4 ..) (by
  have:¬ b < 0:=by omega
  rw [(h.rel hx).val,(h.rel hy).val];simp [binOp,Op.shift,this,Sem.run_pure]), .im (.v _)⟩
theorem Nh {b:Bool} {T:TypeId} (hx:ev x = some (.v (.bool b))):E2 P E nx hp ev (.unOp .not T x) ty (.v (.bool (!b))) :=
 C7 fun _ _ _ _ _ _ h=>⟨_,by simp [execOp,Op.unary,(h.rel hx).val,Sem.run_bind,Sem.run_pure], .im (.v _)⟩
theorem Ni {k:IntKind} {a:Int} {T:TypeId} (hx:ev x = some (.v (.int k a))):E2 P E nx hp ev (.unOp .neg T x) ty (.v (.int k (k.wrap (-a)))) :=
 C7 fun _ _ _ _ _ w h=>⟨_,by simp [execOp,Op.unary,Op.intArith,(h.rel hx).val,Sem.run_bind,Sem.run_pure], .im (.v _)⟩
theorem OE {a:Int} {T:TypeId} (hx:ev x = some (.v (.int .u64 a))) (ha:0 ≤ a ∧ a ≤ 18446744073709551615):E2 P E nx hp ev (.unOp .xor T x) ty (.v (.int .u64 (18446744073709551615 - a))) :=
 C7 fun _ _ _ _ _ w h=>⟨_,by
  obtain ⟨m,rfl⟩:=Int.eq_ofNat_of_zero_le ha.1
  have h1:BitVec.ofInt 64 18446744073709551615 = BitVec.allOnes 64:=by decide
  have h2:(BitVec.ofInt 64 (m:Int)).toNat = m:=by
   rw [BitVec.ofInt_natCast,BitVec.toNat_ofNat];exact Nat.mod_eq_of_lt (by omega)
  have h3:((BitVec.ofInt 64 18446744073709551615 ^^^ BitVec.ofInt 64 (m:Int)).toNat:Int) = 18446744073709551615 - m:=by
   rw [h1,BitVec.allOnes_xor,BitVec.toNat_not,h2];omega
  have h4:IntKind.u64.wrap (18446744073709551615 - (m:Int)) = 18446744073709551615 - (m:Int):=by rw [IntKind.wrap_u64];omega
  have h5:(IntKind.u64.max:Int) = 18446744073709551615:=by decide
  simp only [execOp,Op.unary,(h.rel hx).val,Op.intBits,h5,IntKind.signed,IntKind.bits,Sem.run_bind,Sem.run_pure]
  simp only [Bool.false_eq_true,if_false,h5]
  show Result.andThen (.ok (Value.int .u64 (IntKind.u64.wrap ((BitVec.ofInt 64 18446744073709551615 ^^^ BitVec.ofInt 64 (m:Int)).toNat:Int))) w) _ = _
  rw [h3,h4]
  rfl, .im (.v _)⟩
abbrev AV.i (n:Int):AV:=.v (.int .i64 n)
abbrev AV.b (n:Bool):AV:=.v (.bool n)
def Iz:BinOp → List UInt8 → List UInt8 → Option Value
 | .eql,a,b=>some (.bool (decide (a = b)))
 | .neq,a,b=>some (.bool (decide (a ≠ b)))
 | .lss,a,b=>some (.bool (Op.bytesLess a b))
 | .geq,a,b=>some (.bool (!Op.bytesLess a b))
 | .leq,a,b=>some (.bool (Op.bytesLess a b || decide (a = b)))
 | .gtr,a,b=>some (.bool (!(Op.bytesLess a b || decide (a = b))))
 | _,_,_=>none
theorem Ll {op:BinOp} {a b:List UInt8} {r:Value} (h:Iz op a b = some r) (T:TypeId) (w:World):(binOp op T (.string ⟨a.toArray⟩) (.string ⟨b.toArray⟩)).run P w = .ok r w:=by
 cases op <;> simp only [Iz,Option.some.injEq,reduceCtorEq] at h <;> subst h <;>
  simp [binOp,Op.stringOp,Sem.run_pure,bne,RD]
theorem y9 (op:BinOp) (T:TypeId) (a b:ByteArray) (w:World):(eqGuard op T x y (.string a) (.string b)).run P w = .ok () w:=by
 cases op <;> simp [eqGuard,Sem.run_pure]
theorem KI {op:BinOp} {T T2:TypeId} {a b:List UInt8} {r:Value} (hx:ev x = some (.str a)) (hy:ev y = some (.str b)) (hr:Iz op a b = some r) :
  E2 P E nx hp ev (.binOp op T x y T2) ty (.v r) :=
 C7 fun _ _ _ _ _ w h=>⟨r,G1 (by rw [(h.rel hx).sval,(h.rel hy).sval];exact y9 ..) (by rw [(h.rel hx).sval,(h.rel hy).sval];exact Ll hr T w), .im (.v _)⟩
theorem GS {a b:List UInt8} (hl:a.length + b.length ≤ 9223372036854775807) (T:TypeId) (w:World) :
  (binOp .add T (.string ⟨a.toArray⟩) (.string ⟨b.toArray⟩)).run P w = .ok (.string ⟨(a ++ b).toArray⟩) w:=by
 have h1:((ByteArray.mk a.toArray).size + (ByteArray.mk b.toArray).size) = a.length + b.length:=rfl
 have h2:¬ ((((ByteArray.mk a.toArray).size + (ByteArray.mk b.toArray).size:Nat):Int) > IntKind.i64.max):=by
  rw [h1]
  have:IntKind.i64.max = 9223372036854775807:=rfl
  rw [this]
  omega
 have h3:(ByteArray.mk a.toArray ++ ByteArray.mk b.toArray) = ⟨(a ++ b).toArray⟩:=by
  apply ByteArray.ext
  simp
 simp only [binOp,Op.stringOp]
 rw [if_neg h2,h3]
 rfl
theorem KJ {T T2:TypeId} {a b:List UInt8} (hx:ev x = some (.str a)) (hy:ev y = some (.str b)) (hr:a.length + b.length ≤ 9223372036854775807) :
  E2 P E nx hp ev (.binOp .add T x y T2) ty (.str (a ++ b)) :=
 C7 fun _ _ _ _ _ w h=>⟨_,G1 (by rw [(h.rel hx).sval,(h.rel hy).sval];exact y9 ..) (by rw [(h.rel hx).sval,(h.rel hy).sval];exact GS hr T w), .im (.str _)⟩
theorem run_equalIn_bool {T:TypeId} [tb:CM P T] (m:Nat) (a b:Bool) (w:World):(Op.equalIn (m + 1) T (.bool a) (.bool b)).run P w = .ok (a == b) w:=by
 simp only [Op.equalIn,Sem.run_bind,run_underlying tb.out,Result.andThen_ok]
 rfl
theorem run_equal_bool {T:TypeId} [tb:CM P T] (a b:Bool) (w:World):(Op.equal T (.bool a) (.bool b)).run P w = .ok (a == b) w:=run_equalIn_bool 9999 a b w
theorem GC {T T2:TypeId} {a b:Bool} [tb:CM P T] (neg:Bool) (hx:ev x = some (.v (.bool a))) (hy:ev y = some (.v (.bool b))) :
  E2 P E nx hp ev (.binOp (if neg then .neq else .eql) T x y T2) ty (.v (.bool (if neg then decide (a ≠ b) else decide (a = b)))) :=
 C7 fun _ _ _ _ _ w h=>by
  refine ⟨_,G1 ?_ ?_, .im (.v _)⟩
  ·rw [(h.rel hx).val,(h.rel hy).val];cases neg <;> simp [eqGuard,Sem.run_pure]
  ·rw [(h.rel hx).val,(h.rel hy).val]
   cases neg <;> simp [binOp,run_equal_bool,Sem.run_bind,Sem.run_pure,RE]
theorem Da {T:TypeId} {ms:Array (String × TypeId)} (hm:P.underlying T = some (.interface ms)) (m:Nat) (t:TypeId) (p:Value) (w:World):(Op.equalIn (m + 1) T (.iface t p) .nilIface).run P w = .ok false w:=by
 simp only [Op.equalIn,Sem.run_bind,run_underlying hm,Result.andThen_ok]
 rfl
theorem Db {T:TypeId} {ms:Array (String × TypeId)} (hm:P.underlying T = some (.interface ms)) (m:Nat) (w:World):(Op.equalIn (m + 1) T .nilIface .nilIface).run P w = .ok true w:=by
 simp only [Op.equalIn,Sem.run_bind,run_underlying hm,Result.andThen_ok]
 rfl
theorem GT {T T2:TypeId} [ti:p8 P T] (neg:Bool) (hx:ev x = some .err) :
  E2 P E nx hp ev (.binOp (if neg then .neq else .eql) T x (.const .nilIface) T2) ty (.v (.bool neg)) :=
 C7 fun _ _ _ _ _ w h=>by
  obtain ⟨ms,hm⟩:=ti.out
  have hr:=h.rel hx
  cases hr with
  | im hi =>
    generalize hv:Act.eval _ x = v at hi
    cases hi with
    | err t p =>
      refine ⟨_,G1 ?_ ?_, .im (.v _)⟩
      ·rw [hv];cases neg <;> simp [eqGuard,Act.eval,Sem.run_pure]
      ·rw [hv]
       have e:(Op.equal T (.iface t p) .nilIface).run P w = .ok false w:=Da hm 9999 t p w
       cases neg <;> simp [binOp,Act.eval,e,Sem.run_bind,Sem.run_pure]
theorem GU {T T2:TypeId} [ti:p8 P T] (neg:Bool) (hx:ev x = some (.v .nilIface)) :
  E2 P E nx hp ev (.binOp (if neg then .neq else .eql) T x (.const .nilIface) T2) ty (.v (.bool (!neg))) :=
 C7 fun _ _ _ _ _ w h=>by
  obtain ⟨ms,hm⟩:=ti.out
  refine ⟨_,G1 ?_ ?_, .im (.v _)⟩
  ·rw [(h.rel hx).val];cases neg <;> simp [eqGuard,Act.eval,Sem.run_pure]
  ·rw [(h.rel hx).val]
   have e:(Op.equal T .nilIface .nilIface).run P w = .ok true w:=Db hm 9999 w
   cases neg <;> simp [binOp,Act.eval,e,Sem.run_bind,Sem.run_pure]
theorem FA {T:Nat} {ag:Bool} {sz:Nat} [tv:G3 P T ag sz] (w:World):(isAgg T).run P w = .ok ag w:=by
 obtain ⟨i,t,h1,h2,h3,h4⟩:=tv.out
 cases t <;> simp [isAgg,run_underlying h2,Sem.run_bind,Sem.run_pure] <;> simpa using h4
theorem run_sizeOf {T:Nat} {ag:Bool} {sz:Nat} [tv:G3 P T ag sz] (w:World):(sizeOf T).run P w = .ok sz w:=by
 obtain ⟨i,t,h1,h2,h3,h4⟩:=tv.out
 simp [sizeOf,typeInfo,program,Sem.run_bind,Sem.run_pure,Sem.run,h1,h3]
theorem T5 {T sz:Nat} [tv:G3 P T false sz] {w:World} {a:Addr} {v:Value} (h:w.cell? a = some v):(loadVar T a).run P w = .ok v w:=by
 simp [loadVar,Sem.run_bind,FA (P:=P) (T:=T) (sz:=sz),run_load,h]
theorem K4 {T sz:Nat} [tv:G3 P T true sz] {w:World} {a:Addr} {cs:List Value} (hl:cs.length = sz) (h:∀ (j:Nat) v,cs[j]? = some v → w.cell? (a.add j) = some v) :
  (loadVar T a).run P w = .ok (.agg cs.toArray) w:=by
 subst hl
 simp [loadVar,Sem.run_bind,FA (P:=P) (T:=T) (sz:=cs.length),run_sizeOf (P:=P) (T:=T) (sz:=cs.length),run_loadCells_list (P:=P) w a cs h,Sem.run_pure]
theorem O2 {c:Cx} {i off:Nat} {y:Value} (r:C5 c (.ref i off) y):∃ b,c.θ i = .pointer (some ⟨b,0,none⟩) ∧ y = .pointer (some ⟨b,off,none⟩) ∧ i < c.nx:=by
 cases r with
 | im hi=>cases hi
 | ref i off b hi hθ=>exact ⟨b,hθ,rfl,hi⟩
theorem Q3.box {θ:Th} {a:Act} {w:World} (h:Q3 E θ nx hp ev a w) {i τ:Nat} {l:List AV} (hb:B2 hp i = some (.bx τ l)) :
  ∃ b arr, ∃ T:Qy τ,θ i = .pointer (some ⟨b,0,none⟩) ∧ w.heap[b]? = some (.cells arr T.1 (0,0)) ∧ arr.size = l.length ∧ ∀ (j:Nat) x y,l[j]? = some x → arr[j]? = some y → C5 (kx E θ nx hp w) x y :=
 (h.owns i _ hb).2
theorem G5 {w:World} {b:Nat} {arr:Array Value} {T:TypeId} {fr:Nat × Nat} (h:w.heap[b]? = some (.cells arr T fr)) (j:Nat):w.cell? ⟨b,j,none⟩ = arr[j]?:=by
 simp [World.cell?,h]
theorem F3 (b off j:Nat):(⟨b,off,none⟩:Addr).add j = ⟨b,off + j,none⟩:=by unfold Addr.add;split <;> simp_all
theorem Dc {T sz:Nat} [tv:G3 P T false sz] {i off τ:Nat} {l:List AV} {av:AV} (hx:ev x = some (.ref i off)) (hb:B2 hp i = some (.bx τ l)) (hl:l[off]? = some av):E2 P E nx hp ev (.load T x) ty av :=
 C7 fun _ _ _ θ a w h=>by
  obtain ⟨b,hθ,hv,_⟩:=O2 (h.rel hx)
  obtain ⟨b',arr,T',hθ',hh,hs,hr⟩:=h.box hb
  have hbb:θ i = .pointer (some ⟨b,0,none⟩):=hθ
  rw [hθ'] at hbb
  cases hbb
  have hlt:off < l.length:=(List.getElem?_eq_some_iff.1 hl).1
  have hc:arr[off]? = some (arr[off]'(by omega)):=Array.getElem?_eq_getElem (by omega)
  refine ⟨_,?_,hr off _ _ hl hc⟩
  simp only [execOp,hv,Instr.loadAt,Instr.sureAddr,Sem.run_bind,Sem.run_pure,Result.andThen_ok]
  rw [T5 (P:=P) (sz:=sz) ((G5 hh off).trans hc)]
  rfl
theorem Z6 {T sz:Nat} [tv:G3 P T true sz] {i off τ:Nat} {l l':List AV} (hx:ev x = some (.ref i off)) (hb:B2 hp i = some (.bx τ l)) (hl:(l.drop off).take sz = l') (hsz:l'.length = sz):E2 P E nx hp ev (.load T x) ty (.agg l') :=
 C7 fun _ _ _ θ a w h=>by
  obtain ⟨b,hθ,hv,_⟩:=O2 (h.rel hx)
  obtain ⟨b',arr,T',hθ',hh,hs,hr⟩:=h.box hb
  have hbb:θ i = .pointer (some ⟨b,0,none⟩):=hθ
  rw [hθ'] at hbb
  cases hbb
  have hlen:((arr.toList.drop off).take sz).length = sz:=by
   have h1:((l.drop off).take sz).length = sz:=by rw [hl];exact hsz
   simp only [List.length_take,List.length_drop,Array.length_toList] at h1 ⊢
   omega
  have hcell:∀ (j:Nat) v,((arr.toList.drop off).take sz)[j]? = some v → arr[off + j]? = some v ∧ j < sz:=by
   intro j v hj
   rw [List.getElem?_take] at hj
   split at hj
   ·rename_i hjs
    rw [List.getElem?_drop] at hj
    exact ⟨by simpa using hj,hjs⟩
   ·cases hj
  refine ⟨.agg ((arr.toList.drop off).take sz).toArray,?_, .agg l' _ (by rw [hsz,hlen]) fun j u z hu hz=>?_⟩
  ·simp only [execOp,hv,Instr.loadAt,Instr.sureAddr,Sem.run_bind,Sem.run_pure,Result.andThen_ok]
   rw [K4 (P:=P) (sz:=sz) hlen (fun j v hj=>by rw [F3,G5 hh];exact (hcell j v hj).1)]
   rfl
  ·obtain ⟨h1,h2⟩:=hcell j z hz
   refine hr (off + j) _ _ ?_ h1
   rw [← hl,List.getElem?_take,if_pos h2,List.getElem?_drop] at hu
   exact hu
theorem Dd {T sz:Nat} [tv:G3 P T true sz] {i τ:Nat} {l:List AV} (hx:ev x = some (.ref i 0)) (hb:B2 hp i = some (.bx τ l)) (hsz:l.length = sz):E2 P E nx hp ev (.load T x) ty (.agg l) :=
 Z6 (l':=l) (sz:=sz) hx hb (by rw [List.drop_zero, ← hsz,List.take_length]) hsz
theorem Z7 {c:Cx} {l:List AV} {y:Value} (r:C5 c (.iptr l) y):∃ (a:Addr) (f:Nat → Value),y = .pointer (some a) ∧ (l ≠ [] → ¬ c.U a.block) ∧ (∀ j,j < l.length → c.w.cell? (a.add j) = some (f j)) ∧ ∀ (j:Nat) (x:AV),l[j]? = some x → Im c.U c.w x (f j):=by
 cases r with
 | im hi=>cases hi with | iptr l a f hu hc h=>exact ⟨a,f,rfl,hu,hc,h⟩
theorem Cd {T sz:Nat} [tv:G3 P T false sz] {av:AV} {l:List AV} (hx:ev x = some (.iptr (av :: l))):E2 P E nx hp ev (.load T x) ty av :=
 C7 fun _ _ _ θ a w h=>by
  obtain ⟨p,f,hv,_,hc,hr⟩:=Z7 (h.rel hx)
  refine ⟨f 0,?_, .im (hr 0 av rfl)⟩
  have h0:w.cell? p = some (f 0):=by
   have h0:w.cell? (p.add 0) = some (f 0):=hc 0 (by simp)
   simpa [Addr.add] using h0
  simp only [execOp,hv,Instr.loadAt,Instr.sureAddr,Sem.run_bind,Sem.run_pure,Result.andThen_ok]
  rw [T5 (P:=P) (sz:=sz) h0]
  rfl
theorem T6 {T sz:Nat} [tv:G3 P T true sz] {l l':List AV} (hx:ev x = some (.iptr l)) (hl:l.take sz = l') (hsz:l'.length = sz):E2 P E nx hp ev (.load T x) ty (.agg l') :=
 C7 fun _ _ _ θ a w h=>by
  obtain ⟨p,f,hv,_,hc,hr⟩:=Z7 (h.rel hx)
  have hle:sz ≤ l.length:=by
   have:(l.take sz).length = sz:=by rw [hl];exact hsz
   simp only [List.length_take] at this
   omega
  refine ⟨.agg ((List.range sz).map f).toArray,?_, .im (.agg l' _ (by simp [hsz]) fun j u z hu hz=>?_)⟩
  ·simp only [execOp,hv,Instr.loadAt,Instr.sureAddr,Sem.run_bind,Sem.run_pure,Result.andThen_ok]
   rw [K4 (P:=P) (sz:=sz) (cs:=(List.range sz).map f) (by simp) (fun j v hj=>?_)]
   ·rfl
   ·simp only [List.getElem?_map,List.getElem?_range,Option.map_eq_some_iff] at hj
    obtain ⟨j',hj',rfl⟩:=hj
    have hjs:j < sz:=by
     rcases Nat.lt_or_ge j sz with h1 | h1
     ·exact h1
     ·rw [List.getElem?_eq_none (by simpa using h1)] at hj';cases hj'
    have:j' = j:=by
     rw [List.getElem?_range hjs] at hj'
     exact (Option.some.inj hj').symm
    subst this
    exact hc j' (by omega)
  ·have hjs:j < sz:=by rw [← hsz];exact (List.getElem?_eq_some_iff.1 hu).1
   rw [← hl,List.getElem?_take,if_pos hjs] at hu
   simp only [List.getElem?_map] at hz
   rw [List.getElem?_range hjs] at hz
   simp at hz
   subst hz
   exact hr j u hu
theorem S5 {S f off sz:Nat} [tf:L3 P S f off sz] (hz:0 < sz) (a:Addr) (w:World):(Instr.fieldAt S (.pointer (some a)) f).run P w = .ok (.pointer (some (a.add off))) w:=by
 obtain ⟨fs,fd,i,h1,h2,h3,h4,h5⟩:=tf.out
 have hne:¬ i.size = 0:=by omega
 simp [Instr.fieldAt,run_underlying h1,Sem.run_bind,Sem.run_pure,h2,Instr.sureAddr,fieldPlace,sizeOf,typeInfo,program,Sem.run,h4,hne,h3]
theorem Ce {S f off sz:Nat} [tf:L3 P S f off sz] {i o:Nat} (hx:ev x = some (.ref i o)) (hz:Nat.blt 0 sz = true):E2 P E nx hp ev (.fieldAddr S x f) ty (.ref i (o + off)) :=
 C7 fun _ _ _ θ a w h=>by
  obtain ⟨b,hθ,hv,hnx⟩:=O2 (h.rel hx)
  refine ⟨.pointer (some ⟨b,o + off,none⟩),?_, .ref i _ b hnx hθ⟩
  simp only [execOp,hv,Sem.run_bind,S5 (P:=P) (S:=S) (f:=f) (off:=off) (sz:=sz) (Nat.blt_eq ▸ hz),Result.andThen_ok,F3]
  rfl
theorem Z8 (a:Addr) (i j:Nat):(a.add i).add j = a.add (i + j):=by
 unfold Addr.add
 by_cases hi:i = 0 <;> by_cases hj:j = 0 <;> simp [hi,hj,Nat.add_assoc]
theorem Bb {S f off sz:Nat} [tf:L3 P S f off sz] {l:List AV} (hx:ev x = some (.iptr l)) (hz:Nat.blt 0 sz = true):E2 P E nx hp ev (.fieldAddr S x f) ty (.iptr (l.drop off)) :=
 C7 fun _ _ _ θ a w h=>by
  obtain ⟨p,g,hv,hu,hc,hr⟩:=Z7 (h.rel hx)
  refine ⟨.pointer (some (p.add off)),?_, .im (.iptr _ _ (fun j=>g (off + j)) (fun hne=>?_) (fun j hj=>?_) fun j u hu'=>?_)⟩
  ·simp only [execOp,hv,Sem.run_bind,S5 (P:=P) (S:=S) (f:=f) (off:=off) (sz:=sz) (Nat.blt_eq ▸ hz),Result.andThen_ok]
   rfl
  ·rw [M1];exact hu (by rintro rfl;simp at hne)
  ·rw [Z8];exact hc _ (by simp at hj;omega)
  ·rw [List.getElem?_drop] at hu';exact hr _ _ hu'
theorem X2 {c:Cx} {i ver k off:Nat} {y:Value} (r:C5 c (.elt i ver k off) y) {e sz:Nat} {l:List (List AV)} (hl:B2 c.hp i = some (.row e sz ver l)) :
  ∃ g n cap,c.θ i = .slice (some ⟨g,0,none⟩) n cap ∧ y = .pointer (some ⟨g,k * sz + off,none⟩) ∧ i < c.nx:=by
 cases r with
 | im hi=>cases hi
 | elt i ver k off x hi h =>
   obtain ⟨g,n,cap,h1,h2⟩:=(h e sz ver l hl).2 rfl
   exact ⟨g,n,cap,h1,h2,hi⟩
theorem N4 {c:Cx} {i ver len:Nat} {y:Value} (r:C5 c (.row i ver len) y) {e sz:Nat} {l:List (List AV)} (hl:B2 c.hp i = some (.row e sz ver l)):l.length = len ∧ y = c.θ i ∧ i < c.nx:=by
 cases r with
 | im hi=>cases hi
 | row i ver len x hi h=>exact ⟨((h e sz ver l hl).2 rfl).1,((h e sz ver l hl).2 rfl).2,hi⟩
theorem Q3.row {θ:Th} {a:Act} {w:World} (h:Q3 E θ nx hp ev a w) {i e sz ver:Nat} {l:List (List AV)} (hb:B2 hp i = some (.row e sz ver l)) :
  ∃ xs:List Value,J7 w e sz (θ i) l.length xs ∧ (∀ el ∈ l,el.length = sz) ∧
   ∀ (k:Nat) el,l[k]? = some el → ∀ (j:Nat) x,el[j]? = some x → ∃ y,xs[k * sz + j]? = some y ∧ Im (kx E θ nx hp w).U w x y :=
 let ⟨xs,h1,h2,h3,_⟩:=(h.owns i _ hb).2
 ⟨xs,h1,h2,h3⟩
theorem JA {T szT:Nat} [tv:G3 P T false szT] {i ver k off e sz:Nat} {l:List (List AV)} {el:List AV} {av:AV} (hx:ev x = some (.elt i ver k off)) (hb:B2 hp i = some (.row e sz ver l)) (hk:l[k]? = some el) (ho:el[off]? = some av) :
  E2 P E nx hp ev (.load T x) ty av :=
 C7 fun _ _ _ θ a w h=>by
  obtain ⟨g,m,cap,hθ,hv,_⟩:=X2 (h.rel hx) hb
  obtain ⟨xs,hown,hsz,hr⟩:=h.row hb
  obtain ⟨y,hy,him⟩:=hr k el hk off av ho
  refine ⟨y,?_, .im him⟩
  have hθ':θ i = .slice (some ⟨g,0,none⟩) m cap:=hθ
  rw [hθ'] at hown
  have hcell:=hown.cells (g:=g) rfl _ _ hy
  rw [F3] at hcell
  simp only [execOp,hv,Instr.loadAt,Instr.sureAddr,Sem.run_bind,Sem.run_pure,Result.andThen_ok]
  rw [T5 (P:=P) (sz:=szT) (v:=y) (by rw [← hcell];congr 2;omega)]
  rfl
theorem Ec {T szT:Nat} [tv:G3 P T true szT] {i ver k e sz:Nat} {l:List (List AV)} {el:List AV} (hx:ev x = some (.elt i ver k 0)) (hb:B2 hp i = some (.row e sz ver l)) (hk:l[k]? = some el) (ho:szT = sz) :
  E2 P E nx hp ev (.load T x) ty (.agg el) :=
 C7 fun _ _ _ θ a w h=>by
  subst ho
  obtain ⟨g,m,cap,hθ,hv,_⟩:=X2 (h.rel hx) hb
  obtain ⟨xs,hown,hsz,hr⟩:=h.row hb
  have hel:el.length = szT:=hsz el (List.mem_of_getElem? hk)
  have hθ':θ i = .slice (some ⟨g,0,none⟩) m cap:=hθ
  rw [hθ'] at hown
  have hcs:∀ (j:Nat) v,((xs.drop (k * szT)).take szT)[j]? = some v → j < szT ∧ xs[k * szT + j]? = some v:=by
   intro j v hj
   rw [List.getElem?_take] at hj
   split at hj
   ·rename_i hjs;rw [List.getElem?_drop] at hj;exact ⟨hjs,hj⟩
   ·cases hj
  have hlen:((xs.drop (k * szT)).take szT).length = szT:=by
   have hk':k < l.length:=(List.getElem?_eq_some_iff.1 hk).1
   rw [List.length_take,List.length_drop,hown.1]
   have:(k + 1) * szT ≤ l.length * szT:=Nat.mul_le_mul_right _ hk'
   rw [Nat.add_mul,Nat.one_mul] at this
   omega
  refine ⟨.agg ((xs.drop (k * szT)).take szT).toArray,?_, .im (.agg el _ (by rw [hel,hlen]) fun j u z hu hz=>?_)⟩
  ·simp only [execOp,hv,Instr.loadAt,Instr.sureAddr,Sem.run_bind,Sem.run_pure,Result.andThen_ok]
   rw [K4 (P:=P) (sz:=szT) hlen (fun j v hj=>by
    have hcell:=hown.cells (g:=g) rfl _ _ (hcs j v hj).2
    rw [F3] at hcell ⊢
    rw [← hcell];congr 2;omega)]
   rfl
  ·obtain ⟨y,hy,him⟩:=hr k el hk j u hu
   rw [(hcs j z hz).2] at hy
   cases hy
   exact him
theorem Hh {S f off sz:Nat} [tf:L3 P S f off sz] {i ver k o e szR:Nat} {l:List (List AV)} (hx:ev x = some (.elt i ver k o)) (hb:B2 hp i = some (.row e szR ver l)) (hz:Nat.blt 0 sz = true):E2 P E nx hp ev (.fieldAddr S x f) ty (.elt i ver k (o + off)) :=
 C7 fun _ _ _ θ a w h=>by
  obtain ⟨g,m,cap,hθ,hv,hnx⟩:=X2 (h.rel hx) hb
  refine ⟨.pointer (some ⟨g,k * szR + o + off,none⟩),?_, .elt i ver k _ _ hnx fun e' sz' v' l' hl'=>?_⟩
  ·simp only [execOp,hv,Sem.run_bind,S5 (P:=P) (S:=S) (f:=f) (off:=off) (sz:=sz) (Nat.blt_eq ▸ hz),Result.andThen_ok,F3]
   rfl
  ·have:B2 hp i = some (.row e' sz' v' l'):=hl'
   rw [hb] at this
   cases this
   exact ⟨Nat.le_refl _,fun _=>⟨g,m,cap,hθ,by rw [Nat.add_assoc]⟩⟩
theorem p9 {c:Cx} {sz:Nat} {l:List (List AV)} {y:Value} (r:C5 c (.sl sz l) y):(y = .slice none 0 0 ∧ l = []) ∨ ∃ (a:Addr) (cap:Nat) (f:Nat → Nat → Value),y = .slice (some a) l.length cap ∧ l.length ≤ cap ∧ cap ≤ maxLen ∧ (l ≠ [] → 0 < sz → ¬ c.U a.block) ∧
  (∀ e ∈ l,e.length = sz) ∧ (∀ i,i < l.length → ∀ j,j < sz → c.w.cell? (a.add (i * sz + j)) = some (f i j)) ∧ ∀ (i:Nat) (e:List AV),l[i]? = some e → ∀ (j:Nat) (x:AV),e[j]? = some x → Im c.U c.w x (f i j):=by
 cases r with
 | im hi =>
   cases hi with
   | slnil=>exact .inl ⟨rfl,rfl⟩
   | sl sz l a cap f hcap hm hu hsz hc h=>exact .inr ⟨a,cap,f,rfl,hcap,hm,hu,hsz,hc,h⟩
theorem KK {c:Cx} {sz:Nat} {l:List (List AV)} {y:Value} (r:C5 c (.sl sz l) y):l.length ≤ 9223372036854775807 ∧ ∃ p cap,y = .slice p l.length cap:=by
 rcases p9 r with ⟨rfl,rfl⟩ | ⟨a,cap,f,rfl,h1,h2,_⟩
 ·exact ⟨by simp,none,0,rfl⟩
 ·exact ⟨by unfold maxLen at h2;omega,_,_,rfl⟩
theorem run_len_slice {T e:Nat} (h:P.underlying T = some (.slice e)) (p:Option Addr) (m c:Nat) (w:World) (ty:TypeId):(Builtin.len_ #[T] ty #[.slice p m c]).run P w = .ok (.int .i64 m) w:=by
 simp [Builtin.len_,run_underlying h,Sem.run_bind,Sem.run_pure,goInt]
theorem N5 {b:Builtin} {T:TypeId} {a:Act} {w:World} {d:Option Tmp} {pos:String} {after:Array Edge}:(execOp a.eval ⟨d, .call ⟨.builtin b, #[x], #[T]⟩,ty,pos,after,none⟩).run P w =
  (builtin b #[T] ty (#[x].map fun | .const _=>true | _=>false) #[a.eval x]).run P w:=by
 simp [execOp,resolve,invoke,Sem.run_bind,Sem.run_pure]
 rfl
theorem Q4 {b:Builtin} {T U:TypeId} {a:Act} {w:World} {d:Option Tmp} {pos:String} {after:Array Edge}:(execOp a.eval ⟨d, .call ⟨.builtin b, #[x,y], #[T,U]⟩,ty,pos,after,none⟩).run P w =
  (builtin b #[T,U] ty (#[x,y].map fun | .const _=>true | _=>false) #[a.eval x,a.eval y]).run P w:=by
 simp [execOp,resolve,invoke,Sem.run_bind,Sem.run_pure]
 rfl
theorem GV {T e sz:Nat} [ts:I6 P T e sz] {sz':Nat} {l:List (List AV)} (hx:ev x = some (.sl sz' l)):E2 P E nx hp ev (.call ⟨.builtin .len, #[x], #[T]⟩) ty (.i l.length) :=
 C7 fun _ _ _ θ a w h=>by
  obtain ⟨_,p,cap,hv⟩:=KK (h.rel hx)
  exact ⟨_,by rw [N5,hv];simp [builtin,run_len_slice ts.out.1,Sem.run_bind,Sem.run_pure], .im (.v _)⟩
theorem K9 {w:World} {e sz m:Nat} {v:Value} {xs:List Value} (h:J7 w e sz v m xs):∃ p cap,v = .slice p m cap ∧ m ≤ cap ∧ cap ≤ maxLen:=by
 rcases h.2 with ⟨rfl,rfl⟩ | ⟨g,cap,cur,rfl,_,_,hc,hm,_⟩
 ·exact ⟨none,0,rfl,Nat.le_refl _,by unfold maxLen;omega⟩
 ·exact ⟨_,cap,rfl,hc,hm⟩
theorem KL {T e sz:Nat} [ts:I6 P T e sz] {i ver len e' sz':Nat} {l:List (List AV)} (hx:ev x = some (.row i ver len)) (hb:B2 hp i = some (.row e' sz' ver l)):E2 P E nx hp ev (.call ⟨.builtin .len, #[x], #[T]⟩) ty (.i len) :=
 C7 fun _ _ _ θ a w h=>by
  obtain ⟨hl,hv,_⟩:=N4 (h.rel hx) hb
  obtain ⟨xs,hown,_⟩:=h.row hb
  obtain ⟨p,cap,hs,_⟩:=K9 hown
  have hv':a.eval x = .slice p l.length cap:=by rw [hv];exact hs
  exact ⟨_,by rw [N5,hv',hl];simp [builtin,run_len_slice ts.out.1,Sem.run_bind,Sem.run_pure], .im (.v _)⟩
theorem FB {T:Nat} [ts:O0 P T] {l:List UInt8} (hx:ev x = some (.str l)):E2 P E nx hp ev (.call ⟨.builtin .len, #[x], #[T]⟩) ty (.i l.length) :=
 C7 fun _ _ _ θ a w h=>by
  have hv:=(h.rel hx).sval
  exact ⟨_,by rw [N5,hv];simp [builtin,run_len_string w T ty _ ts.out,Sem.run_bind,Sem.run_pure,goInt,ByteArray.size], .im (.v _)⟩
theorem FC {T e sz:Nat} [ts:I6 P T e sz] (hx:ev x = some (.v (.slice none 0 0))):E2 P E nx hp ev (.call ⟨.builtin .len, #[x], #[T]⟩) ty (.i 0) :=
 C7 fun _ _ _ θ a w h=>⟨_,by rw [N5,(h.rel hx).val];simp [builtin,run_len_slice ts.out.1,Sem.run_bind,Sem.run_pure], .im (.v _)⟩
theorem j5 {T e sz:Nat} [ts:I6 P T e sz] {a:Addr} {m c:Nat} {k:IntKind} {i:Int} (h0:0 ≤ i) (h1:i < m) (w:World):(Instr.indexAt T (.slice (some a) m c) (.int k i)).run P w = .ok (.pointer (some (a.add (i.toNat * sz)))) w:=by
 obtain ⟨h2,inf,h3,h4⟩:=ts.out
 simp [Instr.indexAt,asIntOf,run_underlying h2,Sem.run_bind,Sem.run_pure,h0,h1,sizeOf,typeInfo,program,Sem.run,h3,h4]
theorem De {T e sz:Nat} [ts:I6 P T e sz] {l:List (List AV)} {k:IntKind} {i:Int} {el:List AV} (hx:ev x = some (.sl sz l)) (hy:ev y = some (.v (.int k i))) (h0:0 ≤ i) (hel:l[i.toNat]? = some el):E2 P E nx hp ev (.indexAddr T x y) ty (.iptr el) :=
 C7 fun _ _ _ θ a w h=>by
  have hlt:i.toNat < l.length:=(List.getElem?_eq_some_iff.1 hel).1
  have hi:=(h.rel hy).val
  rcases p9 (h.rel hx) with ⟨_,e⟩ | ⟨p,cap,f,hv,h3,h4,h5,h6,h7,h8⟩
  ·subst e;simp at hlt
  ·have hsz:=h6 _ (List.mem_of_getElem? hel)
   refine ⟨.pointer (some (p.add (i.toNat * sz))),?_, .im (.iptr _ _ (f i.toNat) (fun hne=>?_) (fun j hj=>?_) fun j u hu=>h8 _ _ hel j u hu)⟩
   ·simp only [execOp,hv,hi,Sem.run_bind]
    rw [j5 (P:=P) (T:=T) (e:=e) (sz:=sz) h0 (by omega)]
    rfl
   ·rw [M1]
    refine h5 (by intro e;simp [e] at hlt) ?_
    have h9:=List.length_pos_iff.2 hne
    omega
   ·rw [Z8]
    exact h7 _ hlt _ (by omega)
theorem Hi {T e sz:Nat} [ts:I6 P T e sz] {i ver len e':Nat} {l:List (List AV)} {k:IntKind} {j:Int} (hx:ev x = some (.row i ver len)) (hb:B2 hp i = some (.row e' sz ver l)) (hy:ev y = some (.v (.int k j))) (h0:0 ≤ j) (h1:j < len) :
  E2 P E nx hp ev (.indexAddr T x y) ty (.elt i ver j.toNat 0) :=
 C7 fun _ _ _ θ a w h=>by
  obtain ⟨hl,hv,hnx⟩:=N4 (h.rel hx) hb
  obtain ⟨xs,hown,hsz,_⟩:=h.row hb
  have hj:=(h.rel hy).val
  rcases hown.2 with ⟨hθ,hn⟩ | ⟨g,cap,cur,hθ,_,hg,_⟩
  ·omega
  ·have hv':a.eval x = .slice (some ⟨g,0,none⟩) l.length cap:=by rw [hv];exact hθ
   refine ⟨.pointer (some ⟨g,j.toNat * sz,none⟩),?_, .elt i ver _ 0 _ hnx fun e2 sz2 v2 l2 hl2=>?_⟩
   ·simp only [execOp,hv',hj,Sem.run_bind]
    rw [j5 (P:=P) (T:=T) (e:=e) (sz:=sz) h0 (by omega),F3,Nat.zero_add]
    rfl
   ·have:B2 hp i = some (.row e2 sz2 v2 l2):=hl2
    rw [hb] at this
    cases this
    exact ⟨Nat.le_refl _,fun _=>⟨g,l.length,cap,hθ,by simp⟩⟩
theorem Cf {T:Nat} [ts:O0 P T] {l:List UInt8} {k:IntKind} {i:Int} {b:UInt8} (hx:ev x = some (.str l)) (hy:ev y = some (.v (.int k i))) (h0:0 ≤ i) (hel:l[i.toNat]? = some b):E2 P E nx hp ev (.index T x y) ty (.v (.int .u8 b.toNat)) :=
 C7 fun _ _ _ θ a w h=>by
  have hlt:i.toNat < l.length:=(List.getElem?_eq_some_iff.1 hel).1
  have hi:=(h.rel hy).val
  have hv:=(h.rel hx).sval
  refine ⟨_,?_, .im (.v _)⟩
  have hb:(⟨l.toArray⟩:ByteArray)[i.toNat]? = some b:=by
   rw [getElem?_pos (ByteArray.mk l.toArray) i.toNat (show i.toNat < (ByteArray.mk l.toArray).size by simpa [ByteArray.size] using hlt)]
   rw [← hel,List.getElem?_eq_getElem hlt]
   rfl
  simp only [execOp,hv,hi,Instr.index,asIntOf,Sem.run_bind,Sem.run_pure,Result.andThen_ok,run_underlying ts.out,if_pos h0,hb]
theorem FD {T len e sz:Nat} [ts:Ac P T len e sz] {a:Addr} {k:IntKind} {i:Int} (h0:0 ≤ i) (h1:i < len) (w:World):(Instr.indexAt T (.pointer (some a)) (.int k i)).run P w = .ok (.pointer (some (a.add (i.toNat * sz)))) w:=by
 obtain ⟨h2,inf,h3,h4⟩:=ts.out
 simp [Instr.indexAt,asIntOf,run_underlying h2,Sem.run_bind,Sem.run_pure,h0,h1,sizeOf,typeInfo,program,Sem.run,h3,h4,Instr.sureAddr]
theorem Hj {T len e sz:Nat} [ts:Ac P T len e sz] {i o:Nat} {k:IntKind} {j:Int} (hx:ev x = some (.ref i o)) (hy:ev y = some (.v (.int k j))) (h0:0 ≤ j) (h1:j < len):E2 P E nx hp ev (.indexAddr T x y) ty (.ref i (o + j.toNat * sz)) :=
 C7 fun _ _ _ θ a w h=>by
  obtain ⟨b,hθ,hv,hnx⟩:=O2 (h.rel hx)
  have hj:=(h.rel hy).val
  refine ⟨.pointer (some ⟨b,o + j.toNat * sz,none⟩),?_, .ref i _ b hnx hθ⟩
  simp only [execOp,hv,hj,Sem.run_bind]
  rw [FD (P:=P) (T:=T) (len:=len) (e:=e) (sz:=sz) h0 h1,F3]
  rfl
theorem GW {T len e:Nat} [ts:Ac P T len e 1] {l:List AV} {k:IntKind} {j:Int} {av:AV} (hx:ev x = some (.iptr l)) (hy:ev y = some (.v (.int k j))) (hl:l.length = len) (h0:0 ≤ j) (hel:l[j.toNat]? = some av):E2 P E nx hp ev (.indexAddr T x y) ty (.iptr [av]) :=
 C7 fun _ _ _ θ a w h=>by
  obtain ⟨p,f,hv,hu,hc,hh⟩:=Z7 (h.rel hx)
  have hj:=(h.rel hy).val
  have hlt:j.toNat < l.length:=(List.getElem?_eq_some_iff.1 hel).1
  refine ⟨.pointer (some (p.add j.toNat)),?_, .im (.iptr [av] _ (fun i=>f (j.toNat + i)) (fun _=>?_) (fun i hi=>?_) (fun i u hu2=>?_))⟩
  ·simp only [execOp,hv,hj,Sem.run_bind]
   rw [FD (P:=P) (T:=T) (len:=len) (e:=e) (sz:=1) h0 (by omega),Nat.mul_one]
   rfl
  ·rw [M1];exact hu (by rintro rfl;simp at hlt)
  ·have hi0:i = 0:=by simpa using hi
   subst hi0
   have:=hc j.toNat hlt
   rw [Nat.add_zero]
   have e0:(p.add j.toNat).add 0 = p.add j.toNat:=by simp [Addr.add]
   rw [e0];exact this
  ·match i,hu2 with
   | 0,hu2=>cases hu2;exact hh j.toNat av hel
theorem KM {i o:Nat} (hx:ev x = some (.ref i o)):E2 P E nx hp ev (.nilCheck x) ty (.ref i o) :=
 C7 fun _ _ _ θ a w h=>by
  obtain ⟨b,hθ,hv,hnx⟩:=O2 (h.rel hx)
  exact ⟨_,by simp [execOp,hv,Sem.run_pure], .ref i _ b hnx hθ⟩
theorem KN {i ver k o e sz:Nat} {l:List (List AV)} (hx:ev x = some (.elt i ver k o)) (hb:B2 hp i = some (.row e sz ver l)):E2 P E nx hp ev (.nilCheck x) ty (.elt i ver k o) :=
 C7 fun _ _ _ θ a w h=>by
  obtain ⟨g,m,cap,hθ,hv,hnx⟩:=X2 (h.rel hx) hb
  exact ⟨a.eval x,by simp [execOp,hv,Sem.run_pure],h.rel hx⟩
theorem JB {l:List AV} (hx:ev x = some (.iptr l)):E2 P E nx hp ev (.nilCheck x) ty (.iptr l) :=
 C7 fun _ _ _ θ a w h=>by
  obtain ⟨p,f,hv,_⟩:=Z7 (h.rel hx)
  exact ⟨a.eval x,by simp [execOp,hv,Sem.run_pure],h.rel hx⟩
theorem QV {T U:Nat} {k:IntKind} {a b:Int} (hx:ev x = some (.v (.int k a))) (hy:ev y = some (.v (.int k b))):E2 P E nx hp ev (.call ⟨.builtin .min, #[x,y], #[T,U]⟩) ty (.v (.int k (min a b))) :=
 C7 fun _ _ _ θ ac w h=>⟨.int k (min a b),by
  have:min a b = (if b < a then b else a):=by rw [Int.min_def];split <;> split <;> omega
  rw [Q4,(h.rel hx).val,(h.rel hy).val,this]
  simp [builtin,Builtin.min_,Builtin.min2,Sem.run_bind,Sem.run_pure], .im (.v _)⟩
theorem Nj {T U:Nat} {k:IntKind} {a b:Int} (hx:ev x = some (.v (.int k a))) (hy:ev y = some (.v (.int k b))):E2 P E nx hp ev (.call ⟨.builtin .max, #[x,y], #[T,U]⟩) ty (.v (.int k (max a b))) :=
 C7 fun _ _ _ θ ac w h=>⟨.int k (max a b),by
  have:max a b = (if a < b then b else a):=by rw [Int.max_def];split <;> split <;> omega
  rw [Q4,(h.rel hx).val,(h.rel hy).val,this]
  simp [builtin,Builtin.max_,Builtin.max2,Sem.run_bind,Sem.run_pure], .im (.v _)⟩
end rules
inductive J3:AV → Prop
 | v (x:Value):J3 (.v x)
 | str (l:List UInt8):J3 (.str l)
 | sl (sz:Nat) (l:List (List AV)):J3 (.sl sz l)
 | iptr (l:List AV):J3 (.iptr l)
 | fn (f:Nat) (l:List AV):J3 (.fn f l)
 | err:J3 .err
 | any:J3 .any
 | agg {l:List AV} (h:∀ x ∈ l,J3 x):J3 (.agg l)
 | tup {l:List AV} (h:∀ x ∈ l,J3 x):J3 (.tup l)
theorem J3.im {c:Cx} {a:AV} {x:Value} (k:J3 a) (r:C5 c a x):Im c.U c.w a x:=by
 induction r with
 | any x=>exact .any x
 | im h=>exact h
 | fo f l cs hl h ih=>cases k
 | sub i ver lo len x hi hr=>cases k
 | agg l cs hl h ih =>
   cases k with
   | agg hk=>exact .agg l cs hl fun j x y hx hy=>ih j x y hx hy (hk x (List.mem_of_getElem? hx))
 | tup l cs hl h ih =>
   cases k with
   | tup hk=>exact .tup l cs hl fun j x y hx hy=>ih j x y hx hy (hk x (List.mem_of_getElem? hx))
 | ref=>cases k
 | row=>cases k
 | mp=>cases k
 | elt=>cases k
mutual
def H2:AV → Bool
 | .v _ | .str _ | .sl _ _ | .iptr _ | .fn _ _ | .err | .any=>true
 | .agg l | .tup l=>H1 l
 | _=>false
def H1:List AV → Bool
 | []=>true
 | x :: r=>H2 x && H1 r
end
mutual
theorem Q5:∀ {a:AV},H2 a = true → J3 a
 | .v x,_=>.v x
 | .str l,_=>.str l
 | .sl s l,_=>.sl s l
 | .iptr l,_=>.iptr l
 | .fn f l,_=>.fn f l
 | .err,_=>.err
 | .agg l,h=>.agg (L0 (by simpa only [H2] using h))
 | .tup l,h=>.tup (L0 (by simpa only [H2] using h))
 | .any,_=>.any
 | .ref ..,h=>by simp [H2] at h
 | .row ..,h=>by simp [H2] at h
 | .mp ..,h=>by simp [H2] at h
 | .elt ..,h=>by simp [H2] at h
theorem L0:∀ {l:List AV},H1 l = true → ∀ x ∈ l,J3 x
 | [],_,x,hx=>by cases hx
 | y :: r,h,x,hx=>by
   simp only [H1,Bool.and_eq_true] at h
   have hy:=Q5 h.1
   have hr:=L0 h.2
   rcases List.mem_cons.1 hx with rfl | hx
   ·exact hy
   ·exact hr x hx
end
def JC (P : Program) (f : Nat) : Prop := ∃ fn,P.funcs[f]? = some fn ∧ (fn.name == "runtime.NumGoroutine") = false ∧ fn.body.isNone = false
def B5 (P:Program) (f:Nat) (args:List AV) (r:AV):Prop:=JC P f ∧
 ∀ (X:Nat → Prop) (w:World) (vs:List Value),(∀ k,X k → k < w.heap.size) → N8 X w → args.length = vs.length → (∀ (j:Nat) a v,args[j]? = some a → vs[j]? = some v → Im X w a v) →
  Calls P f vs.toArray w fun e w'=>∃ v,e = .returned v ∧ Im X w' r v ∧ Below w.heap.size w w'
def P9 (ev:Operand → Option AV):List Operand → Option (List AV)
 | []=>some []
 | x :: r=>match ev x,P9 ev r with
   | some a,some l=>some (a :: l)
   | _,_=>none
theorem W7 {E:Env} {θ:Th} {nx:Nat} {hp:Hp} {ev:Operand → Option AV} {a:Act} {w:World} (h:Q3 E θ nx hp ev a w):∀ (xs:List Operand) (l:List AV),P9 ev xs = some l → l.length = xs.length ∧ ∀ (j:Nat) av v,l[j]? = some av → (xs.map a.eval)[j]? = some v → C5 (kx E θ nx hp w) av v
 | [],l,e=>by simp [P9] at e;subst e;simp
 | x :: r,l,e=>by
   simp only [P9] at e
   split at e
   ·rename_i a1 l1 h1 h2
    cases e
    obtain ⟨h3,h4⟩:=W7 h r l1 h2
    refine ⟨by simp [h3],fun j av v hj hv=>?_⟩
    cases j with
    | zero=>simp at hj hv;subst hj hv;exact h.rel h1
    | succ j=>simp at hj hv;exact h4 j av v hj (by simpa using hv)
   ·cases e
section rules
variable {P:Program} {E:Env} {n nx:Nat} {hp:Hp} {ev:Operand → Option AV} {ops:Array Oper} {rest:List Oper} {σ:St} {K:St → Prop} {Q:Exit → St → Prop}
variable {ty:TypeId} {x y:Operand}
theorem GX {f:Nat} (hf:JC P f) {a:Act} {w:World} {xs:List Operand} {ts:Array TypeId} {o:Option Tmp} {pos:String} {after:Array Edge} {g:Operand} {cs:Array Value} (hg:a.eval g = .func (.func f) #[] cs) :
  (execOp a.eval ⟨o, .call ⟨.value g,xs.toArray,ts⟩,ty,pos,after,none⟩).run P w = .ok (.enter f ((xs.map a.eval).toArray ++ cs)) w:=by
 obtain ⟨fn,h1,h2,h3⟩:=hf
 have h2' : ¬ fn.name = "runtime.NumGoroutine" := by simpa using h2
 have h3':¬ fn.body = none:=by intro e;simp [e] at h3
 simp [execOp,resolve,Deferred.ofValue,hg,invoke,callFunc,program,Sem.run_bind,Sem.run_pure,Sem.run,h1]
 rw [if_neg h2',if_neg h3']
theorem KO {f:Nat} (hf:JC P f) {a:Act} {w:World} {xs:List Operand} {ts:Array TypeId} {o:Option Tmp} {pos:String} {after:Array Edge} {g:Operand} {cf cs:Array Value} (hg:a.eval g = .func (.func f) cf cs) :
  (execOp a.eval ⟨o, .call ⟨.value g,xs.toArray,ts⟩,ty,pos,after,none⟩).run P w = .ok (.enter f (cf ++ (xs.map a.eval).toArray ++ cs)) w:=by
 obtain ⟨fn,h1,h2,h3⟩:=hf
 have h2' : ¬ fn.name = "runtime.NumGoroutine" := by simpa using h2
 have h3':¬ fn.body = none:=by intro e;simp [e] at h3
 simp [execOp,resolve,Deferred.ofValue,hg,invoke,callFunc,program,Sem.run_bind,Sem.run_pure,Sem.run,h1]
 rw [if_neg h2',if_neg h3']
theorem JD {f:Nat} {xs:List Operand} {args caps:List AV} {r:AV} {ts:Array TypeId} {g:Operand} (hc:B5 P f (args ++ caps) r) (ha:P9 ev xs = some args) (hcl:∀ a ∈ args,J3 a)
  (hg:∀ θ a w,Q3 E θ nx hp ev a w → ∃ cs:List Value,a.eval g = .func (.func f) #[] cs.toArray ∧ caps.length = cs.length ∧ ∀ (j:Nat) x c,caps[j]? = some x → cs[j]? = some c → Im (kx E θ nx hp w).U w x c) :
  E2 P E nx hp ev (.call ⟨.value g,xs.toArray,ts⟩) ty r:=by
 intro d pos after θ a w K hs hk
 obtain ⟨hl,hr⟩:=W7 hs xs args ha
 obtain ⟨cs,hge,hcl2,hcr⟩:=hg θ a w hs
 unfold BP
 rw [GX hc.1 hge]
 have hX:=hc.2 (kx E θ nx hp w).U w (xs.map a.eval ++ cs) hs.Ult hs.tab (by simp [hl,hcl2]) fun j av v hj hv=>by
  rw [List.getElem?_append] at hj hv
  have e1:(xs.map a.eval).length = args.length:=by simp [hl]
  rw [e1] at hv
  split at hj
  ·rename_i hlt
   rw [if_pos hlt] at hv
   exact (hcl av (List.mem_of_getElem? hj)).im (hr j av v hj hv)
  ·rename_i hlt
   rw [if_neg hlt] at hv
   exact hcr _ av v hj hv
 rw [← List.append_toArray] at hX
 refine Calls.mono hX ?_
 rintro e w' ⟨v,rfl,hv,hb⟩
 exact ⟨v,rfl,hk v w' hb (.im hv)⟩
def GD (P:Program) (f:Nat) (args:List AV) (r:AV):Prop:=∃ (xs:List Value) (y:Value),args = xs.map AV.v ∧ (∀ w,(callFunc f xs.toArray).run P w = .ok (.value y) w) ∧ ∀ U w,Im U w r y
def GE (P:Program) (f:Nat) (args:List AV) (r:AV):Prop:=B5 P f args r ∨ GD P f args r
theorem KP {f:Nat} {a:Act} {w:World} {xs:List Operand} {ts:Array TypeId} {o:Option Tmp} {pos:String} {after:Array Edge} {g:Operand} {cs:Array Value} (hg:a.eval g = .func (.func f) #[] cs) :
  (execOp a.eval ⟨o, .call ⟨.value g,xs.toArray,ts⟩,ty,pos,after,none⟩).run P w = (callFunc f ((xs.map a.eval).toArray ++ cs)).run P w:=by
 simp [execOp,resolve,Deferred.ofValue,hg,invoke,Sem.run_bind,Sem.run_pure,Sem.run]
theorem Cg {f:Nat} {xs:List Operand} {args caps:List AV} {r:AV} {ts:Array TypeId} {g:Operand} (hc:GE P f (args ++ caps) r) (ha:P9 ev xs = some args) (hcl:∀ a ∈ args,J3 a)
  (hg:∀ θ a w,Q3 E θ nx hp ev a w → ∃ cs:List Value,a.eval g = .func (.func f) #[] cs.toArray ∧ caps.length = cs.length ∧ ∀ (j:Nat) x c,caps[j]? = some x → cs[j]? = some c → Im (kx E θ nx hp w).U w x c) :
  E2 P E nx hp ev (.call ⟨.value g,xs.toArray,ts⟩) ty r:=by
 rcases hc with hc | ⟨vs,y,hvs,hrun,hy⟩
 ·exact JD hc ha hcl hg
 intro d pos after θ a w K hs hk
 obtain ⟨hl,hr⟩:=W7 hs xs args ha
 obtain ⟨cs,hge,hcl2,hcr⟩:=hg θ a w hs
 unfold BP
 have he:xs.map a.eval ++ cs = vs:=by
  have hlen:=congrArg List.length hvs
  simp only [List.length_append,List.length_map] at hlen
  refine List.ext_getElem? fun j=>?_
  by_cases hj:j < vs.length
  ·have h1:(args ++ caps)[j]? = some (AV.v vs[j]):=by rw [hvs,List.getElem?_map,List.getElem?_eq_getElem hj];rfl
   rw [List.getElem?_eq_getElem hj]
   rw [List.getElem?_append] at h1 ⊢
   have e1:(xs.map a.eval).length = args.length:=by simp [hl]
   rw [e1]
   split at h1
   ·rename_i hlt
    rw [if_pos hlt]
    have hlt2:j < (xs.map a.eval).length:=by omega
    have h2:=hr j _ _ h1 (List.getElem?_eq_getElem hlt2)
    rw [List.getElem?_eq_getElem hlt2,h2.val]
   ·rename_i hlt
    rw [if_neg hlt]
    have hlt2:j - args.length < cs.length:=by omega
    have h2:=hcr _ _ _ h1 (List.getElem?_eq_getElem hlt2)
    rw [List.getElem?_eq_getElem hlt2,(C5.im h2:C5 (kx E θ nx hp w) _ _).val]
  ·rw [List.getElem?_eq_none (by simp;omega),List.getElem?_eq_none (by omega)]
 rw [KP hge,List.append_toArray,he,hrun w]
 exact hk y w (Below.refl _ _) (.im (hy _ _))
theorem Ed {f:Nat} {xs:List Operand} {args:List AV} {r:AV} {ts:Array TypeId} (hc:GE P f args r) (ha:P9 ev xs = some args) (hcl:H1 args = true) :
  E2 P E nx hp ev (.call ⟨.value (.func f),xs.toArray,ts⟩) ty r :=
 Cg (caps:=[]) (by rw [List.append_nil];exact hc) ha (L0 hcl) fun _ _ _ _=>⟨[],rfl,rfl,fun j x c hx=>by simp at hx⟩
theorem Lm {f:Nat} {xs:List Operand} {args caps:List AV} {r:AV} {ts:Array TypeId} {g:Operand} (hg:ev g = some (.fn f caps)) (hc:GE P f (args ++ caps) r) (ha:P9 ev xs = some args) (hcl:H1 args = true) :
  E2 P E nx hp ev (.call ⟨.value g,xs.toArray,ts⟩) ty r :=
 Cg hc ha (L0 hcl) fun θ a w h=>by
  have:=(h.rel hg)
  generalize a.eval g = v at this
  cases this with
  | im hi=>cases hi with | fn f l cs hl hc=>exact ⟨cs,rfl,hl,hc⟩
theorem DH (w:World) (o:Obj):Below w.heap.size w (w.drew.alloc o):=(Below.drew (Below.refl _ _)).alloc (Nat.le_refl _) o
theorem S6 (w:World) (o:Obj):Below w.heap.size w (w.alloc o):=(Below.refl _ _).alloc (Nat.le_refl _) o
theorem Ch {S T e sz:Nat} [hS:O0 P S] [ts:I6 P T e sz] [he:J9 P e .u8] {l:List UInt8} (hx:ev x = some (.str l)) (hl:l.length ≤ 9223372036854775807) :
  E2 P E nx hp ev (.convert S T x) ty (.sl 1 (l.map fun b=>[.v (.int .u8 b.toNat)])) :=
 KG fun _ _ _ θ a w h=>by
  have hv:=(h.rel hx).sval
  have hr:=run_bytes_of_string (P:=P) w S T e ⟨l.toArray⟩ hS.out ts.out.1 he.out
  have hsz:(ByteArray.mk l.toArray).size = l.length:=rfl
  rw [hsz] at hr
  have hcap:grownCap w l.length 0 e ≤ maxLen:=grownCap_le_maxLen w _ 0 e (by unfold maxLen;omega)
  have hge:=grownCap_ge w l.length 0 e
  generalize grownCap w l.length 0 e = cap at hr hcap hge
  generalize hC:bytesRow ⟨l.toArray⟩ cap = C at hr
  refine ⟨.slice (some ⟨w.heap.size,0,none⟩) l.length cap,w.drew.alloc (.cells C e (C.size,C.size + 1)),?_,DH w _, .im ?_⟩
  ·simp only [execOp,hv,Sem.run_bind,hr,Result.andThen_ok,Sem.run_pure]
  ·have hlen:(l.map fun b=>[AV.v (.int .u8 b.toNat)]).length = l.length:=List.length_map _
   rw [← hlen]
   refine Im.sl 1 _ ⟨w.heap.size,0,none⟩ cap (fun i _=>.int .u8 ((l.getD i 0).toNat)) (by rw [hlen];exact hge) hcap
    (fun _ _ hu=>absurd (h.Ult _ hu) (Nat.lt_irrefl _)) (fun el hel=>?_) (fun i hi j hj=>?_) (fun i el hi j u hu=>?_)
   ·obtain ⟨b,_,rfl⟩:=List.mem_map.1 hel
    rfl
   ·have hj0:j = 0:=by omega
    subst hj0
    rw [hlen] at hi
    rw [F3]
    refine (G5 (b:=w.heap.size) (heap_alloc_new w.drew _) _).trans ?_
    have hi2:i < (Array.map (fun (b:UInt8)=>Value.int .u8 b.toNat) l.toArray).size:=by simp;exact hi
    rw [← hC]
    simp only [bytesRow,Nat.zero_add,Nat.mul_one,Nat.add_zero]
    rw [Array.getElem?_append_left hi2]
    simp [hi]
   ·rw [List.getElem?_map,Option.map_eq_some_iff] at hi
    obtain ⟨b,hb,rfl⟩:=hi
    cases j with
    | zero =>
      cases hu
      have:l.getD i 0 = b:=by rw [List.getD,hb];rfl
      rw [this]
      exact .v _
    | succ j=>cases hu
theorem Ci {S T e sz:Nat} [ts:I6 P S e sz] [he:J9 P e .u8] [hT:O0 P T] {l:List UInt8} (hx:ev x = some (.sl 1 (l.map fun b=>[.v (.int .u8 b.toNat)]))):E2 P E nx hp ev (.convert S T x) ty (.str l) :=
 C7 fun _ _ _ θ a w h=>by
  refine ⟨.string ⟨l.toArray⟩,?_, .im (.str l)⟩
  rcases p9 (h.rel hx) with ⟨hn,hl⟩ | ⟨p,cap,f,hsl,hc1,hc2,hc3,hc4,hc5,hc6⟩
  ·have:l = []:=by simpa using hl
   subst this
   simp only [execOp,hn,Sem.run_bind]
   rw [run_convert_bytes_string w S T e none 0 0 ts.out.1 he.out hT.out]
   rfl
  ·rw [List.length_map] at hsl hc5
   have hr:=run_convert_bytes_back (P:=P) w S T e p cap l ts.out.1 he.out hT.out (fun j hj=>by
    have h1:=hc5 j hj 0 (by omega)
    rw [Nat.mul_one,Nat.add_zero] at h1
    have h2:=hc6 j [.v (.int .u8 l[j].toNat)] (by rw [List.getElem?_map,List.getElem?_eq_getElem hj];rfl) 0 _ rfl
    generalize f j 0 = z at h1 h2
    cases h2 with
    | v _=>exact h1)
   simp only [execOp,hsl,Sem.run_bind,hr,Result.andThen_ok,Sem.run_pure]
theorem Df {S T:Nat} {k k':IntKind} [tk:J9 P T k] [tS:J9 P S k'] {m:Int} (hx:ev x = some (.v (.int k' m))):E2 P E nx hp ev (.convert S T x) ty (.v (.int k (k.wrap m))) :=
 C7 fun _ _ _ θ a w h=>by
  have hv:=(h.rel hx).val
  refine ⟨_,?_, .im (.v _)⟩
  simp only [execOp,hv,convert,Sem.run_bind,run_underlying tS.out,run_underlying tk.out,Result.andThen_ok,Conv.intToInt]
  rfl
theorem Cj {S T:Nat} {k:IntKind} [tS:J9 P S k] [tT:O0 P T] {m:Int} (hx:ev x = some (.v (.int k m))):E2 P E nx hp ev (.convert S T x) ty (.str (Utf8.encode m).data.toList) :=
 C7 fun _ _ _ θ a w h=>by
  have hv:=(h.rel hx).val
  refine ⟨.string (Utf8.encode m),?_, .im (by
   have:Utf8.encode m = ⟨(Utf8.encode m).data.toList.toArray⟩:=rfl
   exact .str _)⟩
  simp only [execOp,hv,convert,Sem.run_bind,run_underlying tS.out,run_underlying tT.out,Result.andThen_ok,Conv.intToString]
  rfl
inductive One (hp:Hp):AV → Prop
 | v {x:Value} (h:x.oneCell' = true):One hp (.v x)
 | str (l:List UInt8):One hp (.str l)
 | sl (sz:Nat) (l:List (List AV)):One hp (.sl sz l)
 | iptr (l:List AV):One hp (.iptr l)
 | fn (f:Nat) (l:List AV):One hp (.fn f l)
 | fo (f:Nat) (l:List AV):One hp (.fo f l)
 | ref (i off:Nat):One hp (.ref i off)
 | mp (i:Nat):One hp (.mp i)
 | row {i e sz ver len:Nat} {l:List (List AV)} (h:B2 hp i = some (.row e sz ver l)):One hp (.row i ver len)
theorem One.val {θ:Th} {a:Act} {w:World} (h:Q3 E θ nx hp ev a w) {x:AV} {y:Value} (o:One hp x) (r:C5 (kx E θ nx hp w) x y):y.oneCell' = true:=by
 cases o with
 | v hx=>rw [r.val];exact hx
 | str l=>rw [r.sval];rfl
 | sl sz l=>cases r with | im hi=>cases hi <;> rfl
 | iptr l=>cases r with | im hi=>cases hi;rfl
 | fn f l=>cases r with | im hi=>cases hi;rfl
 | fo f l=>cases r with
   | im hi=>cases hi
   | fo=>unfold IH;split <;> rfl
 | ref i off=>cases r with
   | im hi=>cases hi
   | ref=>rfl
 | mp i=>cases r with
   | im hi=>cases hi
   | mp=>rfl
 | row hl =>
   obtain ⟨_,h3,_⟩:=N4 r hl
   obtain ⟨xs,ho,_⟩:=h.row hl
   obtain ⟨p,cap,hs,_⟩:=K9 ho
   have:(kx E θ nx hp w).θ = θ:=rfl
   rw [h3,this,hs]
   rfl
theorem q8 {y:Value} (h:y.oneCell' = true):y.cells = #[y]:=by cases y <;> first | rfl | simp [Value.oneCell'] at h
def H3:AV → List AV
 | .agg l=>l
 | x=>[x]
def Fits (hp:Hp):AV → Prop
 | .agg _=>True
 | x=>One hp x
theorem p2 {c:Cx} {l:List AV} {y:Value} (r:C5 c (.agg l) y):∃ cs:List Value,y = .agg cs.toArray ∧ l.length = cs.length ∧ ∀ (j:Nat) x z,l[j]? = some x → cs[j]? = some z → C5 c x z:=by
 cases r with
 | im hi=>cases hi with | agg l cs hl h=>exact ⟨cs,rfl,hl,fun j x z hx hz=>.im (h j x z hx hz)⟩
 | agg l cs hl h=>exact ⟨cs,rfl,hl,h⟩
theorem Fw {P:Program} {T:Nat} {k:IntKind} (h:P.underlying T = some (.int k)) (w:World):(isAgg T).run P w = .ok false w:=by
 simp [isAgg,run_underlying h,Sem.run_bind,Sem.run_pure]
theorem I1 {P:Program} {T:Nat} {k:IntKind} (h:P.underlying T = some (.int k)) {cs:Array Value} {off:Nat} {v:Value} (hv:cs[off]? = some v) (w:World):(part T cs off).run P w = .ok v w:=by
 simp [part,Fw h,Sem.run_bind,Sem.run_pure,hv]
theorem H5 {P:Program} {T:Nat} {k:IntKind} (h:P.underlying T = some (.int k)) (m:Nat) (a b:Int) (w:World):(Op.equalIn (m + 1) T (.int k a) (.int k b)).run P w = .ok (a == b) w:=by
 simp only [Op.equalIn,Sem.run_bind,run_underlying h,Result.andThen_ok]
 simp [Sem.run_pure]
theorem Ee {P : Program} {T : Nat} {k1 k2 : IntKind} {f1 f2 : Field} (hT : P.underlying T = some (.struct #[f1,f2])) (hn1 : f1.name ≠ "_") (hn2 : f2.name ≠ "_") (ho1 : f1.offset = 0) (ho2 : f2.offset = 1) (h1 : P.underlying f1.type = some (.int k1)) (h2 : P.underlying f2.type = some (.int k2)) (hs : P.stoodInHeld T = false) (m : Nat) (a1 a2 b1 b2 : Int) (w : World) :
  (Op.equalIn (m + 2) T (.agg #[.int k1 a1, .int k2 a2]) (.agg #[.int k1 b1, .int k2 b2])).run P w = .ok (decide (a1 = b1 ∧ a2 = b2)) w:=by
 have e1:=I1 h1 (cs:=#[Value.int k1 a1, .int k2 a2]) (off:=0) rfl w
 have e2:=I1 h2 (cs:=#[Value.int k1 a1, .int k2 a2]) (off:=1) rfl w
 have e3:=I1 h1 (cs:=#[Value.int k1 b1, .int k2 b2]) (off:=0) rfl w
 have e4:=I1 h2 (cs:=#[Value.int k1 b1, .int k2 b2]) (off:=1) rfl w
 rw [show m + 2 = (m + 1) + 1 from rfl,Op.equalIn]
 simp only [Sem.run_bind,run_underlying hT,Result.andThen_ok]
 have hp:(program).run P w = .ok P w:=by simp [program,Sem.run]
 simp only [Sem.run_bind,hp,Result.andThen_ok,hs]
 simp [hn1,hn2,ho1,ho2,Sem.run_bind,Sem.run_pure,e1,e2,e3,e4,H5 h1,H5 h2]
 by_cases c1:a1 = b1 <;> by_cases c2:a2 = b2 <;> simp [c1,c2,Sem.run_pure,Sem.run_bind,e1,e2,e3,e4,H5 h1,H5 h2]
theorem Ad {c:Cx} {x1 x2 y:Value} (r:C5 c (.agg [.v x1, .v x2]) y):y = .agg #[x1,x2]:=by
 obtain ⟨cs,rfl,hl,hr⟩:=p2 r
 match cs,hl with
 | [c1,c2],_ =>
   have h1:=(hr 0 (.v x1) c1 rfl rfl).val
   have h2:=(hr 1 (.v x2) c2 rfl rfl).val
   subst h1 h2
   rfl
theorem Ae {P:Program} {E:Env} {nx:Nat} {hp:Hp} {ev:Operand → Option AV} {ty:TypeId} {x y:Operand} {T T2:TypeId} {k1 k2:IntKind} {a1 a2 b1 b2:Int} [tp:n3 P T k1 k2] (neg:Bool) (hx:ev x = some (.agg [.v (.int k1 a1), .v (.int k2 a2)])) (hy:ev y = some (.agg [.v (.int k1 b1), .v (.int k2 b2)])) :
  E2 P E nx hp ev (.binOp (if neg then .neq else .eql) T x y T2) ty (.v (.bool (if neg then !decide (a1 = b1 ∧ a2 = b2) else decide (a1 = b1 ∧ a2 = b2)))) :=
 C7 fun _ _ _ _ _ w h=>by
  obtain ⟨f1,f2,hT,⟨hn1,hn2,ho1,ho2⟩,⟨h1,h2⟩,hs,hg⟩:=tp.out
  have e:(Op.equal T (.agg #[.int k1 a1, .int k2 a2]) (.agg #[.int k1 b1, .int k2 b2])).run P w = .ok (decide (a1 = b1 ∧ a2 = b2)) w:=Ee hT hn1 hn2 ho1 ho2 h1 h2 hs 9998 a1 a2 b1 b2 w
  have hp:(program).run P w = .ok P w:=by simp [program,Sem.run]
  refine ⟨_,G1 ?_ ?_, .im (.v _)⟩
  ·rw [Ad (h.rel hx),Ad (h.rel hy)]
   cases neg <;> simp [eqGuard,Sem.run_pure,Sem.run_bind,hp,hg]
  ·rw [Ad (h.rel hx),Ad (h.rel hy)]
   cases neg <;> simp [binOp,e,Sem.run_bind,Sem.run_pure]
theorem Fx {P:Program} {T:Nat} (h:P.underlying T = some .string) (w:World):(isAgg T).run P w = .ok false w:=by
 simp [isAgg,run_underlying h,Sem.run_bind,Sem.run_pure]
theorem Bc {P:Program} {T:Nat} (h:P.underlying T = some .string) {cs:Array Value} {off:Nat} {v:Value} (hv:cs[off]? = some v) (w:World):(part T cs off).run P w = .ok v w:=by
 simp [part,Fx h,Sem.run_bind,Sem.run_pure,hv]
theorem QX (a b:List UInt8):((⟨a.toArray⟩:ByteArray) == ⟨b.toArray⟩) = decide (a = b):=by
 show (a.toArray == b.toArray) = _
 by_cases e:a = b <;> simp [e]
theorem BQ {P:Program} {T:Nat} (h:P.underlying T = some .string) (m:Nat) (a b:List UInt8) (w:World):(Op.equalIn (m + 1) T (.string ⟨a.toArray⟩) (.string ⟨b.toArray⟩)).run P w = .ok (decide (a = b)) w:=by
 simp only [Op.equalIn,Sem.run_bind,run_underlying h,Result.andThen_ok]
 simp [Sem.run_pure,QX]
theorem GY {P : Program} {T : Nat} {k2 : IntKind} {f1 f2 : Field} (hT : P.underlying T = some (.struct #[f1,f2])) (hn1 : f1.name ≠ "_") (hn2 : f2.name ≠ "_") (ho1 : f1.offset = 0) (ho2 : f2.offset = 1) (h1 : P.underlying f1.type = some .string) (h2 : P.underlying f2.type = some (.int k2)) (hs : P.stoodInHeld T = false) (m : Nat) (a1 b1 : List UInt8) (a2 b2 : Int) (w : World) :
  (Op.equalIn (m + 2) T (.agg #[.string ⟨a1.toArray⟩, .int k2 a2]) (.agg #[.string ⟨b1.toArray⟩, .int k2 b2])).run P w = .ok (decide (a1 = b1 ∧ a2 = b2)) w:=by
 have e1:=Bc h1 (cs:=#[Value.string ⟨a1.toArray⟩, .int k2 a2]) (off:=0) rfl w
 have e2:=I1 h2 (cs:=#[Value.string ⟨a1.toArray⟩, .int k2 a2]) (off:=1) rfl w
 have e3:=Bc h1 (cs:=#[Value.string ⟨b1.toArray⟩, .int k2 b2]) (off:=0) rfl w
 have e4:=I1 h2 (cs:=#[Value.string ⟨b1.toArray⟩, .int k2 b2]) (off:=1) rfl w
 rw [show m + 2 = (m + 1) + 1 from rfl,Op.equalIn]
 simp only [Sem.run_bind,run_underlying hT,Result.andThen_ok]
 have hp:(program).run P w = .ok P w:=by simp [program,Sem.run]
 simp only [Sem.run_bind,hp,Result.andThen_ok,hs]
 simp [hn1,hn2,ho1,ho2,Sem.run_bind,Sem.run_pure,e1,e2,e3,e4,BQ h1,H5 h2]
 by_cases c1:a1 = b1 <;> by_cases c2:a2 = b2 <;> simp [c1,c2,Sem.run_pure,Sem.run_bind,e1,e2,e3,e4,BQ h1,H5 h2]
theorem Dg {c:Cx} {s:List UInt8} {x2 y:Value} (r:C5 c (.agg [.str s, .v x2]) y):y = .agg #[.string ⟨s.toArray⟩,x2]:=by
 obtain ⟨cs,rfl,hl,hr⟩:=p2 r
 match cs,hl with
 | [c1,c2],_ =>
   have h1:=(hr 0 (.str s) c1 rfl rfl).sval
   have h2:=(hr 1 (.v x2) c2 rfl rfl).val
   subst h1 h2
   rfl
theorem Dh {P:Program} {E:Env} {nx:Nat} {hp:Hp} {ev:Operand → Option AV} {ty:TypeId} {x y:Operand} {T T2:TypeId} {k2:IntKind} {a1 b1:List UInt8} {a2 b2:Int} [tp:p0 P T k2] (neg:Bool) (hx:ev x = some (.agg [.str a1, .v (.int k2 a2)])) (hy:ev y = some (.agg [.str b1, .v (.int k2 b2)])) :
  E2 P E nx hp ev (.binOp (if neg then .neq else .eql) T x y T2) ty (.v (.bool (if neg then !decide (a1 = b1 ∧ a2 = b2) else decide (a1 = b1 ∧ a2 = b2)))) :=
 C7 fun _ _ _ _ _ w h=>by
  obtain ⟨f1,f2,hT,⟨hn1,hn2,ho1,ho2⟩,⟨h1,h2⟩,hs,hg⟩:=tp.out
  have e:(Op.equal T (.agg #[.string ⟨a1.toArray⟩, .int k2 a2]) (.agg #[.string ⟨b1.toArray⟩, .int k2 b2])).run P w = .ok (decide (a1 = b1 ∧ a2 = b2)) w:=GY hT hn1 hn2 ho1 ho2 h1 h2 hs 9998 a1 b1 a2 b2 w
  have hp:(program).run P w = .ok P w:=by simp [program,Sem.run]
  refine ⟨_,G1 ?_ ?_, .im (.v _)⟩
  ·rw [Dg (h.rel hx),Dg (h.rel hy)]
   cases neg <;> simp [eqGuard,Sem.run_pure,Sem.run_bind,hp,hg]
  ·rw [Dg (h.rel hx),Dg (h.rel hy)]
   cases neg <;> simp [binOp,e,Sem.run_bind,Sem.run_pure]
theorem Ef {P : Program} {T : Nat} {k1 k2 k3 : IntKind} {f1 f2 f3 : Field} (hT : P.underlying T = some (.struct #[f1,f2,f3])) (hn : f1.name ≠ "_" ∧ f2.name ≠ "_" ∧ f3.name ≠ "_" ∧ f1.offset = 0 ∧ f2.offset = 1 ∧ f3.offset = 2) (h1 : P.underlying f1.type = some (.int k1)) (h2 : P.underlying f2.type = some (.int k2)) (h3 : P.underlying f3.type = some (.int k3)) (hs : P.stoodInHeld T = false) (m : Nat) (a1 a2 a3 b1 b2 b3 : Int) (w : World) :
  (Op.equalIn (m + 2) T (.agg #[.int k1 a1, .int k2 a2, .int k3 a3]) (.agg #[.int k1 b1, .int k2 b2, .int k3 b3])).run P w = .ok (decide (a1 = b1 ∧ a2 = b2 ∧ a3 = b3)) w:=by
 obtain ⟨hn1,hn2,hn3,ho1,ho2,ho3⟩:=hn
 have e1:=I1 h1 (cs:=#[Value.int k1 a1, .int k2 a2, .int k3 a3]) (off:=0) rfl w
 have e2:=I1 h2 (cs:=#[Value.int k1 a1, .int k2 a2, .int k3 a3]) (off:=1) rfl w
 have e3:=I1 h3 (cs:=#[Value.int k1 a1, .int k2 a2, .int k3 a3]) (off:=2) rfl w
 have g1:=I1 h1 (cs:=#[Value.int k1 b1, .int k2 b2, .int k3 b3]) (off:=0) rfl w
 have g2:=I1 h2 (cs:=#[Value.int k1 b1, .int k2 b2, .int k3 b3]) (off:=1) rfl w
 have g3:=I1 h3 (cs:=#[Value.int k1 b1, .int k2 b2, .int k3 b3]) (off:=2) rfl w
 rw [show m + 2 = (m + 1) + 1 from rfl,Op.equalIn]
 simp only [Sem.run_bind,run_underlying hT,Result.andThen_ok]
 have hp:(program).run P w = .ok P w:=by simp [program,Sem.run]
 simp only [Sem.run_bind,hp,Result.andThen_ok,hs]
 simp [hn1,hn2,hn3,ho1,ho2,ho3,Sem.run_bind,Sem.run_pure,e1,e2,e3,g1,g2,g3,H5 h1,H5 h2,H5 h3]
 by_cases c1:a1 = b1 <;> by_cases c2:a2 = b2 <;> by_cases c3:a3 = b3 <;> simp [c1,c2,c3,Sem.run_pure,Sem.run_bind,e1,e2,e3,g1,g2,g3,H5 h1,H5 h2,H5 h3]
theorem Af {c:Cx} {x1 x2 x3 y:Value} (r:C5 c (.agg [.v x1, .v x2, .v x3]) y):y = .agg #[x1,x2,x3]:=by
 obtain ⟨cs,rfl,hl,hr⟩:=p2 r
 match cs,hl with
 | [c1,c2,c3],_ =>
   have h1:=(hr 0 (.v x1) c1 rfl rfl).val
   have h2:=(hr 1 (.v x2) c2 rfl rfl).val
   have h3:=(hr 2 (.v x3) c3 rfl rfl).val
   subst h1 h2 h3
   rfl
theorem Ag {P:Program} {E:Env} {nx:Nat} {hp:Hp} {ev:Operand → Option AV} {ty:TypeId} {x y:Operand} {T T2:TypeId} {k1 k2 k3:IntKind} {a1 a2 a3 b1 b2 b3:Int} [tp:CN P T k1 k2 k3] (neg:Bool) (hx:ev x = some (.agg [.v (.int k1 a1), .v (.int k2 a2), .v (.int k3 a3)])) (hy:ev y = some (.agg [.v (.int k1 b1), .v (.int k2 b2), .v (.int k3 b3)])) :
  E2 P E nx hp ev (.binOp (if neg then .neq else .eql) T x y T2) ty (.v (.bool (if neg then !decide (a1 = b1 ∧ a2 = b2 ∧ a3 = b3) else decide (a1 = b1 ∧ a2 = b2 ∧ a3 = b3)))) :=
 C7 fun _ _ _ _ _ w h=>by
  obtain ⟨f1,f2,f3,hT,hn,⟨h1,h2,h3⟩,hs,hg⟩:=tp.out
  have e:(Op.equal T (.agg #[.int k1 a1, .int k2 a2, .int k3 a3]) (.agg #[.int k1 b1, .int k2 b2, .int k3 b3])).run P w = .ok (decide (a1 = b1 ∧ a2 = b2 ∧ a3 = b3)) w:=Ef hT hn h1 h2 h3 hs 9998 a1 a2 a3 b1 b2 b3 w
  have hp:(program).run P w = .ok P w:=by simp [program,Sem.run]
  refine ⟨_,G1 ?_ ?_, .im (.v _)⟩
  ·rw [Af (h.rel hx),Af (h.rel hy)]
   cases neg <;> simp [eqGuard,Sem.run_pure,Sem.run_bind,hp,hg]
  ·rw [Af (h.rel hx),Af (h.rel hy)]
   cases neg <;> simp [binOp,e,Sem.run_bind,Sem.run_pure]
theorem Bd {θ:Th} {a:Act} {w:World} (h:Q3 E θ nx hp ev a w) {x:AV} {y:Value} (f:Fits hp x) (r:C5 (kx E θ nx hp w) x y) :
  ∃ cs:List Value,y.cells = cs.toArray ∧ (H3 x).length = cs.length ∧ ∀ (j:Nat) u z,(H3 x)[j]? = some u → cs[j]? = some z → C5 (kx E θ nx hp w) u z:=by
 by_cases hx:∃ l,x = .agg l
 ·obtain ⟨l,rfl⟩:=hx
  obtain ⟨cs,rfl,hl,hr⟩:=p2 r
  exact ⟨cs,rfl,hl,hr⟩
 ·have hc:H3 x = [x]:=by cases x <;> first | rfl | exact absurd ⟨_,rfl⟩ hx
  have ho:One hp x:=by cases x <;> first | exact f | exact absurd ⟨_,rfl⟩ hx
  refine ⟨[y],q8 (ho.val h r),by rw [hc];rfl,fun j u z hu hz=>?_⟩
  rw [hc] at hu
  cases j with
  | zero=>simp at hu hz;subst hu;subst hz;exact r
  | succ j=>simp at hu
theorem R9 {T:Nat} {i:TypeInfo} {z:Value} (h1:P.info? T = some i) (h2:i.zero = some z) (w:World):(zeroValue T).run P w = .ok z w:=by
 simp [zeroValue,typeInfo,program,Sem.run_bind,Sem.run,h1,h2]
def PW (c:Cx) (l:List AV) (cs:List Value):Prop:=l.length = cs.length ∧ ∀ (j:Nat) x y,l[j]? = some x → cs[j]? = some y → C5 c x y
def X3 (l:List AV) (off:Nat) (m:List AV):List AV:=l.take off ++ m ++ l.drop (off + m.length)
theorem KQ (vs:List Value):∀ (k off:Nat) (cells:Array Value),off + k + vs.length ≤ cells.size →
  ((vs.zipIdx k).foldl (fun cs (c,j)=>cs.setIfInBounds (off + j) c) cells).toList = cells.toList.take (off + k) ++ vs ++ cells.toList.drop (off + k + vs.length):=by
 induction vs with
 | nil=>intro k off cells h;simp
 | cons v r ih =>
   intro k off cells h
   simp only [List.length_cons] at h
   rw [List.zipIdx_cons,List.foldl_cons,ih (k + 1) off _ (by simp;omega)]
   simp only [Array.toList_setIfInBounds]
   have hlt:off + k < cells.toList.length:=by simp;omega
   rw [show off + (k + 1) = off + k + 1 by omega,List.take_add_one]
   have e1:(cells.toList.set (off + k) v)[off + k]? = some v:=by simp at hlt;simp [hlt]
   rw [e1,List.take_set_of_le (Nat.le_refl _),List.drop_set_of_lt (by omega)]
   simp [List.append_assoc]
   congr 1
   omega
theorem PW.splice {c:Cx} {l:List AV} {cs:List Value} {m:List AV} {vs:List Value} {off:Nat} (h:PW c l cs) (hm:PW c m vs) (hf:off + m.length ≤ l.length) :
  PW c (X3 l off m) (cs.take off ++ vs ++ cs.drop (off + vs.length)):=by
 obtain ⟨h1,h2⟩:=h
 obtain ⟨h3,h4⟩:=hm
 refine ⟨by simp [X3];omega,fun j x y hx hy=>?_⟩
 unfold X3 at hx
 have hl1:(l.take off).length = off:=by rw [List.length_take];omega
 have hl2:(cs.take off).length = off:=by rw [List.length_take];omega
 by_cases hj:j < off
 ·rw [List.append_assoc,List.getElem?_append_left (by omega),List.getElem?_take,if_pos hj] at hx hy
  exact h2 j x y hx hy
 ·by_cases hj2:j < off + m.length
  ·rw [List.append_assoc,List.getElem?_append_right (by omega),List.getElem?_append_left (by omega),hl1] at hx
   rw [List.append_assoc,List.getElem?_append_right (by omega),List.getElem?_append_left (by omega),hl2] at hy
   exact h4 _ x y hx hy
  ·rw [List.getElem?_append_right (by rw [List.length_append];omega),List.length_append,hl1,List.getElem?_drop] at hx
   rw [List.getElem?_append_right (by rw [List.length_append];omega),List.length_append,hl2,List.getElem?_drop] at hy
   refine h2 _ x y hx ?_
   rw [← hy]
   congr 1
   omega
class O3 (P:Program) (T:Nat) (pl:outParam (List (Nat × Nat))):Prop where
 out:(∃ fs,P.underlying T = some (.struct fs) ∧ fs.size = pl.length ∧ ∀ (j:Nat) f,fs[j]? = some f → ∃ i,P.info? f.type = some i ∧ pl[j]? = some (f.offset,i.size)) ∨
  ∃ n e i,P.underlying T = some (.array n e) ∧ P.info? e = some i ∧ ∀ (j:Nat) p,pl[j]? = some p → p = (j * i.size,i.size)
def placesOf (P:Program) (T:Nat):Option (List (Option (Nat × Nat))) :=
 match P.underlying T with
 | some (.struct fs)=>some (fs.toList.map fun f=>(P.info? f.type).map fun i=>(f.offset,i.size))
 | _=>none
theorem O3.of {T:Nat} {pl:List (Nat × Nat)} (h:placesOf P T = some (pl.map some)):O3 P T pl:=by
 unfold placesOf at h
 split at h
 ·rename_i fs hu
  simp only [Option.some.injEq] at h
  have hlen:fs.size = pl.length:=by
   have:=congrArg List.length h
   simpa using this
  refine ⟨.inl ⟨fs,hu,hlen,fun j f hf=>?_⟩⟩
  have:=congrArg (·[j]?) h
  simp only [List.getElem?_map,Array.getElem?_toList,hf,Option.map_some] at this
  cases hp:pl[j]? with
  | none=>rw [hp] at this;simp at this
  | some p =>
    rw [hp] at this
    simp only [Option.map_some,Option.some.injEq] at this
    cases hi:P.info? f.type with
    | none=>rw [hi] at this;simp at this
    | some i=>rw [hi] at this;simp at this;exact ⟨i,rfl,by rw [← this]⟩
 ·cases h
def W2 (pl:List (Nat × Nat)):List AV → List (Nat × AV) → Option (List AV)
 | l,[]=>some l
 | l,(i,a) :: r=>match pl[i]? with
   | some (off,sz)=>cond (Nat.beq (H3 a).length sz && Nat.ble (off + (H3 a).length) l.length) (W2 pl (X3 l off (H3 a)) r) none
   | none=>none
def V5 (ev:Operand → Option AV):List (Nat × Operand) → Option (List (Nat × AV))
 | []=>some []
 | (i,x) :: r=>match ev x,V5 ev r with
   | some a,some l=>some ((i,a) :: l)
   | _,_=>none
def j6 (hp:Hp):List (Nat × AV) → Prop
 | []=>True
 | (_,a) :: r=>Fits hp a ∧ j6 hp r
theorem v6 {θ:Th} {a:Act} {w:World} (h:Q3 E θ nx hp ev a w) {pl:List (Nat × Nat)} {place:Nat → Option (Nat × Nat)} (hpl:∀ i p,pl[i]? = some p → place i = some p) :
  ∀ (parts:List (Nat × Operand)) (ps:List (Nat × AV)) (l l':List AV) (cells:Array Value),V5 ev parts = some ps → j6 hp ps → PW (kx E θ nx hp w) l cells.toList → W2 pl l ps = some l' →
   ∃ cells',Instr.fill place cells (parts.map fun (i,x)=>(i,a.eval x)) = some cells' ∧ PW (kx E θ nx hp w) l' cells'.toList
 | [],ps,l,l',cells,he,_,hpw,hf=>by
   simp [V5] at he;subst he
   simp [W2] at hf;subst hf
   exact ⟨cells,rfl,hpw⟩
 | (i,x) :: r,ps,l,l',cells,he,hfit,hpw,hf=>by
   simp only [V5] at he
   split at he
   ·rename_i av l1 h1 h2
    cases he
    obtain ⟨hfa,hfr⟩:=hfit
    obtain ⟨cs,hc,hl,hr⟩:=Bd h hfa (h.rel h1)
    simp only [W2] at hf
    cases hp':pl[i]? with
    | none=>rw [hp'] at hf;cases hf
    | some p =>
      obtain ⟨off,sz⟩:=p
      rw [hp'] at hf
      simp only at hf
      cases hb:(Nat.beq (H3 av).length sz && Nat.ble (off + (H3 av).length) l.length) with
      | false=>rw [hb] at hf;cases hf
      | true =>
        rw [hb] at hf
        simp only [Bool.and_eq_true,Nat.beq_eq,Nat.ble_eq] at hb
        have hsz:(a.eval x).cells.size = sz:=by rw [hc];simp;omega
        have hfold:=KQ cs 0 off cells (by have:=hpw.1;simp at this;omega)
        have hpw':=hpw.splice (m:=H3 av) (vs:=cs) (off:=off) ⟨hl,hr⟩ hb.2
        simp only [Nat.add_zero] at hfold
        rw [← hfold] at hpw'
        obtain ⟨cells',hcells',hres⟩:=v6 h hpl r l1 _ l' _ h2 hfr hpw' hf
        refine ⟨cells',?_,hres⟩
        have hsmall:¬ (off + (a.eval x).cells.size > cells.size):=by
         rw [hsz];have:=hpw.1;simp at this;omega
        simp only [List.map_cons,Instr.fill,hpl i _ hp',hsz,ne_eq,not_true_eq_false,decide_false,Bool.false_or,decide_eq_true_eq]
        rw [if_neg (by rw [← hsz];exact hsmall)]
        rw [hc]
        have:(cs.toArray.zipIdx) = (cs.zipIdx 0).toArray:=by simp
        rw [this, ← Array.foldl_toList]
        exact hcells'
   ·cases he
theorem IK {T:Nat} {zs:List Value} {pl:List (Nat × Nat)} [tz:G7 P T zs] [tp:O3 P T pl] {parts:List (Nat × Operand)} {ps:List (Nat × AV)} {l:List AV} (he:V5 ev parts = some ps) (hfit:j6 hp ps)
  (hf:W2 pl (zs.map Q1) ps = some l):k9 P E nx hp ev (.build T parts.toArray) ty (.agg l) :=
 fun _ _ _ θ a w h=>by
  obtain ⟨i,z,h1,h2,h3⟩:=tz.out
  have hpw:PW (kx E θ nx hp w) (zs.map Q1) zs.toArray.toList:=by
   refine ⟨by simp,fun j u y hu hy=>?_⟩
   simp at hu hy
   obtain ⟨v,hv,rfl⟩:=hu
   rw [hy] at hv
   cases hv
   exact .im (BZ _)
  rcases tp.out with ⟨fs,h4,h5,h6⟩ | ⟨m,e,ie,h4,h5,h6⟩
  ·skip
   have hmap:∀ (k:Nat) (fl:List Field),(∀ (j:Nat) f,fl[j]? = some f → ∃ i,P.info? f.type = some i) → ∃ ml:List (Nat × Nat),(∀ w,(fl.mapM (m:=Sem) fun f=>do pure (f.offset, ← sizeOf f.type)).run P w = .ok ml w) ∧ ml.length = fl.length ∧ ∀ (j:Nat) f i,fl[j]? = some f → P.info? f.type = some i → ml[j]? = some (f.offset,i.size):=by
    intro k fl
    induction fl with
    | nil=>intro _;exact ⟨[],fun _=>rfl,rfl,fun j f i hj=>by simp at hj⟩
    | cons f r ih =>
      intro hh
      obtain ⟨i,hi⟩:=hh 0 f rfl
      obtain ⟨ml,hml,hlen,hrest⟩:=ih (fun j g hg=>hh (j + 1) g (by simpa using hg))
      refine ⟨(f.offset,i.size) :: ml,?_,by simp [hlen],fun j g i' hg hi'=>?_⟩
      ·intro w;have hml:=hml w;simp only [List.mapM_cons,Sem.run_bind,sizeOf,typeInfo,program,Sem.run_pure,Sem.run,hi,Result.andThen_ok]
       simp only [sizeOf,typeInfo,program] at hml
       rw [hml]
       rfl
      ·cases j with
       | zero=>simp at hg;subst hg;rw [hi] at hi';cases hi';rfl
       | succ j=>simp at hg ⊢;exact hrest j g i' hg hi'
   obtain ⟨ml,hml,hmlen,hmrest⟩:=hmap 0 fs.toList (fun j f hf=>by
    obtain ⟨i,hi,_⟩:=h6 j f (by simpa using hf)
    exact ⟨i,hi⟩)
   have hpl:∀ (i:Nat) p,pl[i]? = some p → ml.toArray[i]? = some p:=by
    intro j p hj
    have hlt:j < fs.size:=by rw [h5];exact (List.getElem?_eq_some_iff.1 hj).1
    have hfj:fs[j]? = some fs[j]:=Array.getElem?_eq_getElem hlt
    obtain ⟨i,hi,hpj⟩:=h6 j _ hfj
    rw [hpj] at hj
    cases hj
    simpa using hmrest j _ i (by simpa using hfj) hi
   obtain ⟨cells',hfill,hres⟩:=v6 h (place:=fun i=>ml.toArray[i]?) hpl parts ps _ l zs.toArray he hfit hpw hf
   refine ⟨.agg cells',?_,?_⟩
   ·intro w;have hml:=hml w;simp only [execOp,Instr.build,Sem.run_bind,R9 h1 h2,Result.andThen_ok,run_underlying h4,h3]
    have e1:(fs.mapM (m:=Sem) fun f=>do pure (f.offset, ← sizeOf f.type)).run P w = .ok ml.toArray w:=by
     rw [Array.mapM_eq_mapM_toList]
     simp only [Sem.run_map,hml,Result.andThen_ok]
    rw [e1]
    simp only [Result.andThen_ok,List.map_toArray,hfill,Sem.run_pure]
   ·have:=C5.agg (c:=kx E θ nx hp w) l cells'.toList hres.1 hres.2
    simpa using this
  ·obtain ⟨cells',hfill,hres⟩:=v6 h (place:=fun i=>some (i * ie.size,ie.size)) (fun j p hj=>by rw [h6 j p hj]) parts ps _ l zs.toArray he hfit hpw hf
   refine ⟨.agg cells',?_,?_⟩
   ·intro w
    have hs:(sizeOf e).run P w = .ok ie.size w:=by simp [sizeOf,typeInfo,program,Sem.run_bind,Sem.run_pure,Sem.run,h5]
    simp only [execOp,Instr.build,Sem.run_bind,R9 h1 h2,Result.andThen_ok,run_underlying h4,h3,hs,List.map_toArray,hfill,Sem.run_pure]
   ·have:=C5.agg (c:=kx E θ nx hp w) l cells'.toList hres.1 hres.2
    simpa using this
theorem IL {T:Nat} {zs:List Value} {pl:List (Nat × Nat)} [tz:G7 P T zs] [tp:O3 P T pl] {parts:List (Nat × Operand)} {ps:List (Nat × AV)} {l:List AV} (he:V5 ev parts = some ps) (hfit:j6 hp ps)
  (hf:W2 pl (zs.map Q1) ps = some l):E2 P E nx hp ev (.build T parts.toArray) ty (.agg l):=(IK he hfit hf).q
end rules
section rules
variable {P:Program} {E:Env} {n nx:Nat} {hp:Hp} {ev:Operand → Option AV} {ops:Array Oper} {rest:List Oper} {σ:St} {K:St → Prop} {Q:Exit → St → Prop}
variable {d:Nat} {ty:TypeId} {pos:String} {after:Array Edge} {x y:Operand}
theorem q9 {op:Op} {av:AV} {b:D9} (hdn:Nat.blt d n = true)
  (hrun:∀ θ a w,Q3 E θ σ.nx σ.hp (D8 σ) a w → ∃ v vv w',(execOp a.eval ⟨some d,op,ty,pos,after,none⟩).run P w = .ok (.value v) w' ∧ Below w.heap.size w w' ∧ (∀ k,fp vv = some k → w.heap.size ≤ k) ∧
   ((cx E θ σ w).le (cx E (K1 θ σ.nx vv) (σ.new b) w') → J4 (cx E (K1 θ σ.nx vv) (σ.new b) w') σ.nx b ∧ C5 (cx E (K1 θ σ.nx vv) (σ.new b) w') av v))
  (k:B6 P E n ops rest ((σ.new b).put d av) K) (hnb:L7 b = false:=by rfl):B6 P E n ops (⟨some d,op,ty,pos,after,none⟩ :: rest) σ K:=by
 intro a w ⟨θ,hs⟩
 unfold wpList
 rw [if_pos (by simp [Region.wanted])]
 left
 obtain ⟨v,vv,w',hr,hb,hf,ho⟩:=hrun θ a w hs.evT
 simp only [Oper.wp,hr,Oper.upon]
 have le:(cx E θ σ w).le (cx E (K1 θ σ.nx vv) (σ.new b) w'):=by
  refine ⟨Nat.le_succ _,fun i hi=>.inl (I3 _ _ (Nat.ne_of_lt hi)),fun i hi e' sz' v' l' hl=>?_,hb.size,fun k hk _=>hb.block k hk,fun k hk hu=>?_⟩
  ·have hi':i < σ.nx:=hi
   refine ⟨e',v',l',?_, .inr ⟨rfl,rfl,I3 _ _ (Nat.ne_of_lt hi)⟩⟩
   simp only [cx,St.new,D5] at hl
   rw [if_neg (by omega)] at hl
   exact hl
  ·rcases hu with hu | ⟨i,b',hi,hk'⟩
   ·exact .inl hu
   ·simp only [cx,St.new,D5] at hi
    by_cases e:σ.nx = i
    ·subst e
     rw [if_pos rfl] at hi
     cases hi
     rcases hk' with hk' | ⟨hk',_⟩
     ·simp only [cx,D0] at hk'
      have hk2:k < w.heap.size:=hk
      have:=hf k hk'
      omega
     ·rw [hnb] at hk';cases hk'
    ·rw [if_neg e] at hi
     refine .inr ⟨i,b',hi,?_⟩
     unfold FP at hk' ⊢
     simpa only [cx,I3 _ _ (Ne.symm e),CL] using hk'
 have h2:=hs.grow hb vv b hf (fun _=>(ho le).1) hnb
 exact k _ _ ⟨_,h2.put (Nat.blt_eq ▸ hdn) (ho le).2⟩
theorem Di (e:TypeId) (cells:Array Value) (w:World):(newRow e cells).run P w = .ok ⟨w.heap.size,0,none⟩ (w.alloc (.cells cells e)):=rfl
theorem GZ {θ:Th} {w:World} {cs:List Value} {T:TypeId} {l:List AV} (hl:l.length = cs.length)
  (le:(cx E θ σ w).le (cx E (K1 θ σ.nx (.pointer (some ⟨w.heap.size,0,none⟩))) (σ.new (.box l)) (w.alloc (.cells cs.toArray T))))
  (hr:∀ (j:Nat) u z,l[j]? = some u → cs[j]? = some z → C5 (cx E θ σ w) u z) :
  J4 (cx E (K1 θ σ.nx (.pointer (some ⟨w.heap.size,0,none⟩))) (σ.new (.box l)) (w.alloc (.cells cs.toArray T))) σ.nx (.box l) ∧
  C5 (cx E (K1 θ σ.nx (.pointer (some ⟨w.heap.size,0,none⟩))) (σ.new (.box l)) (w.alloc (.cells cs.toArray T))) (.ref σ.nx 0) (.pointer (some ⟨w.heap.size,0,none⟩)) :=
 ⟨⟨w.heap.size,cs.toArray,⟨T, .inl rfl⟩,by simp [cx,D0],heap_alloc_new w _,by simp [hl],fun j u z hu hz=>(hr j u z hu (by simpa using hz)).mono le⟩,
  .ref _ _ _ (by simp [cx,St.new]) (by simp [cx,D0])⟩
theorem KR {w:World}:∀ k,fp (.pointer (some ⟨w.heap.size,0,none⟩)) = some k → w.heap.size ≤ k:=by
 intro k hk;simp [fp] at hk;omega
theorem Ln {T:TypeId} {av:AV} (hx:D8 σ x = some av) (hf:Fits σ.hp av) (hd:Nat.blt d n = true)
  (k:B6 P E n ops rest ((σ.new (.box (H3 av))).put d (.ref σ.nx 0)) K):B6 P E n ops (⟨some d, .box T x,ty,pos,after,none⟩ :: rest) σ K :=
 q9 hd (fun θ a w h=>by
  obtain ⟨cs,hc,hl,hr⟩:=Bd h hf (h.rel hx)
  exact ⟨_, .pointer (some ⟨w.heap.size,0,none⟩),w.alloc (.cells cs.toArray T),by simp [execOp,Instr.box,newVar,Sem.run_bind,hc,Di],S6 _ _,KR,fun le=>GZ hl le hr⟩) k
theorem JE {T:TypeId} {l:List Value} [tz:G7 P T l] (hd:Nat.blt d n = true)
  (k:B6 P E n ops rest ((σ.new (.box (l.map Q1))).put d (.ref σ.nx 0)) K):B6 P E n ops (⟨some d, .alloc T,ty,pos,after,none⟩ :: rest) σ K :=
 q9 hd (fun θ a w h=>by
  obtain ⟨i,z,h1,h2,h3⟩:=tz.out
  refine ⟨_, .pointer (some ⟨w.heap.size,0,none⟩),w.alloc (.cells l.toArray T),by simp [execOp,Instr.alloc,newVar,Sem.run_bind,R9 h1 h2,h3,Di],S6 _ _,KR,fun le=>GZ (by simp) le ?_⟩
  intro j u z hu hz
  simp at hu
  obtain ⟨v,hv,rfl⟩:=hu
  rw [hz] at hv
  cases hv
  exact .im (BZ _)) k
theorem Be {op:Op} {i:Nat} {b b':D9} (hi:B2 σ.hp i = some b)
  (hrun:∀ θ a w,Q3 E θ σ.nx σ.hp (D8 σ) a w → ∃ w',(execOp a.eval ⟨none,op,ty,pos,after,none⟩).run P w = .ok .skip w' ∧ w'.os = w.os ∧ w'.tape = w.tape ∧ w'.output = w.output ∧ w'.heap.size = w.heap.size ∧
   (∀ k,fp (θ i) ≠ some k → w'.heap[k]? = w.heap[k]?) ∧ Nb (θ i) (θ i) b b' ∧
   ((cx E θ σ w).le (cx E (K1 θ i (θ i)) (σ.set i b') w') → J4 (cx E (K1 θ i (θ i)) (σ.set i b') w') i b'))
  (k:B6 P E n ops rest (σ.set i b') K) (hlab:∀ e sz v l,b' = .row e sz v l → ∃ sz0 v0 l0,b = .row e sz0 v0 l0:=by intro _ _ _ _ h;cases h <;> exact ⟨_,_,_,rfl⟩):B6 P E n ops (⟨none,op,ty,pos,after,none⟩ :: rest) σ K:=by
 intro a w ⟨θ,hs⟩
 unfold wpList
 rw [if_pos (by simp [Region.wanted])]
 left
 obtain ⟨w',hr,h1,h2,h3,h4,h5,h6,h7⟩:=hrun θ a w hs.evT
 simp only [Oper.wp,hr,Oper.upon]
 have h8:=hs.turn (b':=b') (v':=θ i) hi h1 h2 h3 (by omega) (fun k _=>h5 k) (fun k hk=>.inl hk) h6 h7 (fun e sz v l h hk _=>by
  obtain ⟨sz0,v0,l0,rfl⟩:=hlab e sz v l h
  exact ⟨rfl,e,sz0,v0,l0,rfl,hk⟩) fun h=>by
   cases b' with
   | row e sz v l =>
     obtain ⟨sz0,v0,l0,rfl⟩:=hlab e sz v l rfl
     exact .inl h
   | _=>cases h
 exact k _ _ ⟨_,by simpa [Act.put] using h8⟩
def r8 (hp:Hp):List AV → Prop
 | []=>True
 | x :: r=>One hp x ∧ r8 hp r
theorem r8.mem {hp:Hp}:∀ {l:List AV},r8 hp l → ∀ x ∈ l,One hp x
 | [],_,x,hx=>by cases hx
 | y :: r,h,x,hx=>by
   rcases List.mem_cons.1 hx with rfl | hx
   ·exact h.1
   ·exact r8.mem h.2 x hx
theorem Ga {T sz:Nat} {ag:Bool} [tv:G3 P T ag sz] {g off:Nat} {t:TypeId} {cur:Array Value} {w:World} {v:Value} {cs:List Value} (hc:v.cells = cs.toArray) (hl:cs.length = sz) (hg:w.heap[g]? = some (.cells cur t (0,0)))
  (hfit:off + cs.length ≤ cur.size) (h1:∀ v ∈ cs,v.oneCell' = true) :
  (storeVar T ⟨g,off,none⟩ v).run P w = .ok () (w.setRow g (cur.toList.take off ++ cs ++ cur.toList.drop (off + cs.length)).toArray):=by
 have:=run_storeCells_at P g off t cs 0 cur w hg (by simpa using hfit) h1
 simp only [Nat.add_zero] at this
 simp [storeVar,Sem.run_bind,run_sizeOf (P:=P) (T:=T) (ag:=ag) (sz:=sz),hc,hl,this]
theorem Hk {α:Type} {l:Array α} {i:Nat} {x:α} {f g:α → α} (h:l[i]? = some x) (e:f x = g x):l.modify i f = l.modify i g:=by
 apply Array.ext_getElem?
 intro j
 rw [Array.getElem?_modify,Array.getElem?_modify]
 by_cases hj:i = j
 ·subst hj
  rw [if_pos rfl,if_pos rfl,h]
  simp [e]
 ·rw [if_neg hj,if_neg hj]
theorem G6.set {w:World} {g e off:Nat} {cur:Array Value} {v:Value} (h:G6 w g cur e):G6 (w.setRow g (cur.setIfInBounds off v)) g (cur.setIfInBounds off v) e:=by
 rcases h with ⟨he,h⟩ | ⟨hb,hk,t,fz,h,hf⟩ | ⟨hb,hn,h⟩ | ⟨hn,fz,h⟩
 ·exact .inl ⟨he,setRow_heap w g cur _ e _ h⟩
 ·exact .inr (.inl ⟨hb,hk,t,fz,setRow_heap w g cur _ t _ h,by simpa using hf⟩)
 ·exact .inr (.inr (.inl ⟨hb,hn,setRow_heap w g cur _ _ _ h⟩))
 ·exact .inr (.inr (.inr ⟨hn,fz,setRow_heap w g cur _ _ _ h⟩))
theorem BR {T sz:Nat} {ag:Bool} [tv:G3 P T ag sz] {g off e:Nat} {cur:Array Value} {w:World} {v:Value} (h1:v.oneCell' = true) (hc:v.cells = #[v]) (hl:sz = 1) (hg:G6 w g cur e) (hnf:R6 e = true) (hfit:off < cur.size) :
  (storeVar T ⟨g,off,none⟩ v).run P w = .ok () (w.setRow g (cur.setIfInBounds off v)):=by
 obtain ⟨t,fz,hg,hf⟩:=hg.some
 have hf:=hf hnf
 have hst:=run_storeCells_cells (P:=P) g off [v] 0 w (fun j hj=>by
   have:j = 0:=by simpa using hj
   subst this
   simp [World.cell?,hg,hfit]) (fun j hj=>by
   have:j = 0:=by simpa using hj
   subst this
   simp only [World.frozen?,hg]
   rcases hf with rfl | hf
   ·simp
   ·have:¬ fz.1 ≤ off:=by omega
    simp [this]) (fun u hu=>by rw [List.mem_singleton] at hu;rw [hu];exact h1)
 have hs:w.setCells g (off + 0) [v] = w.setRow g (cur.setIfInBounds off v):=by
  show { w with heap:=_ } = { w with heap:=_ }
  congr 1
  exact Hk hg (by simp)
 rw [hs] at hst
 simp [storeVar,Sem.run_bind,run_sizeOf (P:=P) (T:=T) (ag:=ag) (sz:=sz),hc,hl,hst]
theorem z6 {T:TypeId} {a:Act} {w w':World} {p:Addr} {o:Option Tmp} (hv:a.eval x = .pointer (some p)) (hr:(storeVar T p (a.eval y)).run P w = .ok () w') :
  (execOp a.eval ⟨o, .store T x y,ty,pos,after,none⟩).run P w = .ok .skip w':=by
 simp only [execOp,hv,Instr.storeAt,Instr.sureAddr,Sem.run_bind,Sem.run_pure,Result.andThen_ok,hr]
theorem Eg {T sz:Nat} {ag:Bool} [tv:G3 P T ag sz] {i off τ:Nat} {l:List AV} {av:AV} (hx:D8 σ x = some (.ref i off)) (hy:D8 σ y = some av) (hb:B2 σ.hp i = some (.bx τ l)) (hf:Fits σ.hp av) (ho:r8 σ.hp (H3 av))
  (hsz:(H3 av).length = sz) (hfit:off + sz ≤ l.length) (k:B6 P E n ops rest (σ.set i (.bx τ (X3 l off (H3 av)))) K):B6 P E n ops (⟨none, .store T x y,ty,pos,after,none⟩ :: rest) σ K :=
 Be hb (fun θ a w h=>by
  obtain ⟨b,hθ,hv,_⟩:=O2 (h.rel hx)
  obtain ⟨b',arr,T',hθ',hh,hs,hr⟩:=h.box hb
  have hbb:θ i = .pointer (some ⟨b,0,none⟩):=hθ
  rw [hθ'] at hbb
  cases hbb
  obtain ⟨cs,hc,hl,hrel⟩:=Bd h hf (h.rel hy)
  have h1:∀ v ∈ cs,v.oneCell' = true:=by
   intro v hv
   obtain ⟨j,hj⟩:=List.mem_iff_getElem?.1 hv
   have hlt:j < (H3 av).length:=by rw [hl];exact (List.getElem?_eq_some_iff.1 hj).1
   have hu:(H3 av)[j]? = some (H3 av)[j]:=List.getElem?_eq_getElem hlt
   exact (r8.mem ho _ (List.getElem_mem hlt)).val h (hrel j _ v hu hj)
  have hrun:=Ga (P:=P) (T:=T) (ag:=ag) (sz:=sz) hc (by omega) hh (off:=off) (by omega) h1
  refine ⟨_,z6 hv hrun,rfl,rfl,rfl,by simp,fun k hk=>?_,rfl,fun le=>?_⟩
  ·refine setRow_other w b k _ fun e=>hk ?_
   rw [hθ'];simp [fp,e]
  ·have hpw:PW (kx E θ σ.nx σ.hp w) l arr.toList:=⟨by simp [hs],fun j u z hu hz=>hr j u z hu (by simpa using hz)⟩
   have hpw2:=hpw.splice (off:=off) (m:=H3 av) (vs:=cs) ⟨hl,hrel⟩ (by omega)
   refine ⟨b,_,T',by simp [cx,D0,hθ'],setRow_heap w b arr _ T' _ hh,?_,fun j u z hu hz=>?_⟩
   ·have:=hpw2.1;simp at this ⊢;omega
   ·exact (hpw2.2 j u z hu (by simpa using hz)).mono le) k
theorem Bf {k sz off:Nat} {l:List (List AV)} {el:List AV} {av:AV} {xs:List Value} {v:Value} (hk:l[k]? = some el) (hsz:∀ e ∈ l,e.length = sz) (hlen:xs.length = l.length * sz) (hoff:off < sz)
  {R:AV → Value → Prop} (hr:∀ (k:Nat) el,l[k]? = some el → ∀ (j:Nat) x,el[j]? = some x → ∃ y,xs[k * sz + j]? = some y ∧ R x y) (hv:R av v) :
  ∀ (k':Nat) el',(l.set k (el.set off av))[k']? = some el' → ∀ (j:Nat) x,el'[j]? = some x → ∃ y,(xs.set (k * sz + off) v)[k' * sz + j]? = some y ∧ R x y:=by
 intro k' el' hk' j x hx
 have hkl:k < l.length:=(List.getElem?_eq_some_iff.1 hk).1
 have hbound:k * sz + off < xs.length:=by
  rw [hlen]
  have:(k + 1) * sz ≤ l.length * sz:=Nat.mul_le_mul_right _ hkl
  rw [Nat.add_mul,Nat.one_mul] at this
  omega
 by_cases e:k = k'
 ·subst e
  rw [List.getElem?_set_self hkl] at hk'
  cases hk'
  by_cases ej:off = j
  ·subst ej
   have hel:el.length = sz:=hsz el (List.mem_of_getElem? hk)
   rw [List.getElem?_set_self (by omega)] at hx
   cases hx
   exact ⟨v,by rw [List.getElem?_set_self hbound],hv⟩
  ·rw [List.getElem?_set_ne ej] at hx
   obtain ⟨y,hy,hR⟩:=hr k el hk j x hx
   exact ⟨y,by rw [List.getElem?_set_ne (by omega)];exact hy,hR⟩
 ·rw [List.getElem?_set_ne e] at hk'
  obtain ⟨y,hy,hR⟩:=hr k' el' hk' j x hx
  refine ⟨y,?_,hR⟩
  rw [List.getElem?_set_ne]
  ·exact hy
  ·have hel:el'.length = sz:=hsz el' (List.mem_of_getElem? hk')
   have hj:j < sz:=by rw [← hel];exact (List.getElem?_eq_some_iff.1 hx).1
   intro e2
   have h1:(k * sz + off) / sz = k:=by rw [Nat.mul_comm,Nat.mul_add_div (by omega),Nat.div_eq_of_lt hoff];simp
   have h2:(k' * sz + j) / sz = k':=by rw [Nat.mul_comm,Nat.mul_add_div (by omega),Nat.div_eq_of_lt hj];simp
   rw [e2,h2] at h1
   exact e h1.symm
theorem Gb {w:World} {g e:Nat} {cur:Array Value} (hg:G6 w g cur e) {o:Nat} {v:Value}:∀ q,q ≠ o → (w.setRow g (cur.setIfInBounds o v)).cell? ⟨g,q,none⟩ = w.cell? ⟨g,q,none⟩:=by
 intro q hq
 obtain ⟨t,fz,hg,_⟩:=hg.some
 rw [G5 hg,G5 (setRow_heap w g cur _ t _ hg)]
 simp [Array.getElem?_setIfInBounds_ne (Ne.symm hq)]
theorem IM {k k' j off sz:Nat} (hj:j < sz) (ho:off < sz) (h:k ≠ k'):k' * sz + j ≠ k * sz + off:=by
 intro e2
 have h1:(k * sz + off) / sz = k:=by rw [Nat.mul_comm,Nat.mul_add_div (by omega),Nat.div_eq_of_lt ho];simp
 have h2:(k' * sz + j) / sz = k':=by rw [Nat.mul_comm,Nat.mul_add_div (by omega),Nat.div_eq_of_lt hj];simp
 rw [e2,h1] at h2
 exact h h2
theorem KS {c c':Cx} {i e sz g m cap:Nat} {l l':List (List AV)} (hne:AJ c i e sz l) (le:c.le c') (hθ:c.θ i = .slice (some ⟨g,0,none⟩) m cap) (hθ':c'.θ i = c.θ i) (hN:c'.θ.N = c.θ.N)
  (hh:∀ p,p ≠ g → c'.w.heap[p]? = c.w.heap[p]?)
  (hl:∀ (k:Nat) el,l'[k]? = some el → ∀ (j e' sz':Nat) x,el[j]? = some (.own e' sz' x) → ∃ el0,l[k]? = some el0 ∧ el0[j]? = some (.own e' sz' x) ∧ c'.w.cell? ⟨g,k * sz + j,none⟩ = c.w.cell? ⟨g,k * sz + j,none⟩) (hgc:U2 c.w g → U2 c'.w g):AJ c' i e sz l':=by
 intro hE
 obtain ⟨h1,h2⟩:=hne hE
 refine ⟨fun k p hp=>?_,fun k el hk j e' sz' x hj=>?_⟩
 ·have h3:=h1 k p (by rw [hN] at hp;exact hp)
  by_cases e2:k = g
  ·rw [e2] at h3 ⊢;exact hgc h3
  ·exact h3.mono (hh k e2)
 obtain ⟨el0,g1,g2,g3⟩:=hl k el hk j e' sz' x hj
 rcases h2 k el0 g1 j e' sz' x g2 with ⟨q0,q1,g',n',cap',y,q2,q3,q4⟩ | ⟨g',n',cap',y,ys,q1,q2,q3,q4,q5,q6,q7⟩
 ·have eg:g' = g:=by rw [hθ] at q2;injection q2 with e1 e2;injection e1 with e1;injection e1 with e1;exact e1.symm
  subst eg
  exact .inl ⟨q0,q1,g',n',cap',y,by rw [hθ'];exact q2,by rw [g3];exact q3,q4.mono le⟩
 have eg:g' = g:=by rw [hθ] at q1;injection q1 with e1 e2;injection e1 with e1;injection e1 with e1;exact e1.symm
 subst eg
 refine .inr ⟨g',n',cap',y,ys,by rw [hθ'];exact q1,by rw [g3];exact q2,⟨q3.1,q3.2.imp id fun ⟨p,cp,cur,r1,r2,r3,r4⟩=>⟨p,cp,cur,r1, .lt (X1 q4),r3.mono (hh p (q7 p (by rw [r1];rfl)).1),r4⟩⟩,q4,q5,fun q el' hq j' u hu=>?_,fun b hb=>⟨(q7 b hb).1,by rw [hN];exact (q7 b hb).2⟩⟩
 obtain ⟨z,hz,hi⟩:=q6 q el' hq j' u hu
 exact ⟨z,hz,hi.mono le.heap le.U⟩
theorem IP {l:List (List AV)} {el:List AV} {kk off sz:Nat} {av:AV} (hk:l[kk]? = some el) (hsz:∀ e ∈ l,e.length = sz) (hoff:off < sz) (hcl:H2 av = true) {P:Nat → Prop} (hP:∀ q,q ≠ kk * sz + off → P q) :
  ∀ (k:Nat) el',(l.set kk (el.set off av))[k]? = some el' → ∀ (j e' sz':Nat) x,el'[j]? = some (.own e' sz' x) → ∃ el0,l[k]? = some el0 ∧ el0[j]? = some (.own e' sz' x) ∧ P (k * sz + j):=by
 intro k el' hk' j e' sz' x hj
 have hkl:kk < l.length:=(List.getElem?_eq_some_iff.1 hk).1
 by_cases ek:kk = k
 ·subst ek
  rw [List.getElem?_set_self hkl] at hk'
  cases hk'
  by_cases ej:off = j
  ·subst ej
   have hlt:off < el.length:=by have:=(List.getElem?_eq_some_iff.1 hj).1;simpa using this
   rw [List.getElem?_set_self hlt] at hj
   cases hj
   cases hcl
  ·rw [List.getElem?_set_ne ej] at hj
   exact ⟨el,hk,hj,hP _ (by omega)⟩
 ·rw [List.getElem?_set_ne ek] at hk'
  have hj2:j < sz:=by rw [← hsz el' (List.mem_of_getElem? hk')];exact (List.getElem?_eq_some_iff.1 hj).1
  exact ⟨el',hk',hj,hP _ (IM hj2 hoff ek)⟩
theorem Eh {T szT:Nat} [tv:G3 P T false szT] {i ver kk off e sz:Nat} {l:List (List AV)} {el:List AV} {av:AV} (hx:D8 σ x = some (.elt i ver kk off)) (hy:D8 σ y = some av) (hb:B2 σ.hp i = some (.row e sz ver l)) (hk:l[kk]? = some el) (hoff:off < sz) (h1s:szT = 1)
  (hcl:H2 av = true) (ho:One σ.hp av) (k:B6 P E n ops rest (σ.set i (.row e sz ver (l.set kk (el.set off av)))) K) (hnf:R6 e = true):B6 P E n ops (⟨none, .store T x y,ty,pos,after,none⟩ :: rest) σ K :=
 Be hb (fun θ a w h=>by
  obtain ⟨g,m,cap,hθ,hv,hnx⟩:=X2 (h.rel hx) hb
  obtain ⟨xs,hown,hsz,hr⟩:=h.row hb
  have hθ':θ i = .slice (some ⟨g,0,none⟩) m cap:=hθ
  have hyo:=ho.val h (h.rel hy)
  rcases hown.2 with ⟨hn,_⟩ | ⟨g',cap',cur,hs,hbg,hg,hnc,hcm,hcs,htake⟩
  ·rw [hθ'] at hn;cases hn
  ·rw [hθ'] at hs
   cases hs
   have hkl:kk < l.length:=(List.getElem?_eq_some_iff.1 hk).1
   have hbound:kk * sz + off < l.length * sz:=by
    have:(kk + 1) * sz ≤ l.length * sz:=Nat.mul_le_mul_right _ hkl
    rw [Nat.add_mul,Nat.one_mul] at this
    omega
   have hcap:l.length * sz ≤ cap * sz:=Nat.mul_le_mul_right _ hnc
   have hrun:=BR (P:=P) (T:=T) (ag:=false) (sz:=szT) (v:=a.eval y) hyo (q8 hyo) h1s hg hnf (off:=kk * sz + off) (by omega)
   refine ⟨_,z6 hv hrun,rfl,rfl,rfl,by simp,fun k hk=>?_,⟨⟨_,_,_,hθ'⟩,e,ver,l,rfl, .inr ⟨rfl,by simp,rfl⟩⟩,fun le=>?_⟩
   ·refine setRow_other w g k _ fun e=>hk ?_
    rw [hθ'];simp [fp,e]
   ·have him:Im (cx E θ σ w).U w av (a.eval y):=(Q5 hcl).im (h.rel hy)
    have hall:=Bf (R:=Im (cx E θ σ w).U w) hk hsz hown.1 hoff hr him
    refine ⟨xs.set (kk * sz + off) (a.eval y),?_,?_,fun k' el' hk' j u hu=>?_,KS (h.owns i _ hb).2.nest le hθ' (by simp only [cx,D0];rfl) rfl (fun p hp=>setRow_other w g p _ hp) (IP hk hsz hoff hcl (P:=fun q=>(w.setRow g _).cell? ⟨g,q,none⟩ = w.cell? ⟨g,q,none⟩) (Gb hg)) (fun _=>let ⟨t,fz,h4,_⟩:=hg.some;⟨_,t,fz,setRow_heap w g cur _ t _ h4⟩)⟩
    ·refine ⟨by simp [hown.1], .inr ⟨g,cap,_,by simp [cx,D0,hθ'], .not hnf,hg.set,by simpa using hnc,hcm,by simp [hcs],?_⟩⟩
     rw [Array.toList_setIfInBounds,List.length_set, ← htake,List.take_set]
    ·intro el' hel'
     rcases List.mem_or_eq_of_mem_set hel' with h2 | h2
     ·exact hsz _ h2
     ·rw [h2,List.length_set];exact hsz el (List.mem_of_getElem? hk)
    ·obtain ⟨z,hz,hi⟩:=hall k' el' hk' j u hu
     exact ⟨z,hz,hi.mono le.heap le.U⟩) k
end rules
section rules
variable {P:Program} {E:Env} {n nx:Nat} {hp:Hp} {ev:Operand → Option AV} {ops:Array Oper} {rest:List Oper} {σ:St} {K:St → Prop} {Q:Exit → St → Prop}
variable {d:Nat} {ty:TypeId} {pos:String} {after:Array Edge} {x y:Operand}
theorem Gc {θ:Th} {w w':World} {xs:List Value} {e sz g cap:Nat} {l:List (List AV)} {rest:List Value}
  (hek:e < G2) (hg:w.heap.size ≤ g) (hh:w'.heap[g]? = some (.cells (xs ++ rest).toArray e (0,0))) (hlen:xs.length = l.length * sz) (hcap:l.length ≤ cap) (hm:cap ≤ maxLen) (hs:(xs ++ rest).length = cap * sz)
  (hsz:∀ el ∈ l,el.length = sz)
  (hr:∀ (k:Nat) el,l[k]? = some el → ∀ (j:Nat) x,el[j]? = some x → ∃ y,xs[k * sz + j]? = some y ∧ Im (cx E θ σ w).U w x y)
  (le:(cx E θ σ w).le (cx E (K1 θ σ.nx (.slice (some ⟨g,0,none⟩) l.length cap)) (σ.new (.row e sz 0 l)) w')) :
  J4 (cx E (K1 θ σ.nx (.slice (some ⟨g,0,none⟩) l.length cap)) (σ.new (.row e sz 0 l)) w') σ.nx (.row e sz 0 l) ∧
  C5 (cx E (K1 θ σ.nx (.slice (some ⟨g,0,none⟩) l.length cap)) (σ.new (.row e sz 0 l)) w') (.row σ.nx 0 l.length) (.slice (some ⟨g,0,none⟩) l.length cap):=by
 refine ⟨⟨xs,⟨hlen, .inr ⟨g,cap,(xs ++ rest).toArray,by simp [cx,D0], .lt (GK hek), .inl ⟨hek,hh⟩,hcap,hm,by simpa using hs,?_⟩⟩,hsz,fun k el hk j x hx=>?_, .lt (DE hek)⟩, .row _ _ _ _ (by simp [cx,St.new]) fun e' sz' v' l' hl=>?_⟩
 ·rw [← hlen];simp
 ·obtain ⟨y,hy,hi⟩:=hr k el hk j x hx
  exact ⟨y,hy,hi.mono le.heap le.U⟩
 ·simp only [cx,St.new,D5,if_pos] at hl
  cases hl
  exact ⟨Nat.le_refl _,fun _=>⟨rfl,by simp [cx,D0]⟩⟩
theorem Gd {g m c s:Nat} (h:s ≤ g):∀ k,fp (.slice (some ⟨g,0,none⟩) m c) = some k → s ≤ k:=by
 intro k hk;simp [fp] at hk;omega
theorem KT {T e sz by_:Nat} {z:List Value} [ts:I6 P T e sz] [tz:G7 P e z] [tb:K3 P e by_] {m:Int} (hx:D8 σ x = some (.v (.int .i64 m))) (hy:D8 σ y = some (.v (.int .i64 m))) (h0:0 ≤ m) (hb:by_ * m.toNat ≤ 281474976710656) (hmx:m ≤ 9223372036854775807) (hz:z.length = sz) (hek:e < G2) (hd:Nat.blt d n = true)
  (k:B6 P E n ops rest ((σ.new (.row e sz 0 (List.replicate m.toNat (z.map Q1)))).put d (.row σ.nx 0 m.toNat)) K):B6 P E n ops (⟨some d, .makeSlice T x y,ty,pos,after,none⟩ :: rest) σ K :=
 q9 hd (fun θ a w h=>by
  obtain ⟨hu,i,hi,hsz⟩:=ts.out
  obtain ⟨i2,zv,hi2,hzv,hzc⟩:=tz.out
  obtain ⟨i3,hi3,hby⟩:=tb.out
  rw [hi] at hi2 hi3
  cases hi2;cases hi3
  have hr:=run_make (P:=P) w T e i zv hu hi hzv .i64 .i64 m m h0 (Int.le_refl _) (by
   have h2:((m.toNat:Nat):Int) = m:=Int.toNat_of_nonneg h0
   have h3:(i.bytes:Int) * m = ((by_ * m.toNat:Nat):Int):=by rw [Int.natCast_mul,h2,hby]
   rw [h3]
   generalize by_ * m.toNat = q at hb
   omega) hmx
  have hlen:(List.replicate m.toNat (z.map Q1)).length = m.toNat:=by simp
  refine ⟨.slice (some ⟨w.heap.size,0,none⟩) m.toNat m.toNat, .slice (some ⟨w.heap.size,0,none⟩) m.toNat m.toNat,w.alloc (.cells (madeCells zv.cells (m.toNat * i.size)) e),by simp only [execOp,(h.rel hx).val,(h.rel hy).val,Sem.run_bind,hr,Result.andThen_ok,Sem.run_pure],S6 _ _,Gd (Nat.le_refl _),fun le=>?_⟩
  have hmc:(madeCells zv.cells (m.toNat * i.size)).size = m.toNat * sz:=by rw [size_madeCells,hsz]
  have key:=Gc (E:=E) (σ:=σ) (θ:=θ) (w:=w) (w':=w.alloc (.cells (madeCells zv.cells (m.toNat * i.size)) e)) (xs:=(madeCells zv.cells (m.toNat * i.size)).toList) (rest:=[]) (e:=e) (sz:=sz) (g:=w.heap.size) (cap:=m.toNat) (l:=List.replicate m.toNat (z.map Q1))
   hek (Nat.le_refl _) (by simpa using heap_alloc_new w _) (by rw [hlen,Array.length_toList,hmc]) (by rw [hlen];exact Nat.le_refl _) (by unfold maxLen;omega) (by simp [hmc]) (fun el hel=>by rw [List.eq_of_mem_replicate hel];simp [hz]) (fun k el hk j u hu=>?_) (by rw [hlen];exact le)
  ·rw [hlen] at key;exact key
  ·have hk':=(List.getElem?_eq_some_iff.1 hk)
   obtain ⟨hklt,hkeq⟩:=hk'
   have hel:el = z.map Q1:=by rw [← hkeq];simp
   subst hel
   rw [hlen] at hklt
   simp at hu
   obtain ⟨v,hv,rfl⟩:=hu
   have hj:j < sz:=by rw [← hz];exact (List.getElem?_eq_some_iff.1 hv).1
   have hin:k * sz + j < m.toNat * i.size:=by
    rw [hsz]
    have:(k + 1) * sz ≤ m.toNat * sz:=Nat.mul_le_mul_right _ hklt
    rw [Nat.add_mul,Nat.one_mul] at this
    omega
   refine ⟨v,?_,BZ _⟩
   have hmod:(k * sz + j) % sz = j:=by rw [Nat.mul_comm,Nat.mul_add_mod,Nat.mod_eq_of_lt hj]
   simp only [madeCells,hzc,Array.getElem?_toList,Array.getElem?_map,Array.getElem?_range,hin]
   simp only [if_true,Option.map_some,Option.some.injEq,List.size_toArray,hz,hmod]
   rw [List.getElem!_toArray,List.getElem!_eq_getElem?_getD,hv]
   rfl) k (I8 (DE hek))
theorem Dj {T tt e bytes:Nat} {i:TypeInfo} {z:Value} {size:Nat} (ht:P.underlying T = some (.slice e)) (hi:P.info? e = some i) (hz:i.zero = some z)
  (hsize:i.size = size) (hby:i.bytes = bytes) (hzs:z.cells.size = size) (hsz:0 < size) (w:World)
  (v:Value) (m:Nat) (xs:List Value) (hown:w.ownsRow 0 e size v m xs)
  (a:Addr) (k c:Nat) (news:List Value) (hl:news.length = k * size) (hnews:∀ (j:Nat) u,news[j]? = some u → w.cell? (a.add j) = some u) (h1:∀ u ∈ news,u.oneCell' = true)
  (h63:m + k ≤ maxLen) (hbytes:(m + k) * bytes ≤ 140737488355328) :
  ∃ v' w',(Builtin.append_ #[T,T] tt #[v, .slice (some a) k c]).run P w = .ok v' w' ∧ w'.ownsRow 0 e size v' (m + k) (xs ++ news) ∧ w.grownBy w' v.ownBlock ∧ (∀ b,fp v' = some b → fp v = some b ∨ w.heap.size ≤ b) ∧ (k = 0 → v' = v):=by
 rcases hown.2 with ⟨rfl,rfl⟩ | ⟨g,cap,cur,rfl,hbg,hg,hnc,hcm,hcs,htake⟩
 ·have hx:xs = []:=List.eq_nil_of_length_eq_zero (by simpa using hown.1)
  subst hx
  obtain ⟨v',w',hr,ho,hgr,hiff⟩:=run_append_own (P:=P) w w.heap.size T tt e i z size bytes ht hi hz hsize hby hzs hsz (.slice none 0 0) 0 [] (World.ownsRow_nil w _ e size) a k c news hl hnews h1 h63 hbytes (Nat.le_refl _)
  refine ⟨v',w',hr,⟨ho.1,?_⟩,hgr,fun b hb=>?_,fun hk=>hiff.2 ⟨rfl,hk⟩⟩
  ·rcases ho.2 with hn | ⟨g,cap,cur,h1,h2,h3⟩
   ·exact .inl hn
   ·exact .inr ⟨g,cap,cur,h1,Nat.zero_le _,h3⟩
  ·rcases ho.2 with ⟨hn,_⟩ | ⟨g,cap,cur,hv',h2,_⟩
   ·rw [hn] at hb;cases hb
   ·rw [hv'] at hb;simp [fp] at hb;right;omega
 ·obtain ⟨v',w',hr,ho,hgr,hiff⟩:=run_append_own (P:=P) w 0 T tt e i z size bytes ht hi hz hsize hby hzs hsz (.slice (some ⟨g,0,none⟩) m cap) m xs hown a k c news hl hnews h1 h63 hbytes (Nat.zero_le _)
  by_cases hroom:m + k ≤ cap
  ·have hfit:m * i.size + news.length ≤ cur.size:=by rw [hl,hcs,hsize, ← Nat.add_mul];exact Nat.mul_le_mul_right _ hroom
   have hr2:=run_append_room (P:=P) w T tt e i ht hi g m cap cur hg a k c news (by rw [hsize];exact hl) hnews h1 hroom hfit
   rw [hr2] at hr
   cases hr
   exact ⟨_,_,hr2,ho,hgr,fun b hb=>.inl hb,fun hk=>by subst hk;rfl⟩
  ·have holds:∀ (j:Nat) u,xs[j]? = some u → w.cell? ((⟨g,0,none⟩:Addr).add j) = some u:=hown.cells (g:=g) rfl
   have hr2:=run_append_grow (P:=P) w T tt e i z ht hi hz ⟨g,0,none⟩ m cap xs (by rw [hsize];exact hown.1) holds a k c news (by rw [hsize];exact hl) hnews (by omega) (by unfold maxLen at h63;omega) (growslice_fits (by omega) (by rw [hby];exact hbytes))
   rw [hr2] at hr
   cases hr
   exact ⟨_,_,hr2,ho,hgr,fun b hb=>by simp [fp] at hb;right;omega,fun hk=>by omega⟩
theorem Lo {c:Cx} {sz:Nat} {l:List (List AV)} {a:Addr} {f:Nat → Nat → Value} (hone:∀ e ∈ l,∀ x ∈ e,H2 x = true ∧ ∀ y,Im c.U c.w x y → y.oneCell' = true)
  (hsz:∀ e ∈ l,e.length = sz) (hc:∀ i,i < l.length → ∀ j,j < sz → c.w.cell? (a.add (i * sz + j)) = some (f i j)) (h:∀ (i:Nat) (e:List AV),l[i]? = some e → ∀ (j:Nat) (x:AV),e[j]? = some x → Im c.U c.w x (f i j)) (hpos:0 < sz) :
  ∃ news:List Value,news.length = l.length * sz ∧ (∀ (j:Nat) u,news[j]? = some u → c.w.cell? (a.add j) = some u) ∧ (∀ u ∈ news,u.oneCell' = true) ∧
   ∀ (k:Nat) el,l[k]? = some el → ∀ (j:Nat) x,el[j]? = some x → ∃ y,news[k * sz + j]? = some y ∧ Im c.U c.w x y:=by
 refine ⟨(List.range (l.length * sz)).map fun t=>f (t / sz) (t % sz),by simp,fun j u hj=>?_,fun u hu=>?_,fun k el hk j x hx=>?_⟩
 ·simp only [List.getElem?_map,Option.map_eq_some_iff] at hj
  obtain ⟨t,ht,rfl⟩:=hj
  have hlt:j < l.length * sz:=by
   rcases Nat.lt_or_ge j (l.length * sz) with h1 | h1
   ·exact h1
   ·rw [List.getElem?_eq_none (by simpa using h1)] at ht;cases ht
  rw [List.getElem?_range hlt] at ht
  cases ht
  have hd:j / sz < l.length:=(Nat.div_lt_iff_lt_mul hpos).2 hlt
  have:=hc (j / sz) hd (j % sz) (Nat.mod_lt _ hpos)
  rwa [Nat.mul_comm,Nat.div_add_mod] at this
 ·obtain ⟨t,ht,rfl⟩:=List.mem_map.1 hu
  have hlt:=List.mem_range.1 ht
  have hd:t / sz < l.length:=(Nat.div_lt_iff_lt_mul hpos).2 hlt
  have hel:l[t / sz]? = some l[t / sz]:=List.getElem?_eq_getElem hd
  have hle:=hsz _ (List.getElem_mem hd)
  have hm:t % sz < (l[t / sz]).length:=by rw [hle];exact Nat.mod_lt _ hpos
  have hx:(l[t / sz])[t % sz]? = some (l[t / sz])[t % sz]:=List.getElem?_eq_getElem hm
  exact (hone _ (List.getElem_mem hd) _ (List.getElem_mem hm)).2 _ (h _ _ hel _ _ hx)
 ·have hkl:k < l.length:=(List.getElem?_eq_some_iff.1 hk).1
  have hj:j < sz:=by rw [← hsz el (List.mem_of_getElem? hk)];exact (List.getElem?_eq_some_iff.1 hx).1
  have hin:k * sz + j < l.length * sz:=by
   have:(k + 1) * sz ≤ l.length * sz:=Nat.mul_le_mul_right _ hkl
   rw [Nat.add_mul,Nat.one_mul] at this
   omega
  refine ⟨f k j,?_,h k el hk j x hx⟩
  have h1:(k * sz + j) / sz = k:=by rw [Nat.mul_comm,Nat.mul_add_div hpos,Nat.div_eq_of_lt hj];simp
  have h2:(k * sz + j) % sz = j:=by rw [Nat.mul_comm,Nat.mul_add_mod,Nat.mod_eq_of_lt hj]
  rw [List.getElem?_map,List.getElem?_range hin]
  simp [h1,h2]
def J8:AV → Prop
 | .v x=>x.oneCell' = true
 | .str _ | .sl _ _ | .iptr _ | .fn _ _=>True
 | _=>False
theorem J8.spec {U:Nat → Prop} {w:World} {x:AV} (h:J8 x):H2 x = true ∧ ∀ y,Im U w x y → y.oneCell' = true:=by
 cases x with
 | v v=>exact ⟨rfl,fun y hy=>by cases hy;exact h⟩
 | str l=>exact ⟨rfl,fun y hy=>by cases hy;rfl⟩
 | sl s l=>exact ⟨rfl,fun y hy=>by cases hy <;> rfl⟩
 | iptr l=>exact ⟨rfl,fun y hy=>by cases hy;rfl⟩
 | fn f l=>exact ⟨rfl,fun y hy=>by cases hy;rfl⟩
 | _=>exact h.elim
theorem Bg {sz:Nat} {l m:List (List AV)} {xs ys:List Value} {R:AV → Value → Prop} (hx:xs.length = l.length * sz)
  (h1:∀ (k:Nat) el,l[k]? = some el → ∀ (j:Nat) x,el[j]? = some x → ∃ y,xs[k * sz + j]? = some y ∧ R x y)
  (h2:∀ (k:Nat) el,m[k]? = some el → ∀ (j:Nat) x,el[j]? = some x → ∃ y,ys[k * sz + j]? = some y ∧ R x y) :
  ∀ (k:Nat) el,(l ++ m)[k]? = some el → ∀ (j:Nat) x,el[j]? = some x → ∃ y,(xs ++ ys)[k * sz + j]? = some y ∧ R x y:=by
 intro k el hk j x hxj
 by_cases hkl:k < l.length
 ·rw [List.getElem?_append_left hkl] at hk
  obtain ⟨y,hy,hR⟩:=h1 k el hk j x hxj
  exact ⟨y,by rw [List.getElem?_append_left (List.getElem?_eq_some_iff.1 hy).1];exact hy,hR⟩
 ·rw [List.getElem?_append_right (by omega)] at hk
  obtain ⟨y,hy,hR⟩:=h2 _ el hk j x hxj
  have e:k * sz = l.length * sz + (k - l.length) * sz:=by rw [← Nat.add_mul];congr 1;omega
  refine ⟨y,?_,hR⟩
  rw [List.getElem?_append_right (by rw [hx];omega),hx, ← hy]
  congr 1
  omega
def Lp (c:Cx) (sz:Nat) (m:List (List AV)) (v:Value):Prop:=(v = .slice none 0 0 ∧ m = []) ∨
 ∃ (p:Addr) (cap:Nat) (news:List Value),v = .slice (some p) m.length cap ∧ (∀ el ∈ m,el.length = sz) ∧ news.length = m.length * sz ∧ (∀ (j:Nat) u,news[j]? = some u → c.w.cell? (p.add j) = some u) ∧ (∀ u ∈ news,u.oneCell' = true) ∧
  ∀ (k:Nat) el,m[k]? = some el → ∀ (j:Nat) x,el[j]? = some x → ∃ y,news[k * sz + j]? = some y ∧ Im c.U c.w x y
theorem Ei {c:Cx} {sz:Nat} {m:List (List AV)} {v:Value} (h:C5 c (.sl sz m) v) (hm:∀ el ∈ m,∀ u ∈ el,J8 u) (hpos:0 < sz):Lp c sz m v:=by
 rcases p9 h with ⟨hn,rfl⟩ | ⟨p,cap,f,hsl,hc1,hc2,hc3,hc4,hc5,hc6⟩
 ·exact .inl ⟨hn,rfl⟩
 ·obtain ⟨news,h1,h2,h3,h4⟩:=Lo (c:=c) (a:=p) (f:=f) (fun el hel u hu=>(hm el hel u hu).spec) hc4 hc5 hc6 hpos
  exact .inr ⟨p,cap,news,hsl,hc4,h1,h2,h3,h4⟩
theorem Lq {θ:Th} {a:Act} {w:World} (h:Q3 E θ nx hp ev a w) {i e sz ver:Nat} {m:List (List AV)} (hb:B2 hp i = some (.row e sz ver m)) (hm:∀ el ∈ m,∀ u ∈ el,J8 u) (hpos:0 < sz):Lp (kx E θ nx hp w) sz m (θ i):=by
 obtain ⟨xs,hown,hsz,hr⟩:=h.row hb
 rcases hown.2 with ⟨hv,hn0⟩ | ⟨g,cap,cur,hv,_,hg,hc,hmx,hlen,hx⟩
 ·exact .inl ⟨hv,List.eq_nil_of_length_eq_zero hn0⟩
 ·have hown':=hown
  rw [hv] at hown'
  refine .inr ⟨⟨g,0,none⟩,cap,xs,hv,hsz,hown.1,fun j u hj=>hown'.cells (g:=g) rfl j u hj,fun u hu=>?_,hr⟩
  obtain ⟨t,ht,rfl⟩:=List.getElem_of_mem hu
  have hlt:t < m.length * sz:=by rw [← hown.1];exact ht
  have hd:t / sz < m.length:=(Nat.div_lt_iff_lt_mul hpos).2 hlt
  have hel:m[t / sz]? = some m[t / sz]:=List.getElem?_eq_getElem hd
  have hle:=hsz _ (List.getElem_mem hd)
  have hmm:t % sz < (m[t / sz]).length:=by rw [hle];exact Nat.mod_lt _ hpos
  have hxx:(m[t / sz])[t % sz]? = some (m[t / sz])[t % sz]:=List.getElem?_eq_getElem hmm
  obtain ⟨y,hy,him⟩:=hr _ _ hel _ _ hxx
  rw [Nat.mul_comm,Nat.div_add_mod,List.getElem?_eq_getElem ht] at hy
  cases hy
  exact (hm _ (List.getElem_mem hd) _ (List.getElem_mem hmm)).spec.2 _ him
theorem z7 {e sz:Nat} {op:Op} {i ver:Nat} {l m:List (List AV)} {θ:Th} {a:Act} {w:World} (hs:H0 E n θ σ a w) (hnx:i < σ.nx) (hb:B2 σ.hp i = some (.row e sz ver l)) (hbe:e < C4) (hd:Nat.blt d n = true)
  {xs news:List Value} {v':Value} {w':World} (hown:w.ownsRow 0 e sz (θ i) l.length xs) (hszl:∀ el ∈ l,el.length = sz) (hszm:∀ el ∈ m,el.length = sz)
  (hr:∀ (k:Nat) el,l[k]? = some el → ∀ (j:Nat) x,el[j]? = some x → ∃ y,xs[k * sz + j]? = some y ∧ Im (kx E θ σ.nx σ.hp w).U w x y)
  (hnr:∀ (k:Nat) el,m[k]? = some el → ∀ (j:Nat) x,el[j]? = some x → ∃ y,news[k * sz + j]? = some y ∧ Im (kx E θ σ.nx σ.hp w).U w x y)
  (hex:(execOp a.eval ⟨some d,op,ty,pos,after,none⟩).run P w = .ok (.value v') w') (hown':w'.ownsRow 0 e sz v' (l.length + m.length) (xs ++ news)) (hgr:w.grownBy w' (θ i).ownBlock) (hfp:∀ b,fp v' = some b → fp (θ i) = some b ∨ w.heap.size ≤ b)
  (k:B6 P E n ops rest ((σ.set i (.row e sz (ver + 1) (l ++ m))).put d (.row i (ver + 1) (l.length + m.length))) K) :
  wpList P ops (fun e a' w'=>e = .normal ∧ ∃ σ',K σ' ∧ T4 E n σ' a' w') (⟨some d,op,ty,pos,after,none⟩ :: rest) a w:=by
 have hek:e < G2:=by unfold C4 at hbe;unfold G2;omega
 unfold wpList
 rw [if_pos (by simp [Region.wanted])]
 left
 simp only [Oper.wp,hex,Oper.upon]
 have hfpown:∀ k,(θ i).ownBlock = some k → fp (θ i) = some k:=by
  intro k hk
  obtain ⟨q,c,hsh,_⟩:=K9 (.of hown hek)
  rw [hsh] at hk ⊢
  cases q with
  | none=>simp [Value.ownBlock] at hk
  | some q=>simpa [Value.ownBlock,fp] using hk
 have ht:=hs.turn (hkp:=fun _ _ _ _ h hk _=>by cases h;rw [DD hbe] at hk;cases hk) (hne:=fun h=>by rw [I8 (K8 hbe)] at h;cases h) (b':=.row e sz (ver + 1) (l ++ m)) (v':=v') (w':=w') hb hgr.os hgr.tape hgr.output hgr.size (fun k hk hne=>hgr.block k hk fun e=>hne (hfpown k e.symm)) hfp
  ⟨(by obtain ⟨q,c,hsh,_⟩:=K9 (.of hown hek);exact ⟨q,_,c,hsh⟩),e,ver,l,rfl, .inl (Nat.lt_succ_self _)⟩ (fun le=>by
   refine ⟨xs ++ news,by simp only [cx,D0];rw [List.length_append];exact .of hown' hek,fun el hel=>?_,fun k el hk j u hu=>?_, .lt (K8 hbe)⟩
   ·rcases List.mem_append.1 hel with h1 | h1
    ·exact hszl el h1
    ·exact hszm el h1
   ·obtain ⟨y',hy',him⟩:=Bg (R:=Im (kx E θ σ.nx σ.hp w).U w) hown.1 hr hnr k el hk j u hu
    exact ⟨y',hy',him.mono le.heap le.U⟩)
 refine k _ _ ⟨_,ht.put (Nat.blt_eq ▸ hd) ?_⟩
 refine .row _ _ _ _ hnx fun e' sz' v2 l2 hl2=>?_
 simp only [cx,St.set,D5,if_pos] at hl2
 cases hl2
 exact ⟨Nat.le_refl _,fun _=>⟨by simp,by simp [cx,D0]⟩⟩
theorem z8 {T e sz by_:Nat} {z:List Value} [ts:I6 P T e sz] [tz:G7 P e z] [tb:K3 P e by_] {i ver len:Nat} {l m:List (List AV)} {θ:Th} {a:Act} {w:World} (hs:H0 E n θ σ a w) (hl:l.length = len) (hv:a.eval x = θ i) (hnx:i < σ.nx) (hb:B2 σ.hp i = some (.row e sz ver l)) (hyv:Lp (kx E θ σ.nx σ.hp w) sz m (a.eval y))
  (hz:z.length = sz) (hpos:0 < sz) (hbe:e < C4) (hlen:(len + m.length) * by_ ≤ 140737488355328) (h63:len + m.length ≤ 9223372036854775807) (hd:Nat.blt d n = true)
  (k:B6 P E n ops rest ((σ.set i (.row e sz (ver + 1) (l ++ m))).put d (.row i (ver + 1) (len + m.length))) K) :
  wpList P ops (fun e a' w'=>e = .normal ∧ ∃ σ',K σ' ∧ T4 E n σ' a' w') (⟨some d, .call ⟨.builtin .append, #[x,y], #[T,T]⟩,ty,pos,after,none⟩ :: rest) a w:=by
 have h:=hs.evT
 obtain ⟨hu,inf,hi,hsz⟩:=ts.out
 obtain ⟨i2,zv,hi2,hzv,hzc⟩:=tz.out
 obtain ⟨i3,hi3,hby⟩:=tb.out
 rw [hi] at hi2 hi3
 cases hi2;cases hi3
 obtain ⟨xs,hown0,hszl,hr⟩:=h.row hb
 have hown:=hown0.row hbe
 have hek:e < G2:=by unfold C4 at hbe;unfold G2;omega
 have hv':a.eval x = θ i:=hv
 subst hl
 have hzs:zv.cells.size = sz:=by rw [hzc];simpa using hz
 obtain ⟨news,hnl,hnr,v',w',hrun,hown',hgr,hfp,hk0⟩:∃ news:List Value,news.length = m.length * sz ∧ (∀ (k:Nat) el,m[k]? = some el → ∀ (j:Nat) x,el[j]? = some x → ∃ y,news[k * sz + j]? = some y ∧ Im (kx E θ σ.nx σ.hp w).U w x y) ∧
   ∃ v' w',(Builtin.append_ #[T,T] ty #[θ i,a.eval y]).run P w = .ok v' w' ∧ w'.ownsRow 0 e sz v' (l.length + m.length) (xs ++ news) ∧ w.grownBy w' (θ i).ownBlock ∧ (∀ b,fp v' = some b → fp (θ i) = some b ∨ w.heap.size ≤ b) ∧ (m.length = 0 → v' = θ i):=by
  rcases hyv with ⟨hn,rfl⟩ | ⟨p,cap,news,hsl,hc4,h1,h2,h3,h4⟩
  ·refine ⟨[],by simp,fun k el hk=>by simp at hk,θ i,w,?_,by simpa using hown,⟨rfl,rfl,rfl,Nat.le_refl _,fun _ _ _=>rfl⟩,fun b hb=>.inl hb,fun _=>rfl⟩
   rw [hn]
   obtain ⟨q,c,hsh,hqc,_⟩:=K9 (.of hown hek)
   rw [hsh]
   cases q <;> simp [Builtin.append_,run_underlying hu,sizeOf,typeInfo,program,Sem.run,hi,Builtin.lenOf,Builtin.firstCells,storeCells,hqc,Sem.run_bind,Sem.run_pure]
  ·obtain ⟨v',w',hrun⟩:=Dj (P:=P) (tt:=ty) hu hi hzv hsz hby hzs hpos w (θ i) l.length xs hown p m.length cap news h1 h2 h3 (by unfold maxLen;omega) (by omega)
   exact ⟨news,h1,h4,v',w',by rw [hsl];exact hrun⟩
 refine z7 hs hnx hb hbe hd hown hszl (fun el h1=>?_) hr hnr ?_ hown' hgr hfp k
 ·rcases hyv with ⟨_,rfl⟩ | ⟨_,_,_,_,hc4,_⟩
  ·cases h1
  ·exact hc4 el h1
 ·rw [Q4,hv']
  simp [builtin,hrun,Sem.run_bind,Sem.run_pure]
theorem r9 {T u tt e:Nat} {i:TypeInfo} (ht:P.underlying T = some (.slice e)) (hu:P.underlying u = some .string) (hi:P.info? e = some i) (hz:i.zero = some (.int .u8 0)) (hsize:i.size = 1) (hby:i.bytes = 1) (w:World)
  (v:Value) (m:Nat) (xs:List Value) (hown:w.ownsRow 0 e 1 v m xs) (s:ByteArray) (hbytes:m + s.size ≤ 140737488355328) :
  ∃ v' w',(Builtin.append_ #[T,u] tt #[v, .string s]).run P w = .ok v' w' ∧ w'.ownsRow 0 e 1 v' (m + s.size) (xs ++ Lib.strCells s) ∧ w.grownBy w' v.ownBlock ∧ (∀ b,fp v' = some b → fp v = some b ∨ w.heap.size ≤ b):=by
 have h63:m + s.size ≤ maxLen:=by unfold maxLen;omega
 rcases hown.2 with ⟨rfl,rfl⟩ | ⟨g,cap,cur,rfl,hbg,hg,hnc,hcm,hcs,htake⟩
 ·have hx:xs = []:=List.eq_nil_of_length_eq_zero (by simpa using hown.1)
  subst hx
  obtain ⟨v',w',hr,ho,hgr,_⟩:=Lib.run_append_own_string (P:=P) w w.heap.size T u tt e i ht hu hi hz hsize hby (.slice none 0 0) 0 [] (World.ownsRow_nil w _ e 1) s h63 hbytes (Nat.le_refl _)
  refine ⟨v',w',hr,⟨ho.1,?_⟩,hgr,fun b hb=>?_⟩
  ·rcases ho.2 with hn | ⟨g,cap,cur,h1,h2,h3⟩
   ·exact .inl hn
   ·exact .inr ⟨g,cap,cur,h1,Nat.zero_le _,h3⟩
  ·rcases ho.2 with ⟨hn,_⟩ | ⟨g,cap,cur,hv',h2,_⟩
   ·rw [hn] at hb;cases hb
   ·rw [hv'] at hb;simp [fp] at hb;right;omega
 ·obtain ⟨v',w',hr,ho,hgr,hiff⟩:=Lib.run_append_own_string (P:=P) w 0 T u tt e i ht hu hi hz hsize hby (.slice (some ⟨g,0,none⟩) m cap) m xs hown s h63 hbytes (Nat.zero_le _)
  by_cases hroom:m + s.size ≤ cap
  ·have hr2:=Lib.run_append_room_string (P:=P) w T u tt e i ht hu hi hsize g m cap cur hg s hroom (by rw [hcs];omega)
   rw [hr2] at hr
   cases hr
   exact ⟨_,_,hr2,ho,hgr,fun b hb=>.inl hb⟩
  ·have holds:∀ (j:Nat) u,xs[j]? = some u → w.cell? ((⟨g,0,none⟩:Addr).add j) = some u:=hown.cells (g:=g) rfl
   have hr2:=Lib.run_append_grow_string (P:=P) w T u tt e i _ ht hu hi hz ⟨g,0,none⟩ m cap xs (by rw [hsize];exact hown.1) holds s (by omega) (by unfold maxLen at h63;omega) (growslice_fits (by omega) (by rw [hby];omega))
   rw [hr2] at hr
   cases hr
   exact ⟨_,_,hr2,ho,hgr,fun b hb=>by simp [fp] at hb;right;omega⟩
def BS (s:List UInt8):List (List AV):=s.map fun b=>[.v (.int .u8 b.toNat)]
theorem IQ {U:Nat → Prop} {w:World} {s:List UInt8}:∀ (k:Nat) el,(BS s)[k]? = some el → ∀ (j:Nat) x,el[j]? = some x → ∃ y,(Lib.strCells ⟨s.toArray⟩)[k * 1 + j]? = some y ∧ Im U w x y:=by
 intro k el hk j x hx
 simp only [BS,List.getElem?_map,Option.map_eq_some_iff] at hk
 obtain ⟨b,hb,rfl⟩:=hk
 match j,hx with
 | 0,hx =>
   cases hx
   exact ⟨_,by simp [Lib.strCells,hb], .v _⟩
theorem Dk {T T2 e:Nat} [ts:I6 P T e 1] [tz:KE P e] [tb:K3 P e 1] [tu:O0 P T2] {i ver len:Nat} {l:List (List AV)} {s:List UInt8} (hx:D8 σ x = some (.row i ver len)) (hb:B2 σ.hp i = some (.row e 1 ver l)) (hy:D8 σ y = some (.str s))
  (hbe:e < C4) (hlen:len + s.length ≤ 140737488355328) (hd:Nat.blt d n = true)
  (k:B6 P E n ops rest ((σ.set i (.row e 1 (ver + 1) (l ++ BS s))).put d (.row i (ver + 1) (len + s.length))) K) :
  B6 P E n ops (⟨some d, .call ⟨.builtin .append, #[x,y], #[T,T2]⟩,ty,pos,after,none⟩ :: rest) σ K:=by
 intro a w ⟨θ,hs⟩
 obtain ⟨hl,hv,hnx⟩:=N4 (hs.evT.rel hx) hb
 have h:=hs.evT
 obtain ⟨hu,inf,hi,hsz⟩:=ts.out
 obtain ⟨i2,hi2,hzv⟩:=tz.out
 obtain ⟨i3,hi3,hby⟩:=tb.out
 rw [hi] at hi2 hi3
 cases hi2;cases hi3
 obtain ⟨xs,hown0,hszl,hr⟩:=h.row hb
 have hown:=hown0.row hbe
 have hv':a.eval x = θ i:=hv
 have hyv:=(h.rel hy).sval
 subst hl
 have hs8:(ByteArray.mk s.toArray).size = s.length:=by simp [ByteArray.size]
 obtain ⟨v',w',hrun,hown',hgr,hfp⟩:=r9 (P:=P) (tt:=ty) hu tu.out hi hzv hsz hby w (θ i) l.length xs hown ⟨s.toArray⟩ (by rw [hs8];exact hlen)
 rw [hs8] at hown'
 have hbl:(BS s).length = s.length:=by simp [BS]
 refine z7 (m:=BS s) hs hnx hb hbe hd hown hszl (fun el h1=>?_) hr IQ ?_ (by rw [hbl];exact hown') hgr hfp (by rw [hbl];exact k)
 ·obtain ⟨b,_,rfl⟩:=List.mem_map.1 h1
  rfl
 ·rw [Q4,hv',hyv]
  simp [builtin,hrun,Sem.run_bind,Sem.run_pure]
theorem Bh {T T2 e:Nat} [ts:I6 P T e 1] [tz:KE P e] [tb:K3 P e 1] [tu:O0 P T2] {s:List UInt8} (hx:D8 σ x = some (.v (.slice none 0 0))) (hy:D8 σ y = some (.str s))
  (hbe:e < C4) (hlen:0 + s.length ≤ 140737488355328) (hd:Nat.blt d n = true)
  (k:B6 P E n ops rest (((σ.new (.row e 1 0 [])).set σ.nx (.row e 1 1 ([] ++ BS s))).put d (.row σ.nx 1 (0 + s.length))) K) :
  B6 P E n ops (⟨some d, .call ⟨.builtin .append, #[x,y], #[T,T2]⟩,ty,pos,after,none⟩ :: rest) σ K:=by
 intro a w ⟨θ,hs⟩
 have hv:=(hs.ev hx).val
 have h2:=hs.grow (w':=w) (Below.refl _ _) (.slice none 0 0) (.row e 1 0 []) (fun k hk=>by cases hk) (fun le=>⟨[],⟨by simp, .inl ⟨by simp [cx,D0],rfl⟩⟩,(fun el hel=>by cases hel),(fun k el hk=>by simp at hk), .lt (K8 hbe)⟩) (I8 (K8 hbe))
 have hyv:=(hs.ev hy).sval
 obtain ⟨hu,inf,hi,hsz⟩:=ts.out
 obtain ⟨i2,hi2,hzv⟩:=tz.out
 obtain ⟨i3,hi3,hby⟩:=tb.out
 rw [hi] at hi2 hi3
 cases hi2;cases hi3
 have hs8:(ByteArray.mk s.toArray).size = s.length:=by simp [ByteArray.size]
 obtain ⟨v',w',hrun,hown',hgr,hfp⟩:=r9 (P:=P) (tt:=ty) hu tu.out hi hzv hsz hby w (.slice none 0 0) 0 [] (World.ownsRow_nil w 0 e 1) ⟨s.toArray⟩ (by rw [hs8];exact hlen)
 rw [hs8] at hown'
 have hbl:(BS s).length = s.length:=by simp [BS]
 have hθ:K1 θ σ.nx (.slice none 0 0) σ.nx = .slice none 0 0:=D0 ..
 refine z7 (σ:=σ.new (.row e 1 0 [])) (l:=[]) (xs:=[]) (m:=BS s) h2 (Nat.lt_succ_self _) (show B2 ((σ.nx,some (.row e 1 0 [])) :: σ.hp) σ.nx = some (.row e 1 0 []) by rw [D5,if_pos rfl]) hbe hd (by rw [hθ];exact World.ownsRow_nil w 0 e 1) (fun el h1=>by cases h1) (fun el h1=>?_) (fun k el hk=>by simp at hk) IQ ?_ (by rw [hbl];exact hown') (by rw [hθ];exact hgr) (by rw [hθ];exact hfp) (by rw [hbl];exact k)
 ·obtain ⟨b,_,rfl⟩:=List.mem_map.1 h1
  rfl
 ·rw [Q4,hv,hyv]
  simp [builtin,hrun,Sem.run_bind,Sem.run_pure]
theorem Dl {T e sz by_:Nat} {z:List Value} [ts:I6 P T e sz] [tz:G7 P e z] [tb:K3 P e by_] {i ver len:Nat} {l m:List (List AV)} (hx:D8 σ x = some (.row i ver len)) (hb:B2 σ.hp i = some (.row e sz ver l)) (hy:D8 σ y = some (.sl sz m))
  (hm:∀ el ∈ m,∀ u ∈ el,J8 u) (hz:z.length = sz) (hpos:0 < sz) (hbe:e < C4) (hlen:(len + m.length) * by_ ≤ 140737488355328) (h63:len + m.length ≤ 9223372036854775807) (hd:Nat.blt d n = true)
  (k:B6 P E n ops rest ((σ.set i (.row e sz (ver + 1) (l ++ m))).put d (.row i (ver + 1) (len + m.length))) K) :
  B6 P E n ops (⟨some d, .call ⟨.builtin .append, #[x,y], #[T,T]⟩,ty,pos,after,none⟩ :: rest) σ K:=by
 intro a w ⟨θ,hs⟩
 obtain ⟨hl,hv,hnx⟩:=N4 (hs.evT.rel hx) hb
 exact z8 hs hl hv hnx hb (Ei (hs.evT.rel hy) hm hpos) hz hpos hbe hlen h63 hd k
theorem DI {T e sz by_:Nat} {z:List Value} [ts:I6 P T e sz] [tz:G7 P e z] [tb:K3 P e by_] {i ver len j ver2 len2 e2:Nat} {l m:List (List AV)} (hx:D8 σ x = some (.row i ver len)) (hb:B2 σ.hp i = some (.row e sz ver l)) (hy:D8 σ y = some (.row j ver2 len2)) (hb2:B2 σ.hp j = some (.row e2 sz ver2 m))
  (hm:∀ el ∈ m,∀ u ∈ el,J8 u) (hz:z.length = sz) (hpos:0 < sz) (hbe:e < C4) (hlen:(len + m.length) * by_ ≤ 140737488355328) (h63:len + m.length ≤ 9223372036854775807) (hd:Nat.blt d n = true)
  (k:B6 P E n ops rest ((σ.set i (.row e sz (ver + 1) (l ++ m))).put d (.row i (ver + 1) (len + m.length))) K) :
  B6 P E n ops (⟨some d, .call ⟨.builtin .append, #[x,y], #[T,T]⟩,ty,pos,after,none⟩ :: rest) σ K:=by
 intro a w ⟨θ,hs⟩
 obtain ⟨hl,hv,hnx⟩:=N4 (hs.evT.rel hx) hb
 obtain ⟨hl2,hv2,hnx2⟩:=N4 (hs.evT.rel hy) hb2
 exact z8 hs hl hv hnx hb (by rw [hv2];exact Lq hs.evT hb2 hm hpos) hz hpos hbe hlen h63 hd k
theorem Dm {T e sz by_:Nat} {z:List Value} [ts:I6 P T e sz] [tz:G7 P e z] [tb:K3 P e by_] {m:List (List AV)} (hx:D8 σ x = some (.v (.slice none 0 0))) (hy:D8 σ y = some (.sl sz m))
  (hm:∀ el ∈ m,∀ u ∈ el,J8 u) (hz:z.length = sz) (hpos:0 < sz) (hbe:e < C4) (hlen:(0 + m.length) * by_ ≤ 140737488355328) (h63:0 + m.length ≤ 9223372036854775807) (hd:Nat.blt d n = true)
  (k:B6 P E n ops rest (((σ.new (.row e sz 0 [])).set σ.nx (.row e sz 1 ([] ++ m))).put d (.row σ.nx 1 (0 + m.length))) K) :
  B6 P E n ops (⟨some d, .call ⟨.builtin .append, #[x,y], #[T,T]⟩,ty,pos,after,none⟩ :: rest) σ K:=by
 intro a w ⟨θ,hs⟩
 have hv:=(hs.ev hx).val
 have h2:=hs.grow (w':=w) (Below.refl _ _) (.slice none 0 0) (.row e sz 0 []) (fun k hk=>by cases hk) (fun le=>⟨[],⟨by simp, .inl ⟨by simp [cx,D0],rfl⟩⟩,(fun el hel=>by cases hel),(fun k el hk=>by simp at hk), .lt (K8 hbe)⟩) (I8 (K8 hbe))
 have hy2:D8 (σ.new (.row e sz 0 [])) y = some (.sl sz m):=by cases y <;> exact hy
 exact z8 (i:=σ.nx) (ver:=0) (l:=[]) h2 rfl (by rw [hv,D0]) (Nat.lt_succ_self _) (by simp [St.new,D5]) (Ei (h2.evT.rel hy2) hm hpos) hz hpos hbe hlen h63 hd k
end rules
def I7:List (Nat × AV) → List (List AV)
 | []=>[]
 | (_,a) :: r=>H3 a :: I7 r
def X9:Nat → List (Nat × AV) → Bool
 | _,[]=>true
 | k,(i,_) :: r=>Nat.beq i k && X9 (k + 1) r
def Q6 (sz:Nat):List (List AV) → Bool
 | []=>true
 | e :: r=>Nat.beq e.length sz && Q6 sz r
theorem s6 {sz:Nat}:∀ {l:List (List AV)},Q6 sz l = true → ∀ e ∈ l,e.length = sz
 | [],_,e,he=>by cases he
 | x :: r,h,e,he=>by
   simp only [Q6,Bool.and_eq_true,Nat.beq_eq] at h
   rcases List.mem_cons.1 he with rfl | he
   ·exact h.1
   ·exact s6 h.2 e he
theorem AA:∀ (ps:List (Nat × AV)),(I7 ps).length = ps.length
 | []=>rfl
 | _ :: r=>by simp [I7,AA r]
theorem Ck {sz len:Nat}:∀ (ps:List (Nat × AV)) (k:Nat) (A:List AV),A.length = k * sz → X9 k ps = true → Q6 sz (I7 ps) = true → k + ps.length = len →
  W2 ((List.range len).map fun i=>(i * sz,sz)) (A ++ List.replicate (ps.length * sz) .any) ps = some (A ++ (I7 ps).flatten)
 | [],k,A,hA,_,_,_=>by simp [W2,I7]
 | (i,a) :: r,k,A,hA,hd,hl,hk=>by
   simp only [X9,Bool.and_eq_true,Nat.beq_eq] at hd
   simp only [I7,Q6,Bool.and_eq_true,Nat.beq_eq] at hl
   obtain ⟨rfl,hd⟩:=hd
   simp only [List.length_cons] at hk
   have hget:((List.range len).map fun j=>(j * sz,sz))[i]? = some (i * sz,sz):=by
    rw [List.getElem?_map,List.getElem?_range (by omega)];rfl
   have hmul:(r.length + 1) * sz = sz + r.length * sz:=by rw [Nat.add_mul,Nat.one_mul];omega
   simp only [W2,hget]
   have hb:(Nat.beq (H3 a).length sz && Nat.ble (i * sz + (H3 a).length) (A ++ List.replicate (((i,a) :: r).length * sz) AV.any).length) = true:=by
    simp only [Bool.and_eq_true,Nat.beq_eq,Nat.ble_eq,List.length_append,List.length_replicate,List.length_cons]
    exact ⟨hl.1,by rw [hA,hl.1,hmul];omega⟩
   rw [hb]
   have hs:X3 (A ++ List.replicate (((i,a) :: r).length * sz) AV.any) (i * sz) (H3 a) = (A ++ H3 a) ++ List.replicate (r.length * sz) AV.any:=by
    unfold X3
    rw [← hA,List.take_left,List.drop_append,List.drop_of_length_le (by omega),List.length_cons,hmul,hl.1]
    simp
   have ih:=Ck (sz:=sz) (len:=len) r (i + 1) (A ++ H3 a) (by rw [List.length_append,hA,hl.1,Nat.add_mul,Nat.one_mul]) hd hl.2 (by omega)
   simp only [cond_true]
   rw [hs,ih]
   simp [I7]
theorem DJ {sz:Nat}:∀ {l:List (List AV)} {i j:Nat} {e:List AV} {x:AV},(∀ e ∈ l,e.length = sz) → l[i]? = some e → e[j]? = some x → l.flatten[i * sz + j]? = some x
 | [],i,j,e,x,_,h,_=>by simp at h
 | a :: r,0,j,e,x,hs,h,hx=>by
   simp at h;subst h
   rw [List.flatten_cons,Nat.zero_mul,Nat.zero_add,List.getElem?_append_left (List.getElem?_eq_some_iff.1 hx).1]
   exact hx
 | a :: r,i + 1,j,e,x,hs,h,hx=>by
   have ha:=hs a (by simp)
   rw [List.flatten_cons,List.getElem?_append_right (by rw [ha,Nat.add_mul];omega)]
   have:=DJ (l:=r) (i:=i) (j:=j) (fun e he=>hs e (by simp [he])) (by simpa using h) hx
   rw [← this]
   congr 1
   rw [ha,Nat.add_mul]
   omega
theorem AB {sz:Nat}:∀ {l:List (List AV)},(∀ e ∈ l,e.length = sz) → l.flatten.length = l.length * sz
 | [],_=>by simp
 | a :: r,hs=>by
   rw [List.flatten_cons,List.length_append,hs a (by simp),AB (fun e he=>hs e (by simp [he])),List.length_cons,Nat.add_mul]
   omega
section rules
variable {P:Program} {E:Env} {n nx:Nat} {hp:Hp} {ev:Operand → Option AV} {ops:Array Oper} {rest:List Oper} {σ:St} {K:St → Prop} {Q:Exit → St → Prop}
variable {d:Nat} {ty:TypeId} {pos:String} {after:Array Edge} {x y:Operand}
def W8:List (List AV) → Prop
 | []=>True
 | e :: r=>(∀ u ∈ e,J8 u) ∧ W8 r
theorem W8.mem:∀ {l:List (List AV)},W8 l → ∀ e ∈ l,∀ u ∈ e,J8 u
 | [],_,e,he=>by cases he
 | x :: r,h,e,he=>by
   rcases List.mem_cons.1 he with rfl | he
   ·exact h.1
   ·exact W8.mem h.2 e he
theorem v7 {T e sz:Nat} {z:List Value} [ts:I6 P T e sz] [tz:G7 P e z] {parts:List (Nat × Operand)} {ps:List (Nat × AV)} {len:Nat} {θ:Th} {a:Act} {w:World} (h:Q3 E θ nx hp ev a w) (he:V5 ev parts = some ps) (hfit:j6 hp ps)
  (hd:X9 0 ps = true) (hl:Q6 sz (I7 ps) = true) (hlen:ps.length = len) (hz:z.length = sz) (hsmall:len * sz ≤ 16777216) (hpos:0 < sz) :
  ∃ cells:Array Value,(Instr.buildSlice T len (parts.toArray.map fun (i,x)=>(i,a.eval x))).run P w = .ok (.slice (some ⟨w.heap.size,0,none⟩) len len) (w.alloc (.cells cells e)) ∧ PW (kx E θ nx hp w) (I7 ps).flatten cells.toList:=by
 obtain ⟨hu,i,hi,hsz⟩:=ts.out
 obtain ⟨i2,zv,hi2,hzv,hzc⟩:=tz.out
 rw [hi] at hi2
 cases hi2
 subst hlen
 have hf:=Ck (sz:=sz) (len:=ps.length) ps 0 [] (by simp) hd hl (by omega)
 simp only [List.nil_append] at hf
 have hsz2:((Array.range (ps.length * i.size)).map (zv.cells[· % zv.cells.size]!)).size = ps.length * sz:=by simp [hsz]
 obtain ⟨cells',h1,h2⟩:=v6 h (pl:=(List.range ps.length).map fun i=>(i * sz,sz)) (place:=fun q=>some (q * i.size,i.size)) (fun j p hj=>by
  simp only [List.getElem?_map,Option.map_eq_some_iff] at hj
  obtain ⟨t,ht,rfl⟩:=hj
  have hlt:j < ps.length:=by
   rcases Nat.lt_or_ge j ps.length with h1 | h1
   ·exact h1
   ·rw [List.getElem?_eq_none (by simpa using h1)] at ht;cases ht
  rw [List.getElem?_range hlt] at ht
  cases ht
  rw [hsz]) parts ps (List.replicate (ps.length * sz) .any) _ ((Array.range (ps.length * i.size)).map (zv.cells[· % zv.cells.size]!)) he hfit ⟨by simp [hsz],fun j u y hu hy=>by
   have:u = .any:=by
    have:=List.mem_of_getElem? hu
    exact List.eq_of_mem_replicate this
   subst this
   exact .any _⟩ hf
 refine ⟨cells',?_,h2⟩
 have hn:¬ (ps.length * sz > 2 ^ 24):=by omega
 simp only [Instr.buildSlice,Sem.run_bind,run_underlying hu,Result.andThen_ok,sizeOf,typeInfo,program,Sem.run,hi,Sem.run_pure,hsz,Sem.run_ite]
 rw [if_neg hn]
 have h1':Instr.fill (fun i=>some (i * sz,sz)) ((Array.range (ps.length * sz)).map (zv.cells[· % zv.cells.size]!)) (parts.toArray.map fun (i,x)=>(i,a.eval x)).toList = some cells':=by
  rw [← h1,hsz]
  simp
 split
 ·rename_i h0
  have e1:(Array.range (ps.length * sz)).map ((#[]:Array Value)[· % (#[]:Array Value).size]!) = (Array.range (ps.length * sz)).map (zv.cells[· % zv.cells.size]!):=by simp [h0]
  rw [e1,h1']
  rfl
 ·rw [R9 hi hzv]
  simp only [Result.andThen_ok]
  rw [h1']
  rfl
theorem Bi {T e sz:Nat} {z:List Value} [ts:I6 P T e sz] [tz:G7 P e z] {parts:List (Nat × Operand)} {ps:List (Nat × AV)} {len:Nat} (he:V5 ev parts = some ps) (hfit:j6 hp ps)
  (hd:X9 0 ps = true) (hl:Q6 sz (I7 ps) = true) (hlen:ps.length = len) (hz:z.length = sz) (hsmall:len * sz ≤ 16777216) (hpos:0 < sz) (him:W8 (I7 ps)) :
  E2 P E nx hp ev (.buildSlice T len parts.toArray) ty (.sl sz (I7 ps)) :=
 KG fun _ _ _ θ a w h=>by
  obtain ⟨cells,hr,hpw⟩:=v7 (P:=P) (T:=T) (e:=e) h he hfit hd hl hlen hz hsmall hpos
  have hels:(I7 ps).length = len:=by rw [AA,hlen]
  have hsz:=s6 hl
  have hcl:cells.size = len * sz:=by
   have:=hpw.1
   rw [AB hsz,hels,Array.length_toList] at this
   exact this.symm
  have h1:len ≤ len * sz:=Nat.le_mul_of_pos_right _ hpos
  refine ⟨.slice (some ⟨w.heap.size,0,none⟩) len len,w.alloc (.cells cells e),by simp only [execOp,Sem.run_bind,hr,Result.andThen_ok,Sem.run_pure],S6 _ _, .im ?_⟩
  rw [← hels]
  refine .sl sz (I7 ps) ⟨w.heap.size,0,none⟩ _ (fun i j=>cells.toList.getD (i * sz + j) undef) (Nat.le_refl _) (by unfold maxLen;omega) (fun _ _ hu=>absurd (h.Ult _ hu) (Nat.lt_irrefl _)) hsz (fun i hi j hj=>?_) (fun i el hi j u hu=>?_)
  ·rw [hels] at hi
   have hin:i * sz + j < cells.size:=by
    rw [hcl]
    have:(i + 1) * sz ≤ len * sz:=Nat.mul_le_mul_right _ hi
    rw [Nat.add_mul,Nat.one_mul] at this
    omega
   rw [F3]
   refine (G5 (b:=w.heap.size) (heap_alloc_new w _) _).trans ?_
   simp [hin]
  ·have hfg:=DJ hsz hi hu
   have hlt:i * sz + j < cells.toList.length:=by rw [← hpw.1];exact (List.getElem?_eq_some_iff.1 hfg).1
   have hc:cells.toList[i * sz + j]? = some cells.toList[i * sz + j]:=List.getElem?_eq_getElem hlt
   have hrel:=hpw.2 _ _ _ hfg hc
   have him':=(him.mem el (List.mem_of_getElem? hi) u (List.mem_of_getElem? hu))
   have hI:=(Q5 (J8.spec (U:=(kx E θ nx hp w).U) (w:=w) him').1).im hrel
   have e1:cells.toList.getD (i * sz + j) undef = cells.toList[i * sz + j]:=by simp [List.getD,hlt] at hlt ⊢;simp [hlt]
   rw [e1]
   exact hI.mono (fun k hk _=>heap_alloc_old w _ hk) fun k _ hu=>hu
theorem Dn {T e sz:Nat} {z:List Value} [ts:I6 P T e sz] [tz:G7 P e z] {parts:List (Nat × Operand)} {ps:List (Nat × AV)} {len:Nat} (he:V5 (D8 σ) parts = some ps) (hfit:j6 σ.hp ps)
  (hdn:X9 0 ps = true) (hl:Q6 sz (I7 ps) = true) (hlen:ps.length = len) (hz:z.length = sz) (hsmall:len * sz ≤ 16777216) (hpos:0 < sz) (him:W8 (I7 ps)) (hek:e < G2) (hd:Nat.blt d n = true)
  (k:B6 P E n ops rest ((σ.new (.row e sz 0 (I7 ps))).put d (.row σ.nx 0 len)) K):B6 P E n ops (⟨some d, .buildSlice T len parts.toArray,ty,pos,after,none⟩ :: rest) σ K :=
 q9 hd (fun θ a w h=>by
  obtain ⟨cells,hr,hpw⟩:=v7 (P:=P) (T:=T) (e:=e) h he hfit hdn hl hlen hz hsmall hpos
  have hels:(I7 ps).length = len:=by rw [AA,hlen]
  have hsz:=s6 hl
  have hcl:cells.toList.length = (I7 ps).length * sz:=by rw [← hpw.1,AB hsz]
  have h1:len ≤ len * sz:=Nat.le_mul_of_pos_right _ hpos
  refine ⟨.slice (some ⟨w.heap.size,0,none⟩) len len, .slice (some ⟨w.heap.size,0,none⟩) len len,w.alloc (.cells cells e),by simp only [execOp,Sem.run_bind,hr,Result.andThen_ok,Sem.run_pure],S6 _ _,Gd (Nat.le_refl _),fun le=>?_⟩
  have key:=Gc (E:=E) (σ:=σ) (θ:=θ) (w:=w) (w':=w.alloc (.cells cells e)) (xs:=cells.toList) (rest:=[]) (e:=e) (sz:=sz) (g:=w.heap.size) (cap:=len) (l:=I7 ps)
   hek (Nat.le_refl _) (by simpa using heap_alloc_new w _) hcl (by omega) (by unfold maxLen;omega) (by simpa [hels] using hcl) hsz (fun k el hk j u hu=>?_) (by rw [hels];exact le)
  ·rw [hels] at key;exact key
  ·have hfg:=DJ hsz hk hu
   have hlt:k * sz + j < cells.toList.length:=by rw [← hpw.1];exact (List.getElem?_eq_some_iff.1 hfg).1
   have hc:cells.toList[k * sz + j]? = some cells.toList[k * sz + j]:=List.getElem?_eq_getElem hlt
   have hrel:=hpw.2 _ _ _ hfg hc
   have him':=(him.mem el (List.mem_of_getElem? hk) u (List.mem_of_getElem? hu))
   exact ⟨_,hc,(Q5 (J8.spec (U:=(kx E θ σ.nx σ.hp w).U) (w:=w) him').1).im hrel⟩) k (I8 (DE hek))
def l9 (m:List (Key × AV)) (k:Key):Option AV:=(m.find? fun p=>decide (p.1 = k)).map (·.2)
def AC:List (Key × AV) → Key → AV → List (Key × AV)
 | [],k,v=>[(k,v)]
 | (k',v') :: r,k,v=>if k' = k then (k',v) :: r else (k',v') :: AC r k v
def M7 (t:TypeDesc):Key → Prop
 | .s _=>t = .string
 | .i k _=>t = .int k
theorem Ge {T:TypeId} (hd:Nat.blt d n = true) (k:B6 P E n ops rest ((σ.new (.map [])).put d (.mp σ.nx)) K):B6 P E n ops (⟨some d, .makeMap T none,ty,pos,after,none⟩ :: rest) σ K :=
 q9 (b:=.map []) hd (fun θ a w h=>⟨.map (some w.heap.size), .map (some w.heap.size),w.alloc (.map #[] 0),by simp [execOp,Instr.makeMap,newObj,Sem.run_bind,Sem.run_pure,Sem.run],S6 _ _,fun k hk=>by simp [fp] at hk;omega,fun le =>
  ⟨⟨w.heap.size, #[],0,by simp [cx,D0],heap_alloc_new w _,rfl,fun j kx e hx=>by simp at hx⟩, .mp _ _ (by simp [cx,St.new]) (by simp [cx,D0])⟩⟩) k
theorem KU {c:Cx} {i:Nat} {y:Value} (r:C5 c (.mp i) y):y = c.θ i ∧ i < c.nx:=by
 cases r with
 | im hi=>cases hi
 | mp i r hi hθ=>exact ⟨hθ.symm,hi⟩
theorem Hl {t:TypeDesc} {k k':Key} (h:M7 t k) (h':M7 t k'):Instr.sameNow t k.val k'.val = some (decide (k = k')):=by
 cases k with
 | s l =>
   simp only [M7] at h
   subst h
   cases k' with
   | s l' =>
     simp only [Key.val,Instr.sameNow,Key.s.injEq]
     congr 1
     show (l.toArray == l'.toArray) = _
     by_cases e:l = l' <;> simp [e]
   | i k n=>simp [M7] at h'
 | i kk m =>
   simp only [M7] at h
   subst h
   cases k' with
   | s l'=>simp [M7] at h'
   | i k' m' =>
     simp only [M7,TypeDesc.int.injEq] at h'
     subst h'
     simp [Key.val,Instr.sameNow,PS]
theorem findNow_spec {t:TypeDesc} {k:Key} (hk:M7 t k):∀ (m:List (Key × AV)) (es:List MapEntry) (i:Nat),es.length = m.length → (∀ p ∈ m,M7 t p.1) → (∀ (j:Nat) (p:Key × AV) e,m[j]? = some p → es[j]? = some e → e.key = p.1.val) →
  ∃ r,Instr.findNow t k.val es i = some r ∧ (match m.findIdx? (fun p=>decide (p.1 = k)) with
   | none=>r = none
   | some j=>∃ e,es[j]? = some e ∧ r = some (i + j,e.val))
 | [],es,i,hl,_,_=>by
   have:es = []:=List.eq_nil_of_length_eq_zero (by simpa using hl)
   subst this
   exact ⟨none,rfl,rfl⟩
 | p :: r,[],i,hl,_,_=>by simp at hl
 | p :: r,e :: es,i,hl,hkk,hke=>by
   have hkey:=hke 0 p e rfl rfl
   have hs:=Hl (t:=t) hk (hkk p (by simp))
   simp only [Instr.findNow,hkey]
   rw [show Instr.sameNow t k.val p.1.val = some (decide (k = p.1)) from hs]
   by_cases e1:p.1 = k
   ·rw [decide_eq_true e1.symm]
    refine ⟨_,rfl,?_⟩
    rw [List.findIdx?_cons]
    simp only [e1,decide_true,if_true]
    exact ⟨e,rfl,rfl⟩
   ·rw [decide_eq_false (fun h=>e1 h.symm)]
    obtain ⟨q,hq,hrest⟩:=findNow_spec hk r es (i + 1) (by simpa using hl) (fun p hp=>hkk p (by simp [hp])) (fun j p e hj he=>hke (j + 1) p e (by simpa using hj) (by simpa using he))
    refine ⟨q,hq,?_⟩
    rw [List.findIdx?_cons]
    simp only [e1,decide_false]
    cases hf:r.findIdx? (fun p=>decide (p.1 = k)) with
    | none=>rw [hf] at hrest;simpa using hrest
    | some j =>
      rw [hf] at hrest
      obtain ⟨e',he',hqe⟩:=hrest
      simp only [Option.map_some]
      refine ⟨e',by simpa using he',?_⟩
      rw [hqe]
      congr 2
      omega
theorem Ca {kt:TypeId} {t:TypeDesc} {k:Key} (ht:P.underlying kt = some t) (hk:M7 t k) (b:Bool) (m:Nat) (w:World):(Instr.checkKey b (m + 1) kt k.val).run P w = .ok () w:=by
 cases k with
 | s l=>simp only [M7] at hk;subst hk;simp only [Instr.checkKey,Sem.run_bind,run_underlying ht,Result.andThen_ok,Key.val];rfl
 | i kk m=>simp only [M7] at hk;subst hk;simp only [Instr.checkKey,Sem.run_bind,run_underlying ht,Result.andThen_ok,Key.val];rfl
theorem W9 {kt:TypeId} {t:TypeDesc} {k:Key} (ht:P.underlying kt = some t) (hk:M7 t k) (b:Bool) (w:World):(Instr.checkKey b 10000 kt k.val).run P w = .ok () w:=Ca ht hk b 9999 w
def keyOf:AV → Option Key
 | .str l=>some (.s l)
 | .v (.int k n)=>some (.i k n)
 | _=>none
theorem FE {c:Cx} {av:AV} {k:Key} {y:Value} (h:keyOf av = some k) (r:C5 c av y):y = k.val:=by
 unfold keyOf at h
 split at h
 ·cases h;exact r.sval
 ·cases h;exact r.val
 ·cases h
def n5:TypeDesc → Key → Bool
 | .string, .s _=>true
 | .int k, .i k' _=>decide (k = k')
 | _,_=>false
theorem n6 {t:TypeDesc} {k:Key} (h:n5 t k = true):M7 t k:=by
 unfold n5 at h
 split at h
 ·rfl
 ·exact (congrArg TypeDesc.int (of_decide_eq_true h))
 ·cases h
theorem Lr {m:List (Key × AV)} {k:Key}:(match m.findIdx? (fun p=>decide (p.1 = k)) with
   | none=>l9 m k = none
   | some j=>∃ p,m[j]? = some p ∧ p.1 = k ∧ l9 m k = some p.2):=by
 induction m with
 | nil=>simp [l9]
 | cons p r ih =>
   rw [List.findIdx?_cons]
   by_cases e:p.1 = k
   ·simp only [e,decide_true,if_true]
    exact ⟨p,rfl,e,by simp [l9,e]⟩
   ·simp only [e,decide_false]
    cases hf:r.findIdx? (fun p=>decide (p.1 = k)) with
    | none=>rw [hf] at ih;simp [l9,e] at ih ⊢;exact ih
    | some j =>
      rw [hf] at ih
      obtain ⟨q,h1,h2,h3⟩:=ih
      simp only [Option.map_some]
      exact ⟨q,by simpa using h1,h2,by simp [l9,e] at h3 ⊢;exact h3⟩
end rules
end Go.Av
