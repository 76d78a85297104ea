/- A small program logic over the kit's walk: abstract values, owned blocks, and rules for the code. Quiet operations: they hand back a value and write nothing that was there. Calls, conversions, and operations that build values or own memory. Operations that make or write memory of one's own. Rows of one's own: make, append, literals; maps of one's own; closures. Slice literals, cuts, maps of one's own, closures. -/
import Derived.WalkKit
import Derived.WalkSpells
import Derived.WalkLawsBesides
import Derived.Lib.Hide
import Derived.Deep.LoopGhost
import Derived.Lib.AppendStr
set_option linter.unusedSimpArgs false
set_option linter.unusedVariables false
set_option linter.unnecessarySimpa false
set_option maxHeartbeats 64000000
namespace Go.Av
open Go Go.RowKit
inductive AV where
 |any
 |v (x:Value)
 |str (l:List UInt8)
 |agg (l:List AV)
 |tup (l:List AV)
 |ref (i off:Nat)
 |iptr (l:List AV)
 |sl (sz:Nat) (l:List (List AV))
 |row (i ver len:Nat)
 |mp (i:Nat)
 |elt (i ver k off:Nat)
 |fn (f:Nat) (caps:List AV)
 |err
 |fo (f:Nat) (l:List AV)
 |own (e sz:Nat) (l:List (List AV))
 |sub (i ver lo len:Nat)
instance:Inhabited AV:=⟨.any⟩
inductive Key where
 |s (l:List UInt8)
 |i (k:IntKind) (n:Int)
deriving DecidableEq
def Key.val:Key→Value
 |.s l=>.string ⟨l.toArray⟩
 |.i k n=>.int k n
inductive G1 where
 |bx (τ:Nat) (l:List AV)
 |row (e sz ver:Nat) (l:List (List AV))
 |map (m:List (Key×AV))
 |it (s:List UInt8) (pos:Nat)
@[match_pattern] abbrev G1.box (l:List AV):G1:=.bx 0 l
abbrev jh(τ:Nat):Type:={ t:Nat // τ=0∨τ=t+1 }
def look{α:Type}:List (Nat×α)→Nat→Option α
 |[],_=>none
 |(k,x)::r,n=>cond (Nat.beq k n) (some x) (look r n)
theorem I1{α:Type}(k:Nat)(x:α)(r:List (Nat×α))(n:Nat):look ((k,x)::r) n=if k=n then some x else look r n:=by
 by_cases h:k=n
 ·subst h;simp[look]
 ·have:Nat.beq k n=false:=by
   cases hb:Nat.beq k n
   ·rfl
   ·exact absurd (Nat.eq_of_beq_eq_true hb) h
  simp[look,this,h]
abbrev Hp:=List (Nat×Option G1)
def A7(hp:Hp)(i:Nat):Option G1 :=
 match look hp i with
 |some (some b)=>some b
 |_=>none
theorem J3(k:Nat)(x:Option G1)(r:Hp)(n:Nat):A7 ((k,x)::r) n=if k=n then x else A7 r n:=by
 unfold A7
 rw[I1]
 by_cases h:k=n<;>simp[h]
 cases x<;>rfl
structure Th where
 v:Nat→Value
 N:Nat→Nat→Option Nat
instance:CoeFun Th fun _=>Nat→Value:=⟨Th.v⟩
structure Cx where
 θ:Th
 nx:Nat
 hp:Hp
 X:Nat→Prop
 w:World
def fp:Value→Option Nat
 |.pointer (some a)=>some a.block
 |.slice (some a) _ _=>some a.block
 |.map (some r)=>some r
 |_=>none
def y6:Nat:=8796093022208
def BZ:G1→Bool
 |.row e _ _ _=>Nat.ble y6 e
 |_=>false
def FP(θ:Th)(i:Nat)(b:G1)(k:Nat):Prop:=fp (θ i)=some k∨(BZ b=true∧∃p,θ.N i k=some p)
def Cx.own(c:Cx)(k:Nat):Prop:=∃i b,A7 c.hp i=some b∧FP c.θ i b k
def Cx.U(c:Cx)(k:Nat):Prop:=c.X k∨c.own k
inductive Im (U:Nat→Prop) (w:World):AV→Value→Prop
 |v (x:Value):Im U w (.v x) x
 |str (l:List UInt8):Im U w (.str l) (.string ⟨l.toArray⟩)
 |agg (l:List AV) (cs:List Value) (hl:l.length=cs.length) (h:∀(j:Nat) x c,l[j]?=some x→cs[j]?=some c→Im U w x c):Im U w (.agg l) (.agg cs.toArray)
 |tup (l:List AV) (cs:List Value) (hl:l.length=cs.length) (h:∀(j:Nat) x c,l[j]?=some x→cs[j]?=some c→Im U w x c):Im U w (.tup l) (.tuple cs.toArray)
 |fn (f:Nat) (l:List AV) (cs:List Value) (hl:l.length=cs.length) (h:∀(j:Nat) x c,l[j]?=some x→cs[j]?=some c→Im U w x c):Im U w (.fn f l) (.func (.func f) #[] cs.toArray)
 |err (t:TypeId) (p:Value):Im U w .err (.iface t p)
 |any (x:Value):Im U w .any x
 |own (e sz:Nat) (l:List (List AV)) (x:Value):Im U w (.own e sz l) x
 |iptr (l:List AV) (a:Addr) (f:Nat→Value) (hu:l≠[]→¬U a.block) (hc:∀j,j<l.length→w.cell? (a.add j)=some (f j))
   (h:∀(j:Nat) x,l[j]?=some x→Im U w x (f j)):Im U w (.iptr l) (.pointer (some a))
 |slnil (sz:Nat):Im U w (.sl sz []) (.slice none 0 0)
 |sl (sz:Nat) (l:List (List AV)) (a:Addr) (cap:Nat) (f:Nat→Nat→Value) (lT:l.length≤cap) (hm:cap≤maxLen) (hu:l≠[]→0<sz→¬U a.block)
   (hsz:∀e∈l,e.length=sz) (hc:∀i,i<l.length→∀j,j<sz→w.cell? (a.add (i*sz+j))=some (f i j))
   (h:∀(i:Nat) e,l[i]?=some e→∀(j:Nat) x,e[j]?=some x→Im U w x (f i j)):Im U w (.sl sz l) (.slice (some a) l.length cap)
def fc(v:Value)(sz lo len:Nat)(x:Value):Prop:=(v=.slice none 0 0∧x=.slice none 0 0∧lo=0∧len=0) ∨
 ∃g n cap,v=.slice (some ⟨g,0,none⟩) n cap∧x=.slice (some (if cap=lo then ⟨g,0,none⟩else ⟨g,lo*sz,none⟩)) len (cap-lo)
def Ee:Nat:=1099511627776
def Pl(f:Nat)(cs:Array Value):Value:=if f<Ee then .func (.func f) #[] cs else .func (.func (f-Ee)) cs #[]
inductive G2 (c:Cx):AV→Value→Prop
 |any (x:Value):G2 c .any x
 |im {a:AV} {x:Value} (h:Im c.U c.w a x):G2 c a x
 |agg (l:List AV) (cs:List Value) (hl:l.length=cs.length) (h:∀(j:Nat) x y,l[j]?=some x→cs[j]?=some y→G2 c x y):G2 c (.agg l) (.agg cs.toArray)
 |tup (l:List AV) (cs:List Value) (hl:l.length=cs.length) (h:∀(j:Nat) x y,l[j]?=some x→cs[j]?=some y→G2 c x y):G2 c (.tup l) (.tuple cs.toArray)
 |fo (f:Nat) (l:List AV) (cs:List Value) (hl:l.length=cs.length) (h:∀(j:Nat) x y,l[j]?=some x→cs[j]?=some y→G2 c x y):G2 c (.fo f l) (Pl f cs.toArray)
 |ref (i off b:Nat) (hi:i<c.nx) (hθ:c.θ i=.pointer (some ⟨b,0,none⟩)):G2 c (.ref i off) (.pointer (some ⟨b,off,none⟩))
 |row (i ver len:Nat) (x:Value) (hi:i<c.nx) (h:∀e sz v' l,A7 c.hp i=some (.row e sz v' l)→ver≤v'∧(ver=v'→l.length=len∧x=c.θ i)):G2 c (.row i ver len) x
 |mp (i:Nat) (r:Option Nat) (hi:i<c.nx) (hθ:c.θ i=.map r):G2 c (.mp i) (.map r)
 |elt (i ver k off:Nat) (x:Value) (hi:i<c.nx) (h:∀e sz v' l,A7 c.hp i=some (.row e sz v' l)→ver≤v'∧(ver=v'→∃g n cap,c.θ i=.slice (some ⟨g,0,none⟩) n cap∧x=.pointer (some ⟨g,k*sz+off,none⟩))):G2 c (.elt i ver k off) x
 |sub (i ver lo len:Nat) (x:Value) (hi:i<c.nx) (h:∀e sz v' l,A7 c.hp i=some (.row e sz v' l)→ver≤v'∧(ver=v'→lo+len≤l.length∧fc (c.θ i) sz lo len x)):G2 c (.sub i ver lo len) x
def Q0:Nat:=1099511627776
def R7:Nat:=2199023255552
def KU:Nat:=4398046511104
def GM(w:World)(g e m:Nat):Prop:=KU≤e→e<y6→∀kz t fz,w.heap[g]?=some (.cells kz t fz)→fz.2≤m
theorem GM.lt{w:World}{g e m:Nat}(h:e<KU):GM w g e m:=fun h2=>absurd h2 (by omega)
theorem GM.ge{w:World}{g e m:Nat}(h:y6≤e):GM w g e m:=fun _ h2=>absurd h2 (by omega)
theorem GM.mono{w w':World}{g e m:Nat}(h:GM w g e m)(hw:w'.heap[g]?=w.heap[g]?):GM w' g e m:=fun h1 h2 kz t fz hc=>h h1 h2 kz t fz (by rw[←hw];exact hc)
def Cy(e:Nat):Bool:=Nat.blt e KU || Nat.ble y6 e
theorem GM.not{w:World}{g e m:Nat}(h:Cy e=true):GM w g e m:=by
 simp only[Cy,Bool.or_eq_true,Nat.blt_eq,Nat.ble_eq]at h
 exact h.elim .lt .ge
theorem Pm{e:Nat}(h:e<KU):Cy e=true:=by simp only[Cy,Bool.or_eq_true,Nat.blt_eq];exact .inl h
theorem Kw{e:Nat}(h:e<R7):e<KU:=by unfold R7 at h;unfold KU;omega
theorem Gd{e:Nat}(h:e<Q0):e<KU:=by unfold Q0 at h;unfold KU;omega
def jD(e:Nat):Nat:=cond (Nat.ble 17592186044416 e) (e-17592186044416) (cond (Nat.ble 13194139533312 e) (e-13194139533312) (cond (Nat.ble y6 e) (e-y6) (e-R7)))
def y7(w:World)(g:Nat)(kz:Array Value)(e:Nat):Prop:=(e<R7∧w.heap[g]?=some (.cells kz e (0,0)))∨(Q0≤e∧e<R7∧∃t fz,w.heap[g]?=some (.cells kz t fz)∧kz.size≤fz.1)∨(R7≤e∧Cy e=true∧w.heap[g]?=some (.cells kz (jD e) (0,0)))∨(Cy e=false∧∃fz,w.heap[g]?=some (.cells kz (e-KU) fz))
def ff:Nat:=17592186044416
def kT:Nat:=13194139533312
def Kx(e:Nat):Bool:=Nat.ble kT e && Nat.blt e ff
def BR(e:Nat):Bool:=(Nat.ble R7 e && Nat.blt e KU) || Nat.ble ff e
theorem Pn{e:Nat}(h:e<Q0):BR e=false:=by
 cases hb:BR e with
 |false=>rfl
 |true =>
  simp only[BR,Bool.or_eq_true,Bool.and_eq_true,Nat.ble_eq]at hb
  unfold Q0 at h;unfold R7 ff at hb;omega
def Kept(hp:Hp)(i:Nat):Prop:=∃e sz v l,A7 hp i=some (.row e sz v l)∧BR e=true
def AZ(w:World)(e size:Nat)(v:Value)(n:Nat)(xs:List Value):Prop :=
 xs.length=n*size∧((v=.slice none 0 0∧n=0)∨∃g cap kz,v=.slice (some ⟨g,0,none⟩) n cap∧GM w g e (n*size)∧y7 w g kz e∧n≤cap∧cap≤maxLen∧kz.size=cap*size∧kz.toList.take (n*size)=xs)
theorem AZ.of{w:World}{b e size n:Nat}{v:Value}{xs:List Value}(h:w.ownsRow b e size v n xs)(he:e<R7):AZ w e size v n xs:=by
 refine⟨h.1,?_⟩
 rcases h.2 with hn|⟨g,cap,kz,hv,_,hg,r⟩
 ·exact .inl hn
 ·exact .inr ⟨g,cap,kz,hv,.lt (Kw he),.inl ⟨he,hg⟩,r⟩
theorem AZ.row{w:World}{e size n:Nat}{v:Value}{xs:List Value}(h:AZ w e size v n xs)(he:e<Q0):w.ownsRow 0 e size v n xs:=by
 refine⟨h.1,?_⟩
 rcases h.2 with hn|⟨g,cap,kz,hv,h0,hg,r⟩
 ·exact .inl hn
 ·rcases hg with ⟨_,hg⟩|⟨hb,_⟩|⟨hb,_⟩|⟨hb,_⟩
  ·exact .inr ⟨g,cap,kz,hv,Nat.zero_le _,hg,r⟩
  ·omega
  ·unfold Q0 at he;unfold R7 at hb;omega
  ·rw[Pm (Gd he)]at hb;cases hb
theorem y7.some{w:World}{g e:Nat}{kz:Array Value}(h:y7 w g kz e):∃t fz,w.heap[g]?=.some (.cells kz t fz)∧(Cy e=true→fz=(0,0)∨kz.size≤fz.1):=by
 rcases h with ⟨_,h⟩|⟨_,_,t,fz,h,hf⟩|⟨_,_,h⟩|⟨hn,fz,h⟩
 ·exact⟨_,_,h,fun _=>.inl rfl⟩
 ·exact⟨t,fz,h,fun _=>.inr hf⟩
 ·exact⟨_,_,h,fun _=>.inl rfl⟩
 ·exact⟨_,fz,h,fun h2=>by rw[hn]at h2;cases h2⟩
theorem y7.lt{w:World}{g e:Nat}{kz:Array Value}(h:y7 w g kz e):g<w.heap.size:=by
 obtain⟨t,fz,h,_⟩:=h.some
 exact(Array.getElem?_eq_some_iff.1 h).1
theorem y7.mono{w w':World}{g e:Nat}{kz:Array Value}(h:y7 w g kz e)(hw:w'.heap[g]?=w.heap[g]?):y7 w' g kz e:=by
 unfold y7 at h ⊢
 rw[hw];exact h
theorem AZ.len{w w':World}{e e' s s' n n':Nat}{v:Value}{xs yB:List Value}(h:AZ w e s v n xs)(h':AZ w' e' s' v n' yB):n=n':=by
 rcases h.2 with ⟨h1,h2⟩|⟨g,cap,kz,h1,_⟩<;>rcases h'.2 with ⟨h3,h4⟩|⟨g',nX,cur',h3,_⟩
 ·omega
 ·rw[h1]at h3;cases h3
 ·rw[h1]at h3;cases h3
 ·rw[h1]at h3;cases h3;rfl
theorem AZ.cells{w:World}{e size n:Nat}{v:Value}{xs:List Value}(h:AZ w e size v n xs){g:Nat}(hg:v.ownBlock=some g):∀j u,xs[j]?=some u→w.cell? ((⟨g,0,none⟩:Addr).add j)=some u:=by
 intro j u hu
 rcases h.2 with ⟨rfl,_⟩|⟨g',cap,kz,rfl,_,vA,_,_,_,nC⟩
 ·simp[Value.ownBlock]at hg
 ·simp[Value.ownBlock]at hg
  subst hg
  obtain⟨t,fz,vA,_⟩:=vA.some
  have qL:(⟨g',0,none⟩:Addr).add j=⟨g',j,none⟩:=by unfold Addr.add;split<;>simp_all
  rw[qL]
  rw[←nC,List.getElem?_take]at hu
  split at hu
  ·rw[Array.getElem?_toList]at hu
   simp[World.cell?,vA,hu]
  ·cases hu
def Fq(w:World)(k:Nat):Prop:=∃kz t fz,w.heap[k]?=some (.cells kz t fz)
theorem Fq.lt{w:World}{k:Nat}(h:Fq w k):k<w.heap.size:=by
 obtain⟨_,_,_,h⟩:=h
 exact(Array.getElem?_eq_some_iff.1 h).1
theorem Fq.mono{w w':World}{k:Nat}(h:Fq w k)(hw:w'.heap[k]?=w.heap[k]?):Fq w' k:=by
 obtain⟨a,b,c,h⟩:=h
 exact⟨a,b,c,hw.trans h⟩
def Ge(c:Cx)(i e sz:Nat)(l:List (List AV)):Prop:=y6≤e→(∀k p,c.θ.N i k=some p→Fq c.w k) ∧
 ∀(k:Nat) el,l[k]?=some el→∀(j e' kw:Nat) l',el[j]?=some (.own e' kw l') →
  (Kx e=true∧Q0≤e'∧∃g n cap y,c.θ i=.slice (some ⟨g,0,none⟩) n cap∧c.w.cell? ⟨g,k*sz+j,none⟩=some y∧G2 c (.row (e'-Q0) kw l'.length) y) ∨
  ∃g n cap y ys,c.θ i=.slice (some ⟨g,0,none⟩) n cap∧c.w.cell? ⟨g,k*sz+j,none⟩=some y∧AZ c.w e' kw y l'.length ys∧e'<Q0∧(∀el∈l',el.length=kw) ∧
   (∀(q:Nat) mA,l'[q]?=some mA→∀(j':Nat) x,mA[j']?=some x→∃z,ys[q*kw+j']?=some z∧Im c.U c.w x z)∧∀b,fp y=some b→b≠g∧c.θ.N i b=some (k*sz+j)
theorem Ge.lt{c:Cx}{i e sz:Nat}{l:List (List AV)}(h:e<y6):Ge c i e sz l:=fun h2=>absurd h (by omega)
theorem FL{e:Nat}(h:e<R7):e<y6:=by unfold R7 at h;unfold y6;omega
theorem Bt{e:Nat}(h:e<Q0):e<y6:=by unfold Q0 at h;unfold y6;omega
def U1(c:Cx)(i:Nat):G1→Prop
 |.bx τ l=>∃b lL,∃ty:jh τ,c.θ i=.pointer (some ⟨b,0,none⟩)∧c.w.heap[b]?=some (.cells lL ty.1 (0,0))∧lL.size=l.length ∧
   ∀(j:Nat) x y,l[j]?=some x→lL[j]?=some y→G2 c x y
 |.row e sz _ l=>∃xs:List Value,AZ c.w e sz (c.θ i) l.length xs∧(∀el∈l,el.length=sz) ∧
   (∀(k:Nat) el,l[k]?=some el→∀(j:Nat) x,el[j]?=some x→∃y,xs[k*sz+j]?=some y∧Im c.U c.w x y)∧Ge c i e sz l
 |.map m=>∃r es clock,c.θ i=.map (some r)∧c.w.heap[r]?=some (.map es clock)∧es.size=m.length ∧
   ∀(j:Nat) (kx:Key×AV) e,m[j]?=some kx→es[j]?=some e→e.key=kx.1.val∧Im c.U c.w kx.2 e.val
 |.it s pos=>∃r,c.θ i=.pointer (some ⟨r,0,none⟩)∧c.w.heap[r]?=some (.stringIter ⟨s.toArray⟩ pos)
structure Cx.le(c c':Cx):Prop where
 nx:c.nx≤c'.nx
 θ:∀i,i<c.nx→c'.θ i=c.θ i∨∃a n k,c.θ i=.slice a n k
 rows:∀i,i<c.nx→∀e' kw v' l',A7 c'.hp i=some (.row e' kw v' l')→∃e v l,A7 c.hp i=some (.row e kw v l)∧(v<v'∨(v=v'∧l.length=l'.length∧c'.θ i=c.θ i))
 size:c.w.heap.size≤c'.w.heap.size
 heap:∀k,k<c.w.heap.size→¬c.U k→c'.w.heap[k]?=c.w.heap[k]?
 U:∀k,k<c.w.heap.size→c'.U k→c.U k
theorem HI{w:World}{a:Addr}{v:Value}(h:w.cell? a=some v):a.block<w.heap.size:=World.block_lt_of_cell? w a h
theorem Z0(a:Addr)(n:Nat):(a.add n).block=a.block:=by unfold Addr.add;split<;>rfl
theorem Im.mono{U U':Nat→Prop}{w w':World}(hh:∀k,k<w.heap.size→¬U k→w'.heap[k]?=w.heap[k]?)(hU:∀k,k<w.heap.size→U' k→U k)
  {a:AV} {x:Value} (h:Im U w a x):Im U' w' a x:=by
 have pT:∀{p:Addr} {y:Value},¬U p.block→w.cell? p=some y→w'.cell? p=some y:=by
  intro p y hn hc
  rw[←hc]
  exact World.cell?_of_block (hh _ (HI hc) hn)
 induction h with
 |v x=>exact .v x
 |str l=>exact .str l
 |agg l cs hl h ih=>exact .agg l cs hl ih
 |tup l cs hl h ih=>exact .tup l cs hl ih
 |fn f l cs hl h ih=>exact .fn f l cs hl ih
 |err t p=>exact .err t p
 |any x=>exact .any x
 |own e sz l x=>exact .own e sz l x
 |iptr l a f hu hc h ih =>
  refine .iptr l a f (fun hne oR=>hu hne (hU _ ?_ oR)) (fun j hj=>pT ?_ (hc j hj)) ih
  ·have:=hc 0 (List.length_pos_iff.2 hne)
   simpa [Z0]using HI this
  ·rw[Z0];exact hu (by intro e;simp[e]at hj)
 |slnil sz=>exact .slnil sz
 |sl sz l a cap f lT hm hu hsz hc h ih =>
  refine .sl sz l a cap f lT hm (fun hne hs oR=>hu hne hs (hU _ ?_ oR)) hsz (fun i hi j hj=>pT ?_ (hc i hi j hj)) ih
  ·have:=hc 0 (List.length_pos_iff.2 hne) 0 hs
   simpa [Z0]using HI this
  ·rw[Z0];exact hu (by intro e;simp[e]at hi) (by omega)
theorem G2.mono{c c':Cx}(h:c.le c'){a:AV}{x:Value}(r:G2 c a x):G2 c' a x:=by
 induction r with
 |any x=>exact .any x
 |im hi=>exact .im (hi.mono h.heap h.U)
 |agg l cs hl _ ih=>exact .agg l cs hl ih
 |tup l cs hl _ ih=>exact .tup l cs hl ih
 |fo f l cs hl _ ih=>exact .fo f l cs hl ih
 |ref i off b hi hθ =>
  refine .ref i off b (Nat.lt_of_lt_of_le hi h.nx) ?_
  rcases h.θ i hi with e|⟨a,n,k,e⟩
  ·rw[e,hθ]
  ·rw[hθ]at e;cases e
 |row i ver len x hi hr =>
  refine .row i ver len x (Nat.lt_of_lt_of_le hi h.nx) fun e' kw v' l' nk=>?_
  obtain⟨e,v,l,hl,hv⟩:=h.rows i hi e' kw v' l' nk
  obtain⟨h1,h2⟩:=hr e kw v l hl
  rcases hv with hv|⟨rfl,kf,ht⟩
  ·exact⟨by omega,fun e=>by omega⟩
  ·exact⟨h1,fun e=>⟨kf▸(h2 e).1,by rw[ht];exact(h2 e).2⟩⟩
 |elt i ver k off x hi hr =>
  refine .elt i ver k off x (Nat.lt_of_lt_of_le hi h.nx) fun e' kw v' l' nk=>?_
  obtain⟨e,v,l,hl,hv⟩:=h.rows i hi e' kw v' l' nk
  obtain⟨h1,h2⟩:=hr e kw v l hl
  rcases hv with hv|⟨rfl,kf,ht⟩
  ·exact⟨by omega,fun e=>by omega⟩
  ·exact⟨h1,fun e=>by rw[ht];exact h2 e⟩
 |sub i ver lo len x hi hr =>
  refine .sub i ver lo len x (Nat.lt_of_lt_of_le hi h.nx) fun e' kw v' l' nk=>?_
  obtain⟨e,v,l,hl,hv⟩:=h.rows i hi e' kw v' l' nk
  obtain⟨h1,h2⟩:=hr e kw v l hl
  rcases hv with hv|⟨rfl,pv,ht⟩
  ·exact⟨by omega,fun e=>by omega⟩
  ·exact⟨h1,fun e=>by rw[ht,←pv];exact h2 e⟩
 |mp i r hi hθ =>
  refine .mp i r (Nat.lt_of_lt_of_le hi h.nx) ?_
  rcases h.θ i hi with e|⟨a,n,k,e⟩
  ·rw[e,hθ]
  ·rw[hθ]at e;cases e
theorem Uo{w:World}{e size n:Nat}{v:Value}{xs:List Value}(h:AZ w e size v n xs){k:Nat}(hk:fp v=some k):k<w.heap.size:=by
 rcases h.2 with ⟨rfl,_⟩|⟨g,cap,kz,rfl,_,hb,_⟩
 ·simp[fp]at hk
 ·simp[fp]at hk
  subst hk
  exact hb.lt
theorem U1.lt0{c:Cx}{i:Nat}{b:G1}(h:U1 c i b){k:Nat}(hk:fp (c.θ i)=some k):k<c.w.heap.size:=by
 cases b with
 |bx τ l =>
  obtain⟨b,lL,ty,hθ,hb,_⟩:=h
  rw[hθ]at hk
  simp[fp]at hk
  subst hk
  exact(Array.getElem?_eq_some_iff.1 hb).1
 |row e sz ver l =>
  obtain⟨xs,ho,_⟩:=h
  exact Uo ho hk
 |map m =>
  obtain⟨r,es,clock,hθ,hr,_⟩:=h
  rw[hθ]at hk
  simp[fp]at hk
  subst hk
  exact(Array.getElem?_eq_some_iff.1 hr).1
 |it s pos =>
  obtain⟨r,hθ,hr⟩:=h
  rw[hθ]at hk
  simp[fp]at hk
  subst hk
  exact(Array.getElem?_eq_some_iff.1 hr).1
theorem U1.lt{c:Cx}{i:Nat}{b:G1}(h:U1 c i b){k:Nat}(hk:FP c.θ i b k):k<c.w.heap.size:=by
 rcases hk with hk|⟨hn,p,hp⟩
 ·exact h.lt0 hk
 ·cases b with
  |row e sz ver l =>
   obtain⟨_,_,_,_,hne⟩:=h
   exact((hne (Nat.ble_eq▸hn)).1 k p hp).lt
  |_=>cases hn
theorem U1.nest{c:Cx}{i e sz v:Nat}{l:List (List AV)}(h:U1 c i (.row e sz v l)):Ge c i e sz l:=let ⟨_,_,_,_,h⟩:=h;h
theorem U1.mono{c c':Cx}(h:c.le c'){i:Nat}{b:G1}(o:U1 c i b)(hθ:c'.θ i=c.θ i)(hN:∀k,c'.θ.N i k=c.θ.N i k)(hb:∀k,FP c.θ i b k→c'.w.heap[k]?=c.w.heap[k]?):U1 c' i b:=by
 have nj:∀k,fp (c.θ i)=some k→c'.w.heap[k]?=c.w.heap[k]?:=fun k hk=>hb k (.inl hk)
 cases b with
 |bx τ l =>
  obtain⟨b,lL,ty,h1,h2,h3,h4⟩:=o
  exact⟨b,lL,ty,by rw[hθ,h1],by rw[nj b (by simp[h1,fp]),h2],h3,fun j x y hx hy=>(h4 j x y hx hy).mono h⟩
 |row e sz ver l =>
  obtain⟨xs,h1,h2,h3,h4⟩:=o
  refine⟨xs,?_,h2,fun k el hk j x hx=>?_,fun hne=>⟨fun k p hk=>have lp:c.θ.N i k=some p:=by rw[←hN];exact hk
   ((h4 hne).1 k p lp).mono (hb k (.inr ⟨Nat.ble_eq▸hne,p,lp⟩)),fun k el hk j e' kw l' hj=>?_⟩⟩
  ·rw[hθ]
   refine⟨h1.1,?_⟩
   rcases h1.2 with hn|⟨g,cap,kz,hv,hg,hh,r⟩
   ·exact .inl hn
   ·exact .inr ⟨g,cap,kz,hv,hg.mono (nj g (by simp[hv,fp])),hh.mono (nj g (by simp[hv,fp])),r⟩
  ·obtain⟨y,hy,hi⟩:=h3 k el hk j x hx
   exact⟨y,hy,hi.mono h.heap h.U⟩
  ·rcases(h4 hne).2 k el hk j e' kw l' hj with ⟨g0,g1,g,n,cap,y,g2,g3,g4⟩|⟨g,n,cap,y,ys,g1,g2,g3,g4,g5,g6,g7⟩
   ·exact .inl ⟨g0,g1,g,n,cap,y,by rw[hθ,g2],(World.cell?_of_block (nj g (by rw[g2];rfl))).trans g3,g4.mono h⟩
   refine .inr ⟨g,n,cap,y,ys,by rw[hθ,g1],?_,⟨g3.1,g3.2.imp id fun ⟨g',nX,kz,q1,q2,q3,q4⟩=>⟨g',nX,kz,q1,.lt (Gd g4),q3.mono (hb g' (.inr ⟨Nat.ble_eq▸hne,_,(g7 g' (by rw[q1];rfl)).2⟩)),q4⟩⟩,g4,g5,fun q mA hq j' x hx=>?_,fun b mO=>⟨(g7 b mO).1,by rw[hN];exact(g7 b mO).2⟩⟩
   ·rw[←g2]
    exact World.cell?_of_block (nj g (by rw[g1];rfl))
   ·obtain⟨z,hz,hi⟩:=g6 q mA hq j' x hx
    exact⟨z,hz,hi.mono h.heap h.U⟩
 |map m =>
  obtain⟨r,es,clock,h1,h2,h3,h4⟩:=o
  exact⟨r,es,clock,by rw[hθ,h1],by rw[nj r (by simp[h1,fp]),h2],h3,fun j kx e hx he=>⟨(h4 j kx e hx he).1,(h4 j kx e hx he).2.mono h.heap h.U⟩⟩
 |it s pos =>
  obtain⟨r,h1,h2⟩:=o
  exact⟨r,by rw[hθ,h1],by rw[nj r (by simp[h1,fp]),h2]⟩
theorem U1.nodf{c:Cx}{i:Nat}{b:G1}(o:U1 c i b){k:Nat}(hk:FP c.θ i b k){d:Option (List Deferred)}:c.w.heap[k]?≠some (Obj.deferred d):=by
 rcases hk with hk|⟨hn,p,hp⟩
 ·cases b with
  |bx τ l =>
   obtain⟨b,lL,ty,hθ,hb,_⟩:=o
   rw[hθ]at hk
   simp[fp]at hk
   subst hk
   rw[hb];intro e;cases e
  |row e sz ver l =>
   obtain⟨xs,ho,_⟩:=o
   rcases ho.2 with ⟨h1,_⟩|⟨g,cap,kz,h1,_,hb,_⟩
   ·rw[h1]at hk;simp[fp]at hk
   ·rw[h1]at hk
    simp[fp]at hk
    subst hk
    obtain⟨t,fz,h2,_⟩:=hb.some
    rw[h2];intro e;cases e
  |map m =>
   obtain⟨r,es,clock,hθ,hr,_⟩:=o
   rw[hθ]at hk
   simp[fp]at hk
   subst hk
   rw[hr];intro e;cases e
  |it s pos =>
   obtain⟨r,hθ,hr⟩:=o
   rw[hθ]at hk
   simp[fp]at hk
   subst hk
   rw[hr];intro e;cases e
 ·cases b with
  |row e sz ver l =>
   obtain⟨_,_,_,_,hne⟩:=o
   obtain⟨_,_,_,h2⟩:=(hne (Nat.ble_eq▸hn)).1 k p hp
   rw[h2];intro e;cases e
  |_=>cases hn
structure St where
 sl:List (Nat×AV)
 nx:Nat
 hp:Hp
def Po:List (Nat×IntKind×List Int):=[(2,.u8,[0,1,28,2,29,14,24,3,30,22,20,15,25,17,4,8,31,27,13,23,21,19,16,7,26,12,18,6,11,5,10,9]),(3,.u8,[0,1,56,2,57,49,28,3,61,58,42,50,38,29,17,4,62,47,59,36,45,43,51,22,53,39,33,30,24,18,12,5,63,55,48,27,60,41,37,16,46,35,44,21,52,32,23,11,54,26,40,15,34,20,31,10,25,14,19,9,13,8,7,6]),(1,.u64,[1,10,100,1000,10000,100000,1000000,10000000,100000000,1000000000,10000000000,100000000000,1000000000000,10000000000000,100000000000000,1000000000000000,10000000000000000,100000000000000000,1000000000000000000,10000000000000000000])]
def fg:List Nat:=[7,6]
def fh:List Nat:=[0]
structure w7(U:Nat→Prop)(w:World):Prop where
 tab:∀g k l,look Po g=some (k,l)→¬U g∧∃t fr,w.heap[g]?=some (.cells (l.map (Value.int k)).toArray t fr)
 err:∀g,g∈fg→¬U g∧∃te pe t fr,w.heap[g]?=some (.cells #[.iface te pe] t fr)
 num:∀g,g∈fh→¬U g∧∃m t fr,w.heap[g]?=some (.cells #[.int .i64 m] t fr)
theorem w7.mono{U U':Nat→Prop}{w w':World}(h:w7 U w)(hU:∀k,k<w.heap.size→U' k→U k)(hh:∀k,k<w.heap.size→¬U k→w'.heap[k]?=w.heap[k]?):w7 U' w':=by
 refine⟨fun g k l hg=>?_,fun g hg=>?_,fun g hg=>?_⟩
 ·obtain⟨h1,t,fr,h2⟩:=h.tab g k l hg
  have kj:g<w.heap.size:=(Array.getElem?_eq_some_iff.1 h2).1
  exact⟨fun hu=>h1 (hU g kj hu),t,fr,by rw[hh g kj h1];exact h2⟩
 ·obtain⟨h1,te,pe,t,fr,h2⟩:=h.err g hg
  have kj:g<w.heap.size:=(Array.getElem?_eq_some_iff.1 h2).1
  exact⟨fun hu=>h1 (hU g kj hu),te,pe,t,fr,by rw[hh g kj h1];exact h2⟩
 ·obtain⟨h1,m,t,fr,h2⟩:=h.num g hg
  have kj:g<w.heap.size:=(Array.getElem?_eq_some_iff.1 h2).1
  exact⟨fun hu=>h1 (hU g kj hu),m,t,fr,by rw[hh g kj h1];exact h2⟩
theorem w7.cell{U:Nat→Prop}{w:World}(h:w7 U w){g:Nat}{k:IntKind}{l:List Int}(hg:look Po g=some (k,l)){j:Nat}{v:Int}(hj:l[j]?=some v):w.cell? ⟨g,j,none⟩=some (.int k v):=by
 obtain⟨_,t,fr,h2⟩:=h.tab g k l hg
 unfold World.cell?
 simp[h2,hj]
structure Env where
 w0:World
 X:Nat→Prop
 O:Nat→Prop
 θ0:Nat→Value
 n0:Nat
 tab:w7 (fun k=>X k∨O k) w0
 /-- whether the function ranges over functions -/
 rf:Bool
structure Fr(E:Env)(w:World):Prop where
 os:w.os=E.w0.os
 tape:w.tape=E.w0.tape
 output:w.output=E.w0.output
 size:E.w0.heap.size≤w.heap.size
 block:∀k,k<E.w0.heap.size→¬E.O k→w.heap[k]?=E.w0.heap[k]?
abbrev jE(b:Nat):Deferred:={ target:=.collected b,args:=#[] }
def Tg(E:Env)(ds:List Deferred)(w:World):Prop:=(E.rf=false→ds=[])∧∃bs:List Nat,ds=bs.map jE∧bs.Nodup∧∀b∈bs,E.w0.heap.size≤b∧w.heap[b]?=some (Obj.deferred (some []))
theorem Tg.nil{E:Env}{w:World}:Tg E [] w:=⟨fun _=>rfl,[],rfl,List.nodup_nil,fun b h=>by cases h⟩
theorem Tg.mono{E:Env}{ds:List Deferred}{w w':World}(h:Tg E ds w)(hw:∀b:Nat,w.heap[b]?=some (Obj.deferred (some []))→w'.heap[b]?=w.heap[b]?):Tg E ds w':=by
 obtain⟨h1,bs,h2,h3,h4⟩:=h
 exact⟨h1,bs,h2,h3,fun b hb=>⟨(h4 b hb).1,(hw b (h4 b hb).2).trans (h4 b hb).2⟩⟩
theorem PU{w:World}{b:Nat}{o:Obj}(h:w.heap[b]?=some o):b<w.heap.size:=(Array.getElem?_eq_some_iff.1 h).1
def cx(E:Env)(θ:Th)(σ:St)(w:World):Cx:={ θ:=θ,nx:=σ.nx,hp:=σ.hp,X:=E.X,w:=w }
structure U3(E:Env)(n:Nat)(θ:Th)(σ:St)(a:Act)(w:World):Prop where
 size:a.tmps.size=n
 defers:Tg E a.defers w
 fr:Fr E w
 slots:∀s x,look σ.sl s=some x→G2 (cx E θ σ w) x (a.tmps.getD s undef)
 owns:∀i b,A7 σ.hp i=some b→i<σ.nx∧U1 (cx E θ σ w) i b
 apart:∀i j b b' k,A7 σ.hp i=some b→A7 σ.hp j=some b'→FP θ i b k→FP θ j b' k→i=j
 mine:∀i b k,A7 σ.hp i=some b→FP θ i b k→¬E.X k∧(E.O k∨E.w0.heap.size≤k)
 X:∀k,E.X k→k<E.w0.heap.size
 base:E.n0≤σ.nx∧∀i,i<E.n0→θ i=E.θ0 i∨(∃x n k,E.θ0 i=.slice x n k)∧¬Kept σ.hp i
def BS(E:Env)(n:Nat)(σ:St)(a:Act)(w:World):Prop:=∃θ,U3 E n θ σ a w
def w8:Value→AV
 |.string s=>.str s.data.toList
 |x=>.v x
theorem Gf{U:Nat→Prop}{w:World}(x:Value):Im U w (w8 x) x:=by
 cases x with
 |string s=>exact(by cases s;exact .str _)
 |_=>exact .v _
def Up(g:Nat):AV:=match look Po g with
 |some (k,l)=>.iptr (l.map fun z=>.v (.int k z))
 |none=>.v (.pointer (some ⟨g,0,none⟩))
def H1(σ:St):Operand→Option AV
 |.tmp t=>look σ.sl t
 |.const c=>some (w8 c)
 |.global g=>some (Up g)
 |.func f=>some (.v (.func (.func f) #[] #[]))
theorem cr{U:Nat→Prop}{w:World}(h:w7 U w)(g:Nat):Im U w (Up g) (.pointer (some ⟨g,0,none⟩)):=by
 unfold Up
 cases hg:look Po g with
 |none=>exact .v _
 |some p =>
  obtain⟨k,l⟩:=p
  refine .iptr _ _ (fun j=>.int k (l.getD j 0)) (fun _=>(h.tab g k l hg).1) (fun j hj=>?_) (fun j x hx=>?_)
  ·rw[List.length_map]at hj
   have:=h.cell hg (j:=j) (List.getElem?_eq_getElem hj)
   rw[List.getD_eq_getElem?_getD,List.getElem?_eq_getElem hj]
   by_cases mc:j=0
   ·subst mc;simpa [Addr.add]using this
   ·simpa [Addr.add,mc]using this
  ·rw[List.getElem?_map,Option.map_eq_some_iff]at hx
   obtain⟨v,hv,rfl⟩:=hx
   rw[List.getD_eq_getElem?_getD,hv]
   exact .v _
theorem U3.tabU{E:Env}{n:Nat}{θ:Th}{σ:St}{a:Act}{w:World}(h:U3 E n θ σ a w):w7 (cx E θ σ w).U w:=by
 refine E.tab.mono (fun k hk hu=>?_) (fun k hk hu=>h.fr.block k hk fun ho=>hu (.inr ho))
 rcases hu with hx|⟨i,b,hi,hb⟩
 ·exact .inl hx
 ·rcases(h.mine i b k hi hb).2 with ho|ho
  ·exact .inr ho
  ·omega
theorem U3.ev{E:Env}{n:Nat}{θ:Th}{σ:St}{a:Act}{w:World}(h:U3 E n θ σ a w){x:Operand}{av:AV}(hx:H1 σ x=some av):G2 (cx E θ σ w) av (a.eval x):=by
 cases x with
 |tmp t=>exact h.slots t av hx
 |const c=>simp[H1]at hx;subst hx;exact .im (Gf c)
 |global g=>simp[H1]at hx;subst hx;exact .im (cr h.tabU g)
 |func f=>simp[H1]at hx;subst hx;exact .im (.v _)
theorem G2.val{c:Cx}{x y:Value}(h:G2 c (.v x) y):y=x:=by
 cases h with
 |im h=>cases h;rfl
theorem G2.sval{c:Cx}{l:List UInt8}{y:Value}(h:G2 c (.str l) y):y=.string ⟨l.toArray⟩:=by
 cases h with
 |im h=>cases h;rfl
def St.put(σ:St)(d:Nat)(x:AV):St:={ σ with sl:=(d,x)::σ.sl }
theorem U3.put{E:Env}{n:Nat}{θ:Th}{σ:St}{a:Act}{w:World}(h:U3 E n θ σ a w){d:Nat}(hd:d<n){x:AV}{v:Value}(hr:G2 (cx E θ σ w) x v):
  U3 E n θ (σ.put d x) (a.put (some d) v) w where
 size:=by simp[Act.put,h.size]
 defers:=h.defers
 fr:=h.fr
 slots:=by
  intro s y hs
  simp only[St.put,I1]at hs
  by_cases e:d=s
  ·subst e
   simp at hs
   subst hs
   have:(a.put (some d) v).tmps.getD d undef=v:=by simp[Act.put,Array.getD,h.size,hd]
   rw[this]
   exact hr
  ·rw[if_neg e]at hs
   have:(a.put (some d) v).tmps.getD s undef=a.tmps.getD s undef:=by
    simp[Act.put,Array.getD_eq_getD_getElem?,Array.getElem?_setIfInBounds_ne e]
   rw[this]
   exact h.slots s y hs
 owns:=h.owns
 apart:=h.apart
 mine:=h.mine
 X:=h.X
 base:=h.base
def B5(P:Program)(E:Env)(n:Nat)(ops:Array Oper)(l:List Oper)(σ:St)(K:St→Prop):Prop :=
 ∀a w,BS E n σ a w→wpList P ops (fun e a' w'=>e=.normal∧∃σ',K σ'∧BS E n σ' a' w') l a w
def E8(P:Program)(E:Env)(n:Nat)(c:Code)(σ:St)(Q:Exit→St→Prop):Prop :=
 ∀a w,BS E n σ a w→c.wp P (fun e a' w'=>∃σ',Q e σ'∧BS E n σ' a' w') a w
section rules
variable {P:Program} {E:Env} {n:Nat} {ops:Array Oper} {rest:List Oper} {σ:St} {K:St→Prop} {Q:Exit→St→Prop}
theorem Yt(h:K σ):B5 P E n ops [] σ K:=fun _ _ hs=>⟨rfl,σ,h,hs⟩
variable {d:Nat} {ty:TypeId} {pos:String} {after:Array Edge} {x y:Operand}
theorem NE{op:Op}{j dj dd:Nat}{g:Bool}(hj:(ops[j]?).bind (·.dst)=some dj)(hb:look σ.sl dj=some (.v (.bool g)))
  (k:B5 P E n ops (⟨some dd,op,ty,pos,after,none⟩::rest) σ K):B5 P E n ops (⟨some dd,op,ty,pos,after,some (j,g)⟩::rest) σ K:=by
 intro a w hs
 have om:=hs
 obtain⟨θ,hs⟩:=hs
 have hv:a.tmps.getD dj undef=.bool g:=(hs.slots dj _ hb).val
 have kj:dj<a.tmps.size:=by
  rcases Nat.lt_or_ge dj a.tmps.size with h|h
  ·exact h
  ·rw[Array.getD_eq_getD_getElem?,Array.getElem?_eq_none h]at hv;cases hv
 have hy:yielded ops a.tmps j=some g:=by
  rw[Array.getD_eq_getD_getElem?,Array.getElem?_eq_getElem kj]at hv
  simp at hv
  simp[yielded,hj,kj,hv]
 have hh:=k a w om
 unfold wpList at hh ⊢
 rw[if_pos (by simp[Region.wanted])]at hh
 rw[if_pos (by simp[Region.wanted,hy])]
 exact hh
def B3:Value→Bool→Bool
 |.bool b,g=>b != g
 |_,_=>true
theorem IG{op:Op}{j dj dd:Nat}{g:Bool}{u:Value}(hj:(ops[j]?).bind (·.dst)=some dj)(hb:look σ.sl dj=some (.v u))(oR:B3 u g=true)(ov:Nat.blt dd n=true)
  (k:B5 P E n ops rest (σ.put dd (.v undef)) K):B5 P E n ops (⟨some dd,op,ty,pos,after,some (j,g)⟩::rest) σ K:=by
 have hu:u≠.bool g:=by rintro rfl;simp[B3]at oR
 intro a w hs
 obtain⟨θ,hs⟩:=hs
 have hv:a.tmps.getD dj undef=u:=(hs.slots dj _ hb).val
 have hy:yielded ops a.tmps j≠some g:=by
  intro e
  simp only[yielded,hj,Option.bind_some]at e
  by_cases kj:dj<a.tmps.size
  ·rw[Array.getD_eq_getD_getElem?,Array.getElem?_eq_getElem kj]at hv
   simp at hv
   rw[Array.getElem?_eq_getElem kj]at e
   rw[hv]at e
   split at e
   ·rename_i b mY
    cases mY
    cases e
    exact hu rfl
   ·cases e
  ·rw[Array.getElem?_eq_none (by omega)]at e
   cases e
 unfold wpList
 have hw:¬Region.wanted (⟨some dd,op,ty,pos,after,some (j,g)⟩:Oper) (yielded ops a.tmps)=true:=by simpa [Region.wanted]using hy
 rw[if_neg hw]
 exact k _ _ ⟨θ,hs.put (Nat.blt_eq▸ov) (.im (.v _))⟩
theorem Li{l:List Oper}{dj:Nat}{b c:Bool}(hb:look σ.sl dj=some (.v (.bool b)))(h:b=c)(k:B5 P E n ops l (σ.put dj (.v (.bool c))) K):B5 P E n ops l σ K:=by
 intro a w ⟨θ,hs⟩
 subst h
 refine k a w ⟨θ,hs.size,hs.defers,hs.fr,fun s x hx=>?_,hs.owns,hs.apart,hs.mine,hs.X,hs.base⟩
 simp only[St.put,I1]at hx
 by_cases e:dj=s
 ·subst e
  rw[if_pos rfl]at hx
  cases hx
  exact hs.slots dj _ hb
 ·rw[if_neg e]at hx
  exact hs.slots s x hx
theorem Pp{op:Op}{j dj dd:Nat}{g b:Bool}(hj:(ops[j]?).bind (·.dst)=some dj)(hb:look σ.sl dj=some (.v (.bool b)))(ov:Nat.blt dd n=true)
  (ht:b=g→B5 P E n ops (⟨some dd,op,ty,pos,after,none⟩::rest) (σ.put dj (.v (.bool g))) K)
  (hf:b=!g→B5 P E n ops rest ((σ.put dj (.v (.bool !g))).put dd (.v undef)) K) :
  B5 P E n ops (⟨some dd,op,ty,pos,after,some (j,g)⟩::rest) σ K:=by
 by_cases h:b=g
 ·refine Li hb h (NE hj ?_ (ht h))
  simp[St.put,I1]
 ·have h':b=!g:=by cases b<;>cases g<;>simp_all
  refine Li hb h' (IG (u:=.bool !g) hj ?_ (by cases g<;>rfl) ov (hf h'))
  simp[St.put,I1]
def PX(K:St→Prop)(Q:Exit→St→Prop):Exit→St→Prop
 |.normal,σ=>K σ
 |e,σ=>Q e σ
def Lj(id:Nat)(Q:Exit→St→Prop):Exit→St→Prop
 |.exit i,σ=>cond (Nat.beq i id) (Q .normal σ) (Q (.exit i) σ)
 |e,σ=>Q e σ
theorem cu{c1 c2:Code}(h:E8 P E n c1 σ (PX (fun σ'=>E8 P E n c2 σ' Q) Q)):E8 P E n (.seq c1 c2) σ Q:=by
 intro a w hs
 refine wp_seq (wp_mono (h a w hs) ?_)
 rintro e a w ⟨σ',hq,mE⟩
 cases e with
 |normal=>exact hq a w mE
 |_=>exact⟨σ',hq,mE⟩
theorem Uq{id:Nat}{l:List Oper}(hl:ops.toList=l)(h:B5 P E n ops l σ (fun σ'=>Q .normal σ')):E8 P E n (.region id ops false) σ Q:=by
 intro a w hs
 subst hl
 have hw:=h a w hs
 refine wp_mono (wp_region_list hw) ?_
 rintro e a w ⟨rfl,σ',hq,mE⟩
 exact⟨σ',hq,mE⟩
theorem Yu(h:Q .normal σ):E8 P E n .skip σ Q:=fun _ _ hs=>wp_skip ⟨σ,h,hs⟩
theorem cy(h:Q .ret σ):E8 P E n .ret σ Q:=fun _ _ hs=>wp_ret ⟨σ,h,hs⟩
theorem Yv{id:Nat}(h:Q (.exit id) σ):E8 P E n (.exit id) σ Q:=fun _ _ hs=>wp_exit ⟨σ,h,hs⟩
theorem We{id:Nat}{c:Code}(h:E8 P E n c σ (Lj id Q)):E8 P E n (.block id c) σ Q:=by
 intro a w hs
 refine wp_block (wp_mono (h a w hs) ?_)
 rintro e a w ⟨σ',hq,mE⟩
 cases e with
 |exit i =>
  simp only[Exit.inBlock]
  by_cases hi:i=id
  ·subst hi;simp[Lj]at hq;rw[if_pos rfl];exact⟨σ',hq,mE⟩
  ·have:Nat.beq i id=false:=by
    cases hb:Nat.beq i id
    ·rfl
    ·exact absurd (Nat.eq_of_beq_eq_true hb) hi
   simp[Lj,this]at hq;rw[if_neg hi];exact⟨σ',hq,mE⟩
 |_=>exact⟨σ',hq,mE⟩
theorem Ky{c:Operand}{t f:Code}{b:Bool}(hc:H1 σ c=some (.v (.bool b)))(ht:b=true→E8 P E n t σ Q)(hf:b=false→E8 P E n f σ Q):E8 P E n (.cond c t f) σ Q:=by
 intro a w hs
 have om:=hs
 obtain⟨θ,hs⟩:=hs
 exact wp_cond_split (hs.ev hc).val (fun e=>ht e a w om) (fun e=>hf e a w om)
theorem Ur{c:Operand}{t f:Code}(hc:H1 σ c=some (.v (.bool true)))(ht:E8 P E n t σ Q):E8 P E n (.cond c t f) σ Q:=Ky hc (fun _=>ht) (fun e=>by cases e)
theorem Us{c:Operand}{t f:Code}(hc:H1 σ c=some (.v (.bool false)))(hf:E8 P E n f σ Q):E8 P E n (.cond c t f) σ Q:=Ky hc (fun e=>by cases e) (fun _=>hf)
theorem OC{c:Code}{dj:Nat}{b b':Bool}(hb:look σ.sl dj=some (.v (.bool b)))(h:b=b')(k:E8 P E n c (σ.put dj (.v (.bool b'))) Q):E8 P E n c σ Q:=by
 intro a w ⟨θ,hs⟩
 subst h
 refine k a w ⟨θ,hs.size,hs.defers,hs.fr,fun s x hx=>?_,hs.owns,hs.apart,hs.mine,hs.X,hs.base⟩
 simp only[St.put,I1]at hx
 by_cases e:dj=s
 ·subst e
  rw[if_pos rfl]at hx
  cases hx
  exact hs.slots dj _ hb
 ·rw[if_neg e]at hx
  exact hs.slots s x hx
theorem Ut{t f:Code}{tc:Nat}{b:Bool}(hc:look σ.sl tc=some (.v (.bool b)))(ht:b=true→E8 P E n t (σ.put tc (.v (.bool true))) Q)(hf:b=false→E8 P E n f (σ.put tc (.v (.bool false))) Q):E8 P E n (.cond (.tmp tc) t f) σ Q :=
 Ky (c:=.tmp tc) hc (fun e=>OC hc e (ht e)) (fun e=>OC hc e (hf e))
def St.le(E:Env)(n:Nat)(σ σ':St):Prop:=∀a w,BS E n σ a w→BS E n σ' a w
theorem El{c:Code}{σ':St}(h:St.le E n σ σ')(k:E8 P E n c σ' Q):E8 P E n c σ Q:=fun a w hs=>k a w (h a w hs)
theorem Yw{ι:Type}{c:Code}(S:ι→St)(I:ι→Prop)(m:ι→Nat)(x0:ι)(hI:I x0)(h0:St.le E n σ (S x0))
  (h:∀x,I x→E8 P E n c (S x) (PX (fun σ'=>∃y,I y∧m y<m x∧St.le E n σ' (S y)) Q)):E8 P E n (.loop c) σ Q:=by
 intro a w hs
 refine wp_loop_ghost (fun k a w=>∃x,m x=k∧I x∧BS E n (S x) a w) (m x0) ⟨x0,rfl,hI,h0 a w hs⟩ ?_
 rintro k a w ⟨x,rfl,xM,hx⟩
 refine wp_mono (h x xM a w hx) ?_
 rintro e a w ⟨σ',hq,mE⟩
 cases e with
 |normal =>
  obtain⟨y,xJ,hy,nA⟩:=hq
  exact⟨m y,hy,y,rfl,xJ,nA a w mE⟩
 |_=>exact⟨σ',hq,mE⟩
end rules
def upd(θ:Th)(i:Nat)(v:Value):Th:=⟨fun j=>if j=i then v else θ j,θ.N⟩
theorem PY(θ:Th)(i:Nat)(v:Value):(upd θ i v).N=θ.N:=rfl
theorem G8(θ:Th)(i:Nat)(v:Value):upd θ i v i=v:=by simp[upd]
theorem S6(θ:Th){i j:Nat}(v:Value)(h:j≠i):upd θ i v j=θ j:=by simp[upd,h]
def St.new(σ:St)(b:G1):St:={ sl:=σ.sl,nx:=σ.nx+1,hp:=(σ.nx,some b)::σ.hp }
def St.set(σ:St)(i:Nat)(b:G1):St:={ σ with hp:=(i,some b)::σ.hp }
section steps
variable {E:Env} {n:Nat} {θ:Th} {σ:St} {a:Act} {w w':World}
theorem Fr.below(h:Fr E w)(hb:Below w.heap.size w w'):Fr E w' :=
 ⟨hb.os.trans h.os,hb.tape.trans h.tape,hb.output.trans h.output,Nat.le_trans h.size hb.size,fun k hk ho=>(hb.block k (Nat.lt_of_lt_of_le hk h.size)).trans (h.block k hk ho)⟩
theorem U3.below(h:U3 E n θ σ a w)(hb:Below w.heap.size w w'):U3 E n θ σ a w':=by
 have le:(cx E θ σ w).le (cx E θ σ w'):=⟨Nat.le_refl _,fun i hi=>.inl rfl,fun i hi e' kw v' l' hl=>⟨e',v',l',hl,.inr ⟨rfl,rfl,rfl⟩⟩,hb.size,fun k hk _=>hb.block k hk,fun k hk hu=>hu⟩
 exact⟨h.size,h.defers.mono fun b hd=>hb.block b (PU hd),h.fr.below hb,fun s x hs=>(h.slots s x hs).mono le,fun i b hi=>⟨(h.owns i b hi).1,(h.owns i b hi).2.mono le rfl (fun _=>rfl) fun k hk=>hb.block k ((h.owns i b hi).2.lt hk)⟩,h.apart,h.mine,h.X,h.base⟩
theorem U3.grow(h:U3 E n θ σ a w)(hb:Below w.heap.size w w')(v:Value)(b:G1)(hf:∀k,fp v=some k→w.heap.size≤k)
  (ho:(cx E θ σ w).le (cx E (upd θ σ.nx v) (σ.new b) w')→U1 (cx E (upd θ σ.nx v) (σ.new b) w') σ.nx b) (uQ:BZ b=false:=by rfl):U3 E n (upd θ σ.nx v) (σ.new b) a w':=by
 have lR:∀i,A7 (σ.new b).hp i=if σ.nx=i then some b else A7 σ.hp i:=fun i=>by simp[St.new,J3]
 have oX:∀{i:Nat} {b':G1} {k:Nat},i≠σ.nx→FP (upd θ σ.nx v) i b' k→FP θ i b' k:=fun hne h=>by
  unfold FP at h ⊢
  rwa[S6 _ _ hne,PY]at h
 have uK:∀{k:Nat},FP (upd θ σ.nx v) σ.nx b k→fp v=some k:=fun h=>by
  rcases h with h|⟨h,_⟩
  ·rwa[G8]at h
  ·rw[uQ]at h;cases h
 have le:(cx E θ σ w).le (cx E (upd θ σ.nx v) (σ.new b) w'):=by
  refine⟨Nat.le_succ _,fun i hi=>.inl (S6 _ _ (Nat.ne_of_lt hi)),fun i hi e' kw v' l' hl=>?_,hb.size,fun k hk _=>hb.block k hk,fun k hk hu=>?_⟩
  ·have ln:i<σ.nx:=hi
   refine⟨e',v',l',?_,.inr ⟨rfl,rfl,S6 _ _ (Nat.ne_of_lt hi)⟩⟩
   have:=lR i
   rw[if_neg (by omega)]at this
   exact this▸hl
  ·rcases hu with hu|⟨i,b',hi,lW⟩
   ·exact .inl hu
   ·have lc:=lR i
    by_cases e:σ.nx=i
    ·subst e
     rw[if_pos rfl]at lc
     have mO:b=b':=by
      have:some b=some b':=lc.symm.trans hi
      exact Option.some.inj this
     subst mO
     have lp:k<w.heap.size:=hk
     have:=hf k (uK lW)
     omega
    ·rw[if_neg e]at lc
     exact .inr ⟨i,b',lc▸hi,oX (Ne.symm e) lW⟩
 refine⟨h.size,h.defers.mono fun b hd=>hb.block b (PU hd),h.fr.below hb,fun s x hs=>(h.slots s x hs).mono le,fun i b' hi=>?_,fun i j b1 b2 k hi hj rX sa=>?_,fun i b' k hi hk=>?_,h.X,⟨Nat.le_succ_of_le h.base.1,fun i hi=>by
  have hne:¬σ.nx=i:=by have:=h.base.1;omega
  rw[S6 _ _ (by omega)]
  refine(h.base.2 i hi).imp id fun ⟨h1,h2⟩=>⟨h1,fun ⟨e,sz,v,l,hl,hk⟩=>h2 ⟨e,sz,v,l,?_,hk⟩⟩
  rw[lR,if_neg hne]at hl;exact hl⟩⟩
 ·rw[lR]at hi
  by_cases e:σ.nx=i
  ·subst e
   rw[if_pos rfl]at hi
   cases hi
   exact⟨Nat.lt_succ_self _,ho le⟩
  ·rw[if_neg e]at hi
   obtain⟨h1,h2⟩:=h.owns i b' hi
   exact⟨Nat.lt_succ_of_lt h1,h2.mono le (S6 _ _ (Ne.symm e)) (fun _=>rfl) fun k hk=>hb.block k (h2.lt hk)⟩
 ·rw[lR]at hi hj
  by_cases ei:σ.nx=i<;>by_cases ej:σ.nx=j
  ·omega
  ·subst ei
   rw[if_neg ej]at hj
   rw[if_pos rfl]at hi
   cases hi
   have h1:=hf k (uK rX)
   have h2:k<w.heap.size:=(h.owns j b2 hj).2.lt (oX (Ne.symm ej) sa)
   omega
  ·subst ej
   rw[if_neg ei]at hi
   rw[if_pos rfl]at hj
   cases hj
   have h1:=hf k (uK sa)
   have h2:k<w.heap.size:=(h.owns i b1 hi).2.lt (oX (Ne.symm ei) rX)
   omega
  ·rw[if_neg ei]at hi
   rw[if_neg ej]at hj
   exact h.apart i j b1 b2 k hi hj (oX (Ne.symm ei) rX) (oX (Ne.symm ej) sa)
 ·rw[lR]at hi
  by_cases ei:σ.nx=i
  ·subst ei
   rw[if_pos rfl]at hi
   cases hi
   have h1:=hf k (uK hk)
   have h2:=h.fr.size
   refine⟨fun hx=>?_,.inr (by omega)⟩
   have:=h.X k hx
   omega
  ·rw[if_neg ei]at hi
   exact h.mine i b' k hi (oX (Ne.symm ei) hk)
def cG(v v':Value):G1→G1→Prop
 |b,.row _ sz lQ l'=>(∃x n c,v=.slice x n c)∧∃e ver l,b=.row e sz ver l∧(ver<lQ∨(ver=lQ∧l.length=l'.length∧v'=v))
 |_,.bx ..=>v'=v
 |_,.map _=>v'=v
 |_,.it ..=>v'=v
theorem U3.turn(h:U3 E n θ σ a w){i:Nat}{b b':G1}{v':Value}(hi:A7 σ.hp i=some b)(tV:w'.os=w.os)(oQ:w'.tape=w.tape)(ph:w'.output=w.output)
  (lP:w.heap.size≤w'.heap.size) (hh:∀k,k<w.heap.size→fp (θ i)≠some k→w'.heap[k]?=w.heap[k]?) (hf:∀k,fp v'=some k→fp (θ i)=some k∨w.heap.size≤k)
  (ht:cG (θ i) v' b b')
  (ho:(cx E θ σ w).le (cx E (upd θ i v') (σ.set i b') w')→U1 (cx E (upd θ i v') (σ.set i b') w') i b')
  (hkp:∀e sz v l,b'=.row e sz v l→BR e=true→i<E.n0→v'=θ i∧∃e0 qk v0 l0,b=.row e0 qk v0 l0∧BR e0=true:=by intro _ _ _ _ h hk _;cases h<;>exact⟨rfl,_,_,_,_,rfl,hk⟩)
  (hne:BZ b'=true→BZ b=true∨∀k,θ.N i k=none:=by intro h;first|exact .inl h|cases h):U3 E n (upd θ i v') (σ.set i b') a w':=by
 have lR:∀j,A7 (σ.set i b').hp j=if i=j then some b' else A7 σ.hp j:=fun j=>by simp[St.set,J3]
 have iw:∀k,fp (θ i)=some k→(cx E θ σ w).own k:=fun k hk=>⟨i,b,hi,.inl hk⟩
 have oX:∀{j:Nat} {bj:G1} {k:Nat},j≠i→FP (upd θ i v') j bj k→FP θ j bj k:=fun hne h=>by
  unfold FP at h ⊢
  rwa[S6 _ _ hne,PY]at h
 have uS:∀{k:Nat},FP (upd θ i v') i b' k→FP θ i b k∨w.heap.size≤k:=fun {k} h=>by
  rcases h with h|⟨h,p,hp⟩
  ·rw[G8]at h
   exact(hf k h).imp .inl id
  ·rcases hne h with h2|h2
   ·exact .inl (.inr ⟨h2,p,hp⟩)
   ·rw[PY,h2 k]at hp;cases hp
 have ow:∀{bj:G1},A7 (σ.set i b').hp i=some bj→bj=b':=fun {bj} hj=>by
  rw[lR,if_pos rfl]at hj
  exact(Option.some.inj hj).symm
 have le:(cx E θ σ w).le (cx E (upd θ i v') (σ.set i b') w'):=by
  refine⟨Nat.le_refl _,fun j hj=>?_,fun j hj e' kw vK l' hl=>?_,lP,fun k hk hu=>?_,fun k hk hu=>?_⟩
  ·by_cases e:j=i
   ·subst e
    cases b' with
    |bx τ l=>exact .inl (by simp only[cx,G8];exact ht)
    |row e sz ver l=>exact .inr ht.1
    |map m=>exact .inl (by simp only[cx,G8];exact ht)
    |it s pos=>exact .inl (by simp only[cx,G8];exact ht)
   ·exact .inl (S6 _ _ e)
  ·have lk:=lR j
   by_cases e:i=j
   ·subst e
    rw[if_pos rfl]at lk
    have:b'=.row e' kw vK l':=by
     have:some b'=some (.row e' kw vK l'):=lk.symm.trans hl
     exact Option.some.inj this
    subst this
    obtain⟨_,e0,v0,l0,rfl,hv⟩:=ht
    refine⟨e0,v0,l0,hi,?_⟩
    rcases hv with hv|⟨hv,pv,xX⟩
    ·exact .inl hv
    ·exact .inr ⟨hv,pv,by simp only[cx,G8];exact xX⟩
   ·rw[if_neg e]at lk
    exact⟨e',vK,l',lk▸hl,.inr ⟨rfl,rfl,S6 _ _ (Ne.symm e)⟩⟩
  ·exact hh k hk fun e=>hu (.inr (iw k e))
  ·rcases hu with hu|⟨j,bj,hj,lW⟩
   ·exact .inl hu
   ·have lk:=lR j
    by_cases e:i=j
    ·subst e
     have ll:=ow hj
     subst ll
     rcases uS lW with h1|h1
     ·exact .inr ⟨i,b,hi,h1⟩
     ·have lp:k<w.heap.size:=hk
      omega
    ·rw[if_neg e]at lk
     exact .inr ⟨j,bj,lk▸hj,oX (Ne.symm e) lW⟩
 have sV:Fr E w':=by
  refine⟨tV.trans h.fr.os,oQ.trans h.fr.tape,ph.trans h.fr.output,Nat.le_trans h.fr.size lP,fun k hk hO=>?_⟩
  have h1:=h.fr.size
  rw[hh k (by omega) fun e=>?_]
  ·exact h.fr.block k hk hO
  ·rcases(h.mine i b k hi (.inl e)).2 with h2|h2
   ·exact hO h2
   ·omega
 refine⟨h.size,h.defers.mono fun k hd=>hh k (PU hd) fun hk=>(h.owns i b hi).2.nodf (.inl hk) hd,sV,fun s x hs=>(h.slots s x hs).mono le,fun j bj hj=>?_,fun j1 j2 b1 b2 k h1 h2 nv lp=>?_,fun j bj k hj hk=>?_,h.X,⟨h.base.1,fun j hj=>?_⟩⟩
 ·rw[lR]at hj
  by_cases e:i=j
  ·subst e
   rw[if_pos rfl]at hj
   cases hj
   exact⟨(h.owns i b hi).1,ho le⟩
  ·rw[if_neg e]at hj
   obtain⟨h1,h2⟩:=h.owns j bj hj
   refine⟨h1,h2.mono le (S6 _ _ (Ne.symm e)) (fun _=>rfl) fun k hk=>hh k (h2.lt hk) fun e2=>e (h.apart i j b bj k hi hj (.inl e2) hk)⟩
 ·by_cases e1:i=j1<;>by_cases e2:i=j2
  ·omega
  ·subst e1
   have me:=ow h1
   subst me
   rw[lR,if_neg e2]at h2
   rcases uS nv with h3|h3
   ·exact h.apart i j2 b b2 k hi h2 h3 (oX (Ne.symm e2) lp)
   ·have h4:k<w.heap.size:=(h.owns j2 b2 h2).2.lt (oX (Ne.symm e2) lp)
    omega
  ·subst e2
   have ll:=ow h2
   subst ll
   rw[lR,if_neg e1]at h1
   rcases uS lp with h3|h3
   ·exact h.apart j1 i b1 b k h1 hi (oX (Ne.symm e1) nv) h3
   ·have h4:k<w.heap.size:=(h.owns j1 b1 h1).2.lt (oX (Ne.symm e1) nv)
    omega
  ·rw[lR,if_neg e1]at h1
   rw[lR,if_neg e2]at h2
   exact h.apart j1 j2 b1 b2 k h1 h2 (oX (Ne.symm e1) nv) (oX (Ne.symm e2) lp)
 ·by_cases e:i=j
  ·subst e
   have me:=ow hj
   subst me
   rcases uS hk with h3|h3
   ·exact h.mine i b k hi h3
   ·have h4:=h.fr.size
    refine⟨fun hx=>?_,.inr (by omega)⟩
    have:=h.X k hx
    omega
  ·rw[lR,if_neg e]at hj
   exact h.mine j bj k hj (oX (Ne.symm e) hk)
 ·by_cases e:j=i
  ·subst e
   rw[G8]
   have hv:v'=θ j∨∃x n k,θ j=.slice x n k:=by
    cases b' with
    |bx τ l=>exact .inl ht
    |row e sz ver l=>exact .inr ht.1
    |map m=>exact .inl ht
    |it s pos=>exact .inl ht
   have lp:Kept (σ.set j b').hp j→v'=θ j∧Kept σ.hp j:=fun ⟨e,sz,v,l,hl,hk⟩=>by
    rw[lR,if_pos rfl]at hl
    obtain⟨h1,e0,qk,v0,l0,rfl,h3⟩:=hkp e sz v l (Option.some.inj hl) hk hj
    exact⟨h1,e0,qk,v0,l0,hi,h3⟩
   by_cases oG:Kept (σ.set j b').hp j
   ·obtain⟨h1,h2⟩:=lp oG
    rw[h1]
    rcases h.base.2 j hj with e2|⟨_,e2⟩
    ·exact .inl e2
    ·exact absurd h2 e2
   ·rcases hv with hv|⟨x,m,k,hv⟩
    ·rcases h.base.2 j hj with e2|⟨e2,_⟩
     ·exact .inl (hv.trans e2)
     ·exact .inr ⟨e2,oG⟩
    ·rcases h.base.2 j hj with e2|⟨e2,_⟩
     ·exact .inr ⟨⟨x,m,k,by rw[←e2,hv]⟩,oG⟩
     ·exact .inr ⟨e2,oG⟩
  ·rw[S6 _ _ e]
   refine(h.base.2 j hj).imp id fun ⟨h1,h2⟩=>⟨h1,fun ⟨e',sz,v,l,hl,hk⟩=>h2 ⟨e',sz,v,l,?_,hk⟩⟩
   rw[lR,if_neg (Ne.symm e)]at hl;exact hl
theorem n9{e sz v:Nat}{l:List (List AV)}(h:e<y6):BZ (.row e sz v l)=false:=by
 cases hb:BZ (.row e sz v l)with
 |false=>rfl
 |true=>have:y6≤e:=Nat.ble_eq▸hb;omega
end steps
class K4(P:Program)(T:Nat)(l:outParam (List Value)):Prop where
 out:∃i z,P.info? T=some i∧i.zero=some z∧z.cells=l.toArray
class K1(P:Program)(T:Nat)(agg:outParam Bool)(sz:outParam Nat):Prop where
 out:∃i d,P.info? T=some i∧P.underlying T=some d∧i.size=sz∧(match d with|.struct _|.array _ _=>true|_=>false)=agg
class J6(P:Program)(S f:Nat)(off sz:outParam Nat):Prop where
 out:∃fs fd i,P.underlying S=some (.struct fs)∧fs[f]?=some fd∧fd.offset=off∧P.info? fd.type=some i∧i.size=sz
class Q4(P:Program)(T:Nat)(e sz:outParam Nat):Prop where
 out:P.underlying T=some (.slice e)∧∃i,P.info? e=some i∧i.size=sz
class IM(P:Program)(T:Nat)(len e sz:outParam Nat):Prop where
 out:P.underlying T=some (.array len e)∧∃i,P.info? e=some i∧i.size=sz
class Q8(P:Program)(T:Nat)(n:outParam Nat):Prop where
 out:∃i,P.info? T=some i∧i.bytes=n
class Lk(P:Program)(T:Nat):Prop where
 out:∃i,P.info? T=some i∧i.zero=some (.int .u8 0)
class s8(P:Program)(T:Nat):Prop where
 out:P.underlying T=some .string
class Jn(P:Program)(T:Nat):Prop where
 out:P.underlying T=some .bool
class EQ(P:Program)(T:Nat):Prop where
 out:∃ms,P.underlying T=some (.interface ms)
class HJ(P:Program)(T:Nat)(k1 k2:outParam IntKind):Prop where
 out : ∃ f1 f2 : Field,P.underlying T = some (.struct #[f1,f2]) ∧ (f1.name ≠ "_" ∧ f2.name ≠ "_" ∧ f1.offset = 0 ∧ f2.offset = 1) ∧ (P.underlying f1.type = some (.int k1) ∧ P.underlying f2.type = some (.int k2)) ∧ P.stoodInHeld T = false ∧ P.eqGuardType P.depth T = false
class FE(P:Program)(T:Nat)(k:outParam IntKind):Prop where
 out : ∃ f1 f2 : Field,P.underlying T = some (.struct #[f1,f2]) ∧ (f1.name ≠ "_" ∧ f2.name ≠ "_" ∧ f1.offset = 0 ∧ f2.offset = 1) ∧ (P.underlying f1.type = some .string ∧ P.underlying f2.type = some (.int k)) ∧ P.stoodInHeld T = false ∧ P.eqGuardType P.depth T = false
class HK(P:Program)(T:Nat)(k1 k2 k3:outParam IntKind):Prop where
 out : ∃ f1 f2 f3 : Field,P.underlying T = some (.struct #[f1,f2,f3]) ∧ (f1.name ≠ "_" ∧ f2.name ≠ "_" ∧ f3.name ≠ "_" ∧ f1.offset = 0 ∧ f2.offset = 1 ∧ f3.offset = 2) ∧ (P.underlying f1.type = some (.int k1) ∧ P.underlying f2.type = some (.int k2) ∧ P.underlying f3.type = some (.int k3)) ∧ P.stoodInHeld T = false ∧ P.eqGuardType P.depth T = false
class V7(P:Program)(T:Nat)(k:outParam IntKind):Prop where
 out:P.underlying T=some (.int k)
class TMap(P:Program)(T:Nat)(k e:outParam Nat):Prop where
 out:P.underlying T=some (.map k e)
def Wf(P:Program)(T:Nat):Bool:=match P.underlying T with
 |some (.interface _)=>true
 |_=>false
theorem EQ.of{P:Program}{T:Nat}(h:Wf P T=true):EQ P T:=by
 unfold Wf at h
 split at h
 ·rename_i ms hm;exact⟨ms,hm⟩
 ·cases h
def IP(P:Program)(T:Nat)(k:IntKind):Bool:=match P.underlying T with
 |some (.int k')=>decide (k'=k)
 |_=>false
theorem FF{P:Program}{T:Nat}{k:IntKind}(h:IP P T k=true):P.underlying T=some (.int k):=by
 unfold IP at h
 split at h
 ·rename_i k' hk;rw[hk,of_decide_eq_true h]
 ·cases h
def Pq(P:Program)(T:Nat)(k1 k2:IntKind):Bool:=match P.underlying T with
 | some (.struct ⟨[f1,f2]⟩) => decide (f1.name ≠ "_" ∧ f2.name ≠ "_" ∧ f1.offset = 0 ∧ f2.offset = 1) && IP P f1.type k1 && IP P f2.type k2 && !P.stoodInHeld T && !P.eqGuardType P.depth T
 |_=>false
theorem HJ.of{P:Program}{T:Nat}{k1 k2:IntKind}(h:Pq P T k1 k2=true):HJ P T k1 k2:=by
 unfold Pq at h
 split at h
 ·rename_i f1 f2 hf
  simp only[Bool.and_eq_true,Bool.not_eq_true']at h
  obtain⟨⟨⟨⟨h1,h2⟩,h3⟩,h4⟩,h5⟩:=h
  exact⟨f1,f2,hf,of_decide_eq_true h1,⟨FF h2,FF h3⟩,h4,h5⟩
 ·cases h
def Uu(P:Program)(T:Nat):Bool:=match P.underlying T with
 |some .string=>true
 |_=>false
theorem Yx{P:Program}{T:Nat}(h:Uu P T=true):P.underlying T=some .string:=by
 unfold Uu at h
 split at h
 ·assumption
 ·cases h
def Ti(P:Program)(T:Nat)(k:IntKind):Bool:=match P.underlying T with
 | some (.struct ⟨[f1,f2]⟩) => decide (f1.name ≠ "_" ∧ f2.name ≠ "_" ∧ f1.offset = 0 ∧ f2.offset = 1) && Uu P f1.type && IP P f2.type k && !P.stoodInHeld T && !P.eqGuardType P.depth T
 |_=>false
theorem FE.of{P:Program}{T:Nat}{k:IntKind}(h:Ti P T k=true):FE P T k:=by
 unfold Ti at h
 split at h
 ·rename_i f1 f2 hf
  simp only[Bool.and_eq_true,Bool.not_eq_true']at h
  obtain⟨⟨⟨⟨h1,h2⟩,h3⟩,h4⟩,h5⟩:=h
  exact⟨f1,f2,hf,of_decide_eq_true h1,⟨Yx h2,FF h3⟩,h4,h5⟩
 ·cases h
def Ll(P:Program)(T:Nat)(k1 k2 k3:IntKind):Bool:=match P.underlying T with
 | some (.struct ⟨[f1,f2,f3]⟩) => decide (f1.name ≠ "_" ∧ f2.name ≠ "_" ∧ f3.name ≠ "_" ∧ f1.offset = 0 ∧ f2.offset = 1 ∧ f3.offset = 2) && IP P f1.type k1 && IP P f2.type k2 && IP P f3.type k3 && !P.stoodInHeld T && !P.eqGuardType P.depth T
 |_=>false
theorem HK.of{P:Program}{T:Nat}{k1 k2 k3:IntKind}(h:Ll P T k1 k2 k3=true):HK P T k1 k2 k3:=by
 unfold Ll at h
 split at h
 ·rename_i f1 f2 f3 hf
  simp only[Bool.and_eq_true,Bool.not_eq_true']at h
  obtain⟨⟨⟨⟨⟨h1,h2⟩,h3⟩,pM⟩,h4⟩,h5⟩:=h
  exact⟨f1,f2,f3,hf,of_decide_eq_true h1,⟨FF h2,FF h3,FF pM⟩,h4,h5⟩
 ·cases h
def jm:TypeDesc→Bool
 |.struct _|.array _ _=>true
 |_=>false
theorem K4.of{P:Program}{T:Nat}{l:List Value}(h:((P.info? T).bind fun i=>i.zero.map (·.cells))=some l.toArray):K4 P T l:=by
 cases hi:P.info? T with
 |none=>simp[hi]at h
 |some i =>
  cases hz:i.zero with
  |none=>simp[hi,hz]at h
  |some z=>simp[hi,hz]at h;exact⟨i,z,hi,hz,h⟩
theorem K1.of{P:Program}{T sz:Nat}{ag:Bool}(h:(P.info? T).map (·.size)=some sz)(h2:(P.underlying T).map jm=some ag):K1 P T ag sz:=by
 cases hi:P.info? T with
 |none=>simp[hi]at h
 |some i =>
  cases hu:P.underlying T with
  |none=>simp[hu]at h2
  |some d =>
   simp[hi]at h
   simp[hu]at h2
   refine⟨i,d,hi,hu,h,?_⟩
   rw[←h2]
   cases d<;>rfl
def cH(P:Program)(S f:Nat):Option (Nat×Nat) :=
 match P.underlying S with
 |some (.struct fs)=>(fs[f]?).bind fun fd=>(P.info? fd.type).map fun i=>(fd.offset,i.size)
 |_=>none
theorem J6.of{P:Program}{S f off sz:Nat}(h:cH P S f=some (off,sz)):J6 P S f off sz:=by
 unfold cH at h
 split at h
 ·rename_i fs hu
  cases hf:fs[f]? with
  |none=>simp[hf]at h
  |some fd =>
   cases hi:P.info? fd.type with
   |none=>simp[hf,hi]at h
   |some i =>
    simp[hf,hi]at h
    exact⟨fs,fd,i,hu,hf,h.1,hi,h.2⟩
 ·cases h
theorem Q4.of{P:Program}{T e sz:Nat}(h:P.underlying T=some (.slice e))(h2:(P.info? e).map (·.size)=some sz):Q4 P T e sz:=by
 cases hi:P.info? e with
 |none=>simp[hi]at h2
 |some i=>simp[hi]at h2;exact⟨h,i,hi,h2⟩
theorem IM.of{P:Program}{T len e sz:Nat}(h:P.underlying T=some (.array len e))(h2:(P.info? e).map (·.size)=some sz):IM P T len e sz:=by
 cases hi:P.info? e with
 |none=>simp[hi]at h2
 |some i=>simp[hi]at h2;exact⟨h,i,hi,h2⟩
theorem Q8.of{P:Program}{T n:Nat}(h:(P.info? T).map (·.bytes)=some n):Q8 P T n:=by
 cases hi:P.info? T with
 |none=>simp[hi]at h
 |some i=>simp[hi]at h;exact⟨i,hi,h⟩
def kx(E:Env)(θ:Th)(nx:Nat)(hp:Hp)(w:World):Cx:=⟨θ,nx,hp,E.X,w⟩
structure Ab(E:Env)(θ:Th)(nx:Nat)(hp:Hp)(ev:Operand→Option AV)(a:Act)(w:World):Prop where
 fr:Fr E w
 owns:∀i b,A7 hp i=some b→i<nx∧U1 (kx E θ nx hp w) i b
 X:∀k,E.X k→k<E.w0.heap.size
 rel:∀{x av},ev x=some av→G2 (kx E θ nx hp w) av (a.eval x)
 apart:∀i j b b' k,A7 hp i=some b→A7 hp j=some b'→FP θ i b k→FP θ j b' k→i=j
 fresh:∀i b k,A7 hp i=some b→FP θ i b k→¬E.X k
 tab:w7 (kx E θ nx hp w).U w
theorem Ab.Ult{E:Env}{θ:Th}{nx:Nat}{hp:Hp}{ev:Operand→Option AV}{a:Act}{w:World}(hs:Ab E θ nx hp ev a w):∀k,(kx E θ nx hp w).U k→k<w.heap.size:=by
 rintro k (hk|⟨i,b,hi,hk⟩)
 ·have h1:=hs.X k hk
  have h2:=hs.fr.size
  omega
 ·exact(hs.owns i b hi).2.lt hk
theorem U3.evT{E:Env}{n:Nat}{θ:Th}{σ:St}{a:Act}{w:World}(h:U3 E n θ σ a w):Ab E θ σ.nx σ.hp (H1 σ) a w:=⟨h.fr,h.owns,h.X,fun hx=>h.ev hx,h.apart,fun i b k hi hk=>(h.mine i b k hi hk).1,h.tabU⟩
def IH(P:Program)(o:Oper)(a:Act)(w:World)(K:Value→World→Prop):Prop :=
 match (execOp a.eval o).run P w with
 |.ok (.value v) w'=>K v w'
 |.ok (.enter f args) w'=>Calls P f args w' fun e rC=>∃v,e=.returned v∧K v rC
 |_=>False
def I2(P:Program)(E:Env)(nx:Nat)(hp:Hp)(ev:Operand→Option AV)(op:Op)(ty:TypeId)(av:AV):Prop :=
 ∀d pos after θ a w K,Ab E θ nx hp ev a w→(∀v w',Below w.heap.size w w'→G2 (kx E θ nx hp w') av v→K v w')→IH P ⟨d,op,ty,pos,after,none⟩ a w K
theorem Pr{P:Program}{o:Oper}{a:Act}{w:World}{K:Value→World→Prop}{next:Act→World→Prop}{Q:Exit→Act→World→Prop}(h:IH P o a w K)(hk:∀v w',K v w'→next (a.put o.dst v) w'):o.wp P a w next Q:=by
 unfold IH at h
 unfold Oper.wp
 split at h
 ·rename_i v w' hr
  rw[hr]
  exact hk _ _ h
 ·rename_i f args w' hr
  rw[hr]
  refine Calls.mono h ?_
  rintro e rC ⟨v,rfl,hv⟩
  exact hk _ _ hv
 ·exact h.elim
section rules
variable {P:Program} {E:Env} {n nx:Nat} {hp:Hp} {ev:Operand→Option AV} {ops:Array Oper} {rest:List Oper} {σ:St} {K:St→Prop} {Q:Exit→St→Prop}
variable {ty:TypeId} {x y:Operand}
theorem IQ{op:Op}{d:Nat}{pos:String}{after:Array Edge}{av:AV}(h:I2 P E σ.nx σ.hp (H1 σ) op ty av)(hd:Nat.blt d n=true)(k:B5 P E n ops rest (σ.put d av) K):
  B5 P E n ops (⟨some d,op,ty,pos,after,none⟩::rest) σ K:=by
 intro a w ⟨θ,hs⟩
 unfold wpList
 rw[if_pos (by simp[Region.wanted])]
 left
 exact Pr (h (some d) pos after θ a w _ hs.evT fun v w' hb hr=>(⟨hb,hr⟩:Below w.heap.size w w'∧G2 (kx E θ σ.nx σ.hp w') av v)) fun v w' hv=>k _ _ ⟨θ,(hs.below hv.1).put (Nat.blt_eq▸hd) hv.2⟩
theorem F9{op:Op}{av:AV}(lN:∀d pos after θ a w,Ab E θ nx hp ev a w→∃v,(execOp a.eval ⟨d,op,ty,pos,after,none⟩).run P w=.ok (.value v) w∧G2 (kx E θ nx hp w) av v):I2 P E nx hp ev op ty av:=by
 intro d pos after θ a w K hs hk
 obtain⟨v,hr,hv⟩:=lN d pos after θ a w hs
 unfold IH
 rw[hr]
 exact hk v w (Below.refl _ _) hv
def ER(P:Program)(E:Env)(nx:Nat)(hp:Hp)(ev:Operand→Option AV)(op:Op)(ty:TypeId)(av:AV):Prop :=
 ∀d pos after θ a w,Ab E θ nx hp ev a w→∃v,(∀w,(execOp a.eval ⟨d,op,ty,pos,after,none⟩).run P w=.ok (.value v) w)∧G2 (kx E θ nx hp w) av v
theorem ER.q{op:Op}{av:AV}(h:ER P E nx hp ev op ty av):I2 P E nx hp ev op ty av:=F9 fun d pos after θ a w hs=>by
 obtain⟨v,h1,h2⟩:=h d pos after θ a w hs
 exact⟨v,h1 w,h2⟩
theorem Wg{op:Op}{av:AV}(lN:∀d pos after θ a w,Ab E θ nx hp ev a w→∃v w',(execOp a.eval ⟨d,op,ty,pos,after,none⟩).run P w=.ok (.value v) w'∧Below w.heap.size w w'∧G2 (kx E θ nx hp w') av v):I2 P E nx hp ev op ty av:=by
 intro d pos after θ a w K hs hk
 obtain⟨v,w',hr,hb,hv⟩:=lN d pos after θ a w hs
 unfold IH
 rw[hr]
 exact hk v w' hb hv
theorem Wh{av:AV}(hx:ev x=some av):I2 P E nx hp ev (.move x) ty av:=F9 fun _ _ _ _ _ _ h=>⟨_,rfl,h.rel hx⟩
theorem Ps{av:AV}(hx:ev x=some av):I2 P E nx hp ev (.assign x) ty av:=F9 fun _ _ _ _ _ _ h=>⟨_,rfl,h.rel hx⟩
theorem Yy{c:Operand}{av:AV}(hc:ev c=some (.v (.bool true)))(hx:ev x=some av):I2 P E nx hp ev (.pick c x y) ty av :=
 F9 fun _ _ _ _ _ _ h=>⟨_,by simp[execOp,(h.rel hc).val,asBool,Sem.run_pure],h.rel hx⟩
theorem Yz{c:Operand}{av:AV}(hc:ev c=some (.v (.bool false)))(hy:ev y=some av):I2 P E nx hp ev (.pick c x y) ty av :=
 F9 fun _ _ _ _ _ _ h=>⟨_,by simp[execOp,(h.rel hc).val,asBool,Sem.run_pure],h.rel hy⟩
theorem fi(a b:Int):(a == b)=decide (a=b):=by by_cases h:a=b<;>simp[h]
theorem jn(a b:List UInt8):(a == b)=decide (a=b):=by by_cases h:a=b<;>simp[h]
theorem jo(a b:Bool):(a == b)=decide (a=b):=by by_cases h:a=b<;>simp[h]
def Cz:BinOp→IntKind→Int→Int→Option Value
 |.add,k,a,b=>some (.int k (k.wrap (a+b)))
 |.sub,k,a,b=>some (.int k (k.wrap (a-b)))
 |.mul,k,a,b=>some (.int k (k.wrap (a*b)))
 |.eql,_,a,b=>some (.bool (decide (a=b)))
 |.neq,_,a,b=>some (.bool (decide (a≠b)))
 |.lss,_,a,b=>some (.bool (decide (a<b)))
 |.leq,_,a,b=>some (.bool (decide (a≤b)))
 |.gtr,_,a,b=>some (.bool (decide (b<a)))
 |.geq,_,a,b=>some (.bool (decide (b≤a)))
 |.and,k,a,b=>some (.int k (k.wrap (BitVec.ofInt k.bits a &&& BitVec.ofInt k.bits b).toNat))
 |.or,k,a,b=>some (.int k (k.wrap (BitVec.ofInt k.bits a ||| BitVec.ofInt k.bits b).toNat))
 |.xor,k,a,b=>some (.int k (k.wrap (BitVec.ofInt k.bits a ^^^ BitVec.ofInt k.bits b).toNat))
 |.andNot,k,a,b=>some (.int k (k.wrap (BitVec.ofInt k.bits a &&& ~~~ BitVec.ofInt k.bits b).toNat))
 |_,_,_,_=>none
theorem Pt{op:BinOp}{k:IntKind}{a b:Int}{r:Value}(h:Cz op k a b=some r)(T:TypeId)(w:World):(binOp op T (.int k a) (.int k b)).run P w=.ok r w:=by
 cases op<;>simp only[Cz,Option.some.injEq,reduceCtorEq]at h<;>subst h <;>
  simp[binOp,Op.intArith,Op.intCmp,Op.intBits,Sem.run_pure,bne,fi]
theorem BC(op:BinOp)(T:TypeId)(k k':IntKind)(a b:Int)(w:World):(eqGuard op T x y (.int k a) (.int k' b)).run P w=.ok () w:=by
 cases op<;>simp[eqGuard,Sem.run_pure]
theorem P2{op:BinOp}{T T2:TypeId}{a:Act}{w:World}{r:Value}{d:Option Tmp}{pos:String}{after:Array Edge}(he:(eqGuard op T x y (a.eval x) (a.eval y)).run P w=.ok () w)
  (h:(binOp op T (a.eval x) (a.eval y)).run P w=.ok r w):(execOp a.eval ⟨d,.binOp op T x y T2,ty,pos,after,none⟩).run P w=.ok (.value r) w:=by
 simp[execOp,Sem.run_bind,Sem.run_pure,he,h]
theorem ES{op:BinOp}{T T2:TypeId}{k:IntKind}{a b:Int}{r:Value}(hx:ev x=some (.v (.int k a)))(hy:ev y=some (.v (.int k b)))(hr:Cz op k a b=some r):
  I2 P E nx hp ev (.binOp op T x y T2) ty (.v r) :=
 F9 fun _ _ _ _ _ w h=>⟨r,P2 (by rw[(h.rel hx).val,(h.rel hy).val];exact BC ..) (by rw[(h.rel hx).val,(h.rel hy).val];exact Pt hr T w),.im (.v _)⟩
theorem W5{n:Int}(h:-9223372036854775808≤n∧n≤9223372036854775807):IntKind.i64.wrap n=n:=IntWalk.i64_in n h
theorem PZ{T T2:TypeId}{k:IntKind}{a b:Int}(hx:ev x=some (.v (.int k a)))(hy:ev y=some (.v (.int k b)))(hb:b≠0):
  I2 P E nx hp ev (.binOp .quo T x y T2) ty (.v (.int k (k.wrap (a.tdiv b)))) :=
 F9 fun _ _ _ _ _ w h=>⟨_,P2 (by rw[(h.rel hx).val,(h.rel hy).val];exact BC ..) (by rw[(h.rel hx).val,(h.rel hy).val];simp[binOp,Op.intDiv,hb,Sem.run_pure]),.im (.v _)⟩
theorem cI{T T2:TypeId}{k:IntKind}{a b:Int}(hx:ev x=some (.v (.int k a)))(hy:ev y=some (.v (.int k b)))(hb:b≠0):
  I2 P E nx hp ev (.binOp .rem T x y T2) ty (.v (.int k (a.tmod b))) :=
 F9 fun _ _ _ _ _ w h=>⟨_,P2 (by rw[(h.rel hx).val,(h.rel hy).val];exact BC ..) (by rw[(h.rel hx).val,(h.rel hy).val];simp[binOp,Op.intDiv,hb,Sem.run_pure]),.im (.v _)⟩
theorem cJ{T T2:TypeId}{k k':IntKind}{a b:Int}(hx:ev x=some (.v (.int k a)))(hy:ev y=some (.v (.int k' b)))(hb:0≤b):
  I2 P E nx hp ev (.binOp .shl T x y T2) ty (.v (.int k (k.wrap (a*2 ^ (min b.toNat k.bits))))) :=
 F9 fun _ _ _ _ _ w h=>⟨_,P2 (by rw[(h.rel hx).val,(h.rel hy).val];exact BC ..) (by
  have:¬b<0:=by omega
  rw[(h.rel hx).val,(h.rel hy).val];simp[binOp,Op.shift,this,Sem.run_pure]),.im (.v _)⟩
theorem cK{T T2:TypeId}{k k':IntKind}{a b:Int}(hx:ev x=some (.v (.int k a)))(hy:ev y=some (.v (.int k' b)))(hb:0≤b):
  I2 P E nx hp ev (.binOp .shr T x y T2) ty (.v (.int k (a.fdiv (2 ^ (min b.toNat k.bits))))) :=
 F9 fun _ _ _ _ _ w h=>⟨_,P2 (by rw[(h.rel hx).val,(h.rel hy).val];exact BC ..) (by
  have:¬b<0:=by omega
  rw[(h.rel hx).val,(h.rel hy).val];simp[binOp,Op.shift,this,Sem.run_pure]),.im (.v _)⟩
theorem cL{b:Bool}{T:TypeId}(hx:ev x=some (.v (.bool b))):I2 P E nx hp ev (.unOp .not T x) ty (.v (.bool (!b))) :=
 F9 fun _ _ _ _ _ _ h=>⟨_,by simp[execOp,Op.unary,(h.rel hx).val,Sem.run_bind,Sem.run_pure],.im (.v _)⟩
theorem cM{k:IntKind}{a:Int}{T:TypeId}(hx:ev x=some (.v (.int k a))):I2 P E nx hp ev (.unOp .neg T x) ty (.v (.int k (k.wrap (-a)))) :=
 F9 fun _ _ _ _ _ w h=>⟨_,by simp[execOp,Op.unary,Op.intArith,(h.rel hx).val,Sem.run_bind,Sem.run_pure],.im (.v _)⟩
theorem cz{a:Int}{T:TypeId}(hx:ev x=some (.v (.int .u64 a)))(ha:0≤a∧a≤18446744073709551615):I2 P E nx hp ev (.unOp .xor T x) ty (.v (.int .u64 (18446744073709551615-a))) :=
 F9 fun _ _ _ _ _ w h=>⟨_,by
  obtain⟨m,rfl⟩:=Int.eq_ofNat_of_zero_le ha.1
  have h1:BitVec.ofInt 64 18446744073709551615=BitVec.allOnes 64:=by decide
  have h2:(BitVec.ofInt 64 (m:Int)).toNat=m:=by
   rw[BitVec.ofInt_natCast,BitVec.toNat_ofNat];exact Nat.mod_eq_of_lt (by omega)
  have h3:((BitVec.ofInt 64 18446744073709551615 ^^^ BitVec.ofInt 64 (m:Int)).toNat:Int)=18446744073709551615-m:=by
   rw[h1,BitVec.allOnes_xor,BitVec.toNat_not,h2];omega
  have h4:IntKind.u64.wrap (18446744073709551615-(m:Int))=18446744073709551615-(m:Int):=by rw[IntKind.wrap_u64];omega
  have h5:(IntKind.u64.max:Int)=18446744073709551615:=by decide
  simp only[execOp,Op.unary,(h.rel hx).val,Op.intBits,h5,IntKind.signed,IntKind.bits,Sem.run_bind,Sem.run_pure]
  simp only[Bool.false_eq_true,if_false,h5]
  show Result.andThen (.ok (Value.int .u64 (IntKind.u64.wrap ((BitVec.ofInt 64 18446744073709551615 ^^^ BitVec.ofInt 64 (m:Int)).toNat:Int))) w) _=_
  rw[h3,h4]
  rfl,.im (.v _)⟩
abbrev AV.i(n:Int):AV:=.v (.int .i64 n)
abbrev AV.b(n:Bool):AV:=.v (.bool n)
def Uv:BinOp→List UInt8→List UInt8→Option Value
 |.eql,a,b=>some (.bool (decide (a=b)))
 |.neq,a,b=>some (.bool (decide (a≠b)))
 |.lss,a,b=>some (.bool (Op.bytesLess a b))
 |.geq,a,b=>some (.bool (!Op.bytesLess a b))
 |.leq,a,b=>some (.bool (Op.bytesLess a b || decide (a=b)))
 |.gtr,a,b=>some (.bool (!(Op.bytesLess a b || decide (a=b))))
 |_,_,_=>none
theorem ZA{op:BinOp}{a b:List UInt8}{r:Value}(h:Uv op a b=some r)(T:TypeId)(w:World):(binOp op T (.string ⟨a.toArray⟩) (.string ⟨b.toArray⟩)).run P w=.ok r w:=by
 cases op<;>simp only[Uv,Option.some.injEq,reduceCtorEq]at h<;>subst h <;>
  simp[binOp,Op.stringOp,Sem.run_pure,bne,jn]
theorem GN(op:BinOp)(T:TypeId)(a b:ByteArray)(w:World):(eqGuard op T x y (.string a) (.string b)).run P w=.ok () w:=by
 cases op<;>simp[eqGuard,Sem.run_pure]
theorem Wi{op:BinOp}{T T2:TypeId}{a b:List UInt8}{r:Value}(hx:ev x=some (.str a))(hy:ev y=some (.str b))(hr:Uv op a b=some r):
  I2 P E nx hp ev (.binOp op T x y T2) ty (.v r) :=
 F9 fun _ _ _ _ _ w h=>⟨r,P2 (by rw[(h.rel hx).sval,(h.rel hy).sval];exact GN ..) (by rw[(h.rel hx).sval,(h.rel hy).sval];exact ZA hr T w),.im (.v _)⟩
theorem Pu{a b:List UInt8}(hl:a.length+b.length≤9223372036854775807)(T:TypeId)(w:World):
  (binOp .add T (.string ⟨a.toArray⟩) (.string ⟨b.toArray⟩)).run P w=.ok (.string ⟨(a++b).toArray⟩) w:=by
 have h1:((ByteArray.mk a.toArray).size+(ByteArray.mk b.toArray).size)=a.length+b.length:=rfl
 have h2:¬((((ByteArray.mk a.toArray).size+(ByteArray.mk b.toArray).size:Nat):Int)>IntKind.i64.max):=by
  rw[h1]
  have:IntKind.i64.max=9223372036854775807:=rfl
  rw[this]
  omega
 have h3:(ByteArray.mk a.toArray++ByteArray.mk b.toArray)=⟨(a++b).toArray⟩:=by
  apply ByteArray.ext
  simp
 simp only[binOp,Op.stringOp]
 rw[if_neg h2,h3]
 rfl
theorem Wj{T T2:TypeId}{a b:List UInt8}(hx:ev x=some (.str a))(hy:ev y=some (.str b))(hr:a.length+b.length≤9223372036854775807):
  I2 P E nx hp ev (.binOp .add T x y T2) ty (.str (a++b)) :=
 F9 fun _ _ _ _ _ w h=>⟨_,P2 (by rw[(h.rel hx).sval,(h.rel hy).sval];exact GN ..) (by rw[(h.rel hx).sval,(h.rel hy).sval];exact Pu hr T w),.im (.str _)⟩
theorem run_equalIn_bool{T:TypeId}[tb:Jn P T](m:Nat)(a b:Bool)(w:World):(Op.equalIn (m+1) T (.bool a) (.bool b)).run P w=.ok (a == b) w:=by
 simp only[Op.equalIn,Sem.run_bind,run_underlying tb.out,Result.andThen_ok]
 rfl
theorem run_equal_bool{T:TypeId}[tb:Jn P T](a b:Bool)(w:World):(Op.equal T (.bool a) (.bool b)).run P w=.ok (a == b) w:=run_equalIn_bool 9999 a b w
theorem Pa{T T2:TypeId}{a b:Bool}[tb:Jn P T](neg:Bool)(hx:ev x=some (.v (.bool a)))(hy:ev y=some (.v (.bool b))):
  I2 P E nx hp ev (.binOp (if neg then .neq else .eql) T x y T2) ty (.v (.bool (if neg then decide (a≠b)else decide (a=b)))) :=
 F9 fun _ _ _ _ _ w h=>by
  refine⟨_,P2 ?_ ?_,.im (.v _)⟩
  ·rw[(h.rel hx).val,(h.rel hy).val];cases neg<;>simp[eqGuard,Sem.run_pure]
  ·rw[(h.rel hx).val,(h.rel hy).val]
   cases neg<;>simp[binOp,run_equal_bool,Sem.run_bind,Sem.run_pure,jo]
theorem Lm{T:TypeId}{ms:Array (String×TypeId)}(hm:P.underlying T=some (.interface ms))(m:Nat)(t:TypeId)(p:Value)(w:World):(Op.equalIn (m+1) T (.iface t p) .nilIface).run P w=.ok false w:=by
 simp only[Op.equalIn,Sem.run_bind,run_underlying hm,Result.andThen_ok]
 rfl
theorem Ln{T:TypeId}{ms:Array (String×TypeId)}(hm:P.underlying T=some (.interface ms))(m:Nat)(w:World):(Op.equalIn (m+1) T .nilIface .nilIface).run P w=.ok true w:=by
 simp only[Op.equalIn,Sem.run_bind,run_underlying hm,Result.andThen_ok]
 rfl
theorem Pv{T T2:TypeId}[ti:EQ P T](neg:Bool)(hx:ev x=some .err):
  I2 P E nx hp ev (.binOp (if neg then .neq else .eql) T x (.const .nilIface) T2) ty (.v (.bool neg)) :=
 F9 fun _ _ _ _ _ w h=>by
  obtain⟨ms,hm⟩:=ti.out
  have hr:=h.rel hx
  cases hr with
  |im hi =>
   generalize hv:Act.eval _ x=v at hi
   cases hi with
   |err t p =>
    refine⟨_,P2 ?_ ?_,.im (.v _)⟩
    ·rw[hv];cases neg<;>simp[eqGuard,Act.eval,Sem.run_pure]
    ·rw[hv]
     have e:(Op.equal T (.iface t p) .nilIface).run P w=.ok false w:=Lm hm 9999 t p w
     cases neg<;>simp[binOp,Act.eval,e,Sem.run_bind,Sem.run_pure]
theorem Pw{T T2:TypeId}[ti:EQ P T](neg:Bool)(hx:ev x=some (.v .nilIface)):
  I2 P E nx hp ev (.binOp (if neg then .neq else .eql) T x (.const .nilIface) T2) ty (.v (.bool (!neg))) :=
 F9 fun _ _ _ _ _ w h=>by
  obtain⟨ms,hm⟩:=ti.out
  refine⟨_,P2 ?_ ?_,.im (.v _)⟩
  ·rw[(h.rel hx).val];cases neg<;>simp[eqGuard,Act.eval,Sem.run_pure]
  ·rw[(h.rel hx).val]
   have e:(Op.equal T .nilIface .nilIface).run P w=.ok true w:=Ln hm 9999 w
   cases neg<;>simp[binOp,Act.eval,e,Sem.run_bind,Sem.run_pure]
theorem OD{T:Nat}{ag:Bool}{sz:Nat}[tv:K1 P T ag sz](w:World):(isAgg T).run P w=.ok ag w:=by
 obtain⟨i,t,h1,h2,h3,h4⟩:=tv.out
 cases t<;>simp[isAgg,run_underlying h2,Sem.run_bind,Sem.run_pure]<;>simpa using h4
theorem run_sizeOf{T:Nat}{ag:Bool}{sz:Nat}[tv:K1 P T ag sz](w:World):(sizeOf T).run P w=.ok sz w:=by
 obtain⟨i,t,h1,h2,h3,h4⟩:=tv.out
 simp[sizeOf,typeInfo,program,Sem.run_bind,Sem.run_pure,Sem.run,h1,h3]
theorem DA{T sz:Nat}[tv:K1 P T false sz]{w:World}{a:Addr}{v:Value}(h:w.cell? a=some v):(loadVar T a).run P w=.ok v w:=by
 simp[loadVar,Sem.run_bind,OD (P:=P) (T:=T) (sz:=sz),run_load,h]
theorem V8{T sz:Nat}[tv:K1 P T true sz]{w:World}{a:Addr}{cs:List Value}(hl:cs.length=sz)(h:∀(j:Nat) v,cs[j]?=some v→w.cell? (a.add j)=some v):
  (loadVar T a).run P w=.ok (.agg cs.toArray) w:=by
 subst hl
 simp[loadVar,Sem.run_bind,OD (P:=P) (T:=T) (sz:=cs.length),run_sizeOf (P:=P) (T:=T) (sz:=cs.length),run_loadCells_list (P:=P) w a cs h,Sem.run_pure]
theorem X4{c:Cx}{i off:Nat}{y:Value}(r:G2 c (.ref i off) y):∃b,c.θ i=.pointer (some ⟨b,0,none⟩)∧y=.pointer (some ⟨b,off,none⟩)∧i<c.nx:=by
 cases r with
 |im hi=>cases hi
 |ref i off b hi hθ=>exact⟨b,hθ,rfl,hi⟩
theorem Ab.box{θ:Th}{a:Act}{w:World}(h:Ab E θ nx hp ev a w){i τ:Nat}{l:List AV}(hb:A7 hp i=some (.bx τ l)):
  ∃b lL,∃T:jh τ,θ i=.pointer (some ⟨b,0,none⟩)∧w.heap[b]?=some (.cells lL T.1 (0,0))∧lL.size=l.length∧∀(j:Nat) x y,l[j]?=some x→lL[j]?=some y→G2 (kx E θ nx hp w) x y :=
 (h.owns i _ hb).2
theorem P5{w:World}{b:Nat}{lL:Array Value}{T:TypeId}{fr:Nat×Nat}(h:w.heap[b]?=some (.cells lL T fr))(j:Nat):w.cell? ⟨b,j,none⟩=lL[j]?:=by
 simp[World.cell?,h]
theorem addr_add(b off j:Nat):(⟨b,off,none⟩:Addr).add j=⟨b,off+j,none⟩:=by unfold Addr.add;split<;>simp_all
theorem Lo{T sz:Nat}[tv:K1 P T false sz]{i off τ:Nat}{l:List AV}{av:AV}(hx:ev x=some (.ref i off))(hb:A7 hp i=some (.bx τ l))(hl:l[off]?=some av):I2 P E nx hp ev (.load T x) ty av :=
 F9 fun _ _ _ θ a w h=>by
  obtain⟨b,hθ,hv,_⟩:=X4 (h.rel hx)
  obtain⟨b',lL,T',lV,hh,hs,hr⟩:=h.box hb
  have mO:θ i=.pointer (some ⟨b,0,none⟩):=hθ
  rw[lV]at mO
  cases mO
  have kj:off<l.length:=(List.getElem?_eq_some_iff.1 hl).1
  have hc:lL[off]?=some (lL[off]'(by omega)):=Array.getElem?_eq_getElem (by omega)
  refine⟨_,?_,hr off _ _ hl hc⟩
  simp only[execOp,hv,Instr.loadAt,Instr.sureAddr,Sem.run_bind,Sem.run_pure,Result.andThen_ok]
  rw[DA (P:=P) (sz:=sz) ((P5 hh off).trans hc)]
  rfl
theorem Dj{T sz:Nat}[tv:K1 P T true sz]{i off τ:Nat}{l l':List AV}(hx:ev x=some (.ref i off))(hb:A7 hp i=some (.bx τ l))(hl:(l.drop off).take sz=l')(hsz:l'.length=sz):I2 P E nx hp ev (.load T x) ty (.agg l') :=
 F9 fun _ _ _ θ a w h=>by
  obtain⟨b,hθ,hv,_⟩:=X4 (h.rel hx)
  obtain⟨b',lL,T',lV,hh,hs,hr⟩:=h.box hb
  have mO:θ i=.pointer (some ⟨b,0,none⟩):=hθ
  rw[lV]at mO
  cases mO
  have kf:((lL.toList.drop off).take sz).length=sz:=by
   have h1:((l.drop off).take sz).length=sz:=by rw[hl];exact hsz
   simp only[List.length_take,List.length_drop,Array.length_toList]at h1 ⊢
   omega
  have lU:∀(j:Nat) v,((lL.toList.drop off).take sz)[j]?=some v→lL[off+j]?=some v∧j<sz:=by
   intro j v hj
   rw[List.getElem?_take]at hj
   split at hj
   ·rename_i qo
    rw[List.getElem?_drop]at hj
    exact⟨by simpa using hj,qo⟩
   ·cases hj
  refine⟨.agg ((lL.toList.drop off).take sz).toArray,?_,.agg l' _ (by rw[hsz,kf]) fun j u z hu hz=>?_⟩
  ·simp only[execOp,hv,Instr.loadAt,Instr.sureAddr,Sem.run_bind,Sem.run_pure,Result.andThen_ok]
   rw[V8 (P:=P) (sz:=sz) kf (fun j v hj=>by rw[addr_add,P5 hh];exact(lU j v hj).1)]
   rfl
  ·obtain⟨h1,h2⟩:=lU j z hz
   refine hr (off+j) _ _ ?_ h1
   rw[←hl,List.getElem?_take,if_pos h2,List.getElem?_drop]at hu
   exact hu
theorem Lp{T sz:Nat}[tv:K1 P T true sz]{i τ:Nat}{l:List AV}(hx:ev x=some (.ref i 0))(hb:A7 hp i=some (.bx τ l))(hsz:l.length=sz):I2 P E nx hp ev (.load T x) ty (.agg l) :=
 Dj (l':=l) (sz:=sz) hx hb (by rw[List.drop_zero,←hsz,List.take_length]) hsz
theorem Dk{c:Cx}{l:List AV}{y:Value}(r:G2 c (.iptr l) y):∃(a:Addr) (f:Nat→Value),y=.pointer (some a)∧(l≠[]→¬c.U a.block)∧(∀j,j<l.length→c.w.cell? (a.add j)=some (f j))∧∀(j:Nat) (x:AV),l[j]?=some x→Im c.U c.w x (f j):=by
 cases r with
 |im hi=>cases hi with|iptr l a f hu hc h=>exact⟨a,f,rfl,hu,hc,h⟩
theorem KV{T sz:Nat}[tv:K1 P T false sz]{av:AV}{l:List AV}(hx:ev x=some (.iptr (av::l))):I2 P E nx hp ev (.load T x) ty av :=
 F9 fun _ _ _ θ a w h=>by
  obtain⟨p,f,hv,_,hc,hr⟩:=Dk (h.rel hx)
  refine⟨f 0,?_,.im (hr 0 av rfl)⟩
  have h0:w.cell? p=some (f 0):=by
   have h0:w.cell? (p.add 0)=some (f 0):=hc 0 (by simp)
   simpa [Addr.add]using h0
  simp only[execOp,hv,Instr.loadAt,Instr.sureAddr,Sem.run_bind,Sem.run_pure,Result.andThen_ok]
  rw[DA (P:=P) (sz:=sz) h0]
  rfl
theorem BT{T sz:Nat}[tv:K1 P T true sz]{l l':List AV}(hx:ev x=some (.iptr l))(hl:l.take sz=l')(hsz:l'.length=sz):I2 P E nx hp ev (.load T x) ty (.agg l') :=
 F9 fun _ _ _ θ a w h=>by
  obtain⟨p,f,hv,_,hc,hr⟩:=Dk (h.rel hx)
  have nA:sz≤l.length:=by
   have:(l.take sz).length=sz:=by rw[hl];exact hsz
   simp only[List.length_take]at this
   omega
  refine⟨.agg ((List.range sz).map f).toArray,?_,.im (.agg l' _ (by simp[hsz]) fun j u z hu hz=>?_)⟩
  ·simp only[execOp,hv,Instr.loadAt,Instr.sureAddr,Sem.run_bind,Sem.run_pure,Result.andThen_ok]
   rw[V8 (P:=P) (sz:=sz) (cs:=(List.range sz).map f) (by simp) (fun j v hj=>?_)]
   ·rfl
   ·simp only[List.getElem?_map,List.getElem?_range,Option.map_eq_some_iff]at hj
    obtain⟨j',oU,rfl⟩:=hj
    have qo:j<sz:=by
     rcases Nat.lt_or_ge j sz with h1|h1
     ·exact h1
     ·rw[List.getElem?_eq_none (by simpa using h1)]at oU;cases oU
    have:j'=j:=by
     rw[List.getElem?_range qo]at oU
     exact(Option.some.inj oU).symm
    subst this
    exact hc j' (by omega)
  ·have qo:j<sz:=by rw[←hsz];exact(List.getElem?_eq_some_iff.1 hu).1
   rw[←hl,List.getElem?_take,if_pos qo]at hu
   simp only[List.getElem?_map]at hz
   rw[List.getElem?_range qo]at hz
   simp at hz
   subst hz
   exact hr j u hu
theorem BD{S f off sz:Nat}[tf:J6 P S f off sz](hz:0<sz)(a:Addr)(w:World):(Instr.fieldAt S (.pointer (some a)) f).run P w=.ok (.pointer (some (a.add off))) w:=by
 obtain⟨fs,fd,i,h1,h2,h3,h4,h5⟩:=tf.out
 have hne:¬i.size=0:=by omega
 simp[Instr.fieldAt,run_underlying h1,Sem.run_bind,Sem.run_pure,h2,Instr.sureAddr,fieldPlace,sizeOf,typeInfo,program,Sem.run,h4,hne,h3]
theorem KW{S f off sz:Nat}[tf:J6 P S f off sz]{i o:Nat}(hx:ev x=some (.ref i o))(hz:Nat.blt 0 sz=true):I2 P E nx hp ev (.fieldAddr S x f) ty (.ref i (o+off)) :=
 F9 fun _ _ _ θ a w h=>by
  obtain⟨b,hθ,hv,ld⟩:=X4 (h.rel hx)
  refine⟨.pointer (some ⟨b,o+off,none⟩),?_,.ref i _ b ld hθ⟩
  simp only[execOp,hv,Sem.run_bind,BD (P:=P) (S:=S) (f:=f) (off:=off) (sz:=sz) (Nat.blt_eq▸hz),Result.andThen_ok,addr_add]
  rfl
theorem Dl(a:Addr)(i j:Nat):(a.add i).add j=a.add (i+j):=by
 unfold Addr.add
 by_cases hi:i=0<;>by_cases hj:j=0<;>simp[hi,hj,Nat.add_assoc]
theorem IR{S f off sz:Nat}[tf:J6 P S f off sz]{l:List AV}(hx:ev x=some (.iptr l))(hz:Nat.blt 0 sz=true):I2 P E nx hp ev (.fieldAddr S x f) ty (.iptr (l.drop off)) :=
 F9 fun _ _ _ θ a w h=>by
  obtain⟨p,g,hv,hu,hc,hr⟩:=Dk (h.rel hx)
  refine⟨.pointer (some (p.add off)),?_,.im (.iptr _ _ (fun j=>g (off+j)) (fun hne=>?_) (fun j hj=>?_) fun j u oR=>?_)⟩
  ·simp only[execOp,hv,Sem.run_bind,BD (P:=P) (S:=S) (f:=f) (off:=off) (sz:=sz) (Nat.blt_eq▸hz),Result.andThen_ok]
   rfl
  ·rw[Z0];exact hu (by rintro rfl;simp at hne)
  ·rw[Dl];exact hc _ (by simp at hj;omega)
  ·rw[List.getElem?_drop]at oR;exact hr _ _ oR
theorem Cn{c:Cx}{i ver k off:Nat}{y:Value}(r:G2 c (.elt i ver k off) y){e sz:Nat}{l:List (List AV)}(hl:A7 c.hp i=some (.row e sz ver l)):
  ∃g n cap,c.θ i=.slice (some ⟨g,0,none⟩) n cap∧y=.pointer (some ⟨g,k*sz+off,none⟩)∧i<c.nx:=by
 cases r with
 |im hi=>cases hi
 |elt i ver k off x hi h =>
  obtain⟨g,n,cap,h1,h2⟩:=(h e sz ver l hl).2 rfl
  exact⟨g,n,cap,h1,h2,hi⟩
theorem BE{c:Cx}{i ver len:Nat}{y:Value}(r:G2 c (.row i ver len) y){e sz:Nat}{l:List (List AV)}(hl:A7 c.hp i=some (.row e sz ver l)):l.length=len∧y=c.θ i∧i<c.nx:=by
 cases r with
 |im hi=>cases hi
 |row i ver len x hi h=>exact⟨((h e sz ver l hl).2 rfl).1,((h e sz ver l hl).2 rfl).2,hi⟩
theorem Ab.row{θ:Th}{a:Act}{w:World}(h:Ab E θ nx hp ev a w){i e sz ver:Nat}{l:List (List AV)}(hb:A7 hp i=some (.row e sz ver l)):
  ∃xs:List Value,AZ w e sz (θ i) l.length xs∧(∀el∈l,el.length=sz) ∧
   ∀(k:Nat) el,l[k]?=some el→∀(j:Nat) x,el[j]?=some x→∃y,xs[k*sz+j]?=some y∧Im (kx E θ nx hp w).U w x y :=
 let ⟨xs,h1,h2,h3,_⟩:=(h.owns i _ hb).2
 ⟨xs,h1,h2,h3⟩
theorem Uw{T szT:Nat}[tv:K1 P T false szT]{i ver k off e sz:Nat}{l:List (List AV)}{el:List AV}{av:AV}(hx:ev x=some (.elt i ver k off))(hb:A7 hp i=some (.row e sz ver l))(hk:l[k]?=some el)(ho:el[off]?=some av):
  I2 P E nx hp ev (.load T x) ty av :=
 F9 fun _ _ _ θ a w h=>by
  obtain⟨g,m,cap,hθ,hv,_⟩:=Cn (h.rel hx) hb
  obtain⟨xs,ko,hsz,hr⟩:=h.row hb
  obtain⟨y,hy,ly⟩:=hr k el hk off av ho
  refine⟨y,?_,.im ly⟩
  have lV:θ i=.slice (some ⟨g,0,none⟩) m cap:=hθ
  rw[lV]at ko
  have lU:=ko.cells (g:=g) rfl _ _ hy
  rw[addr_add]at lU
  simp only[execOp,hv,Instr.loadAt,Instr.sureAddr,Sem.run_bind,Sem.run_pure,Result.andThen_ok]
  rw[DA (P:=P) (sz:=szT) (v:=y) (by rw[←lU];congr 2;omega)]
  rfl
theorem NF{T szT:Nat}[tv:K1 P T true szT]{i ver k e sz:Nat}{l:List (List AV)}{el:List AV}(hx:ev x=some (.elt i ver k 0))(hb:A7 hp i=some (.row e sz ver l))(hk:l[k]?=some el)(ho:szT=sz):
  I2 P E nx hp ev (.load T x) ty (.agg el) :=
 F9 fun _ _ _ θ a w h=>by
  subst ho
  obtain⟨g,m,cap,hθ,hv,_⟩:=Cn (h.rel hx) hb
  obtain⟨xs,ko,hsz,hr⟩:=h.row hb
  have ke:el.length=szT:=hsz el (List.mem_of_getElem? hk)
  have lV:θ i=.slice (some ⟨g,0,none⟩) m cap:=hθ
  rw[lV]at ko
  have oP:∀(j:Nat) v,((xs.drop (k*szT)).take szT)[j]?=some v→j<szT∧xs[k*szT+j]?=some v:=by
   intro j v hj
   rw[List.getElem?_take]at hj
   split at hj
   ·rename_i qo;rw[List.getElem?_drop]at hj;exact⟨qo,hj⟩
   ·cases hj
  have kf:((xs.drop (k*szT)).take szT).length=szT:=by
   have lW:k<l.length:=(List.getElem?_eq_some_iff.1 hk).1
   rw[List.length_take,List.length_drop,ko.1]
   have:(k+1)*szT≤l.length*szT:=Nat.mul_le_mul_right _ lW
   rw[Nat.add_mul,Nat.one_mul]at this
   omega
  refine⟨.agg ((xs.drop (k*szT)).take szT).toArray,?_,.im (.agg el _ (by rw[ke,kf]) fun j u z hu hz=>?_)⟩
  ·simp only[execOp,hv,Instr.loadAt,Instr.sureAddr,Sem.run_bind,Sem.run_pure,Result.andThen_ok]
   rw[V8 (P:=P) (sz:=szT) kf (fun j v hj=>by
    have lU:=ko.cells (g:=g) rfl _ _ (oP j v hj).2
    rw[addr_add]at lU ⊢
    rw[←lU];congr 2;omega)]
   rfl
  ·obtain⟨y,hy,ly⟩:=hr k el hk j u hu
   rw[(oP j z hz).2]at hy
   cases hy
   exact ly
theorem Si{S f off sz:Nat}[tf:J6 P S f off sz]{i ver k o e sb:Nat}{l:List (List AV)}(hx:ev x=some (.elt i ver k o))(hb:A7 hp i=some (.row e sb ver l))(hz:Nat.blt 0 sz=true):I2 P E nx hp ev (.fieldAddr S x f) ty (.elt i ver k (o+off)) :=
 F9 fun _ _ _ θ a w h=>by
  obtain⟨g,m,cap,hθ,hv,ld⟩:=Cn (h.rel hx) hb
  refine⟨.pointer (some ⟨g,k*sb+o+off,none⟩),?_,.elt i ver k _ _ ld fun e' kw v' l' nk=>?_⟩
  ·simp only[execOp,hv,Sem.run_bind,BD (P:=P) (S:=S) (f:=f) (off:=off) (sz:=sz) (Nat.blt_eq▸hz),Result.andThen_ok,addr_add]
   rfl
  ·have:A7 hp i=some (.row e' kw v' l'):=nk
   rw[hb]at this
   cases this
   exact⟨Nat.le_refl _,fun _=>⟨g,m,cap,hθ,by rw[Nat.add_assoc]⟩⟩
theorem Gg{c:Cx}{sz:Nat}{l:List (List AV)}{y:Value}(r:G2 c (.sl sz l) y):(y=.slice none 0 0∧l=[])∨∃(a:Addr) (cap:Nat) (f:Nat→Nat→Value),y=.slice (some a) l.length cap∧l.length≤cap∧cap≤maxLen∧(l≠[]→0<sz→¬c.U a.block) ∧
  (∀e∈l,e.length=sz)∧(∀i,i<l.length→∀j,j<sz→c.w.cell? (a.add (i*sz+j))=some (f i j))∧∀(i:Nat) (e:List AV),l[i]?=some e→∀(j:Nat) (x:AV),e[j]?=some x→Im c.U c.w x (f i j):=by
 cases r with
 |im hi =>
  cases hi with
  |slnil=>exact .inl ⟨rfl,rfl⟩
  |sl sz l a cap f lT hm hu hsz hc h=>exact .inr ⟨a,cap,f,rfl,lT,hm,hu,hsz,hc,h⟩
theorem Wk{c:Cx}{sz:Nat}{l:List (List AV)}{y:Value}(r:G2 c (.sl sz l) y):l.length≤9223372036854775807∧∃p cap,y=.slice p l.length cap:=by
 rcases Gg r with ⟨rfl,rfl⟩|⟨a,cap,f,rfl,h1,h2,_⟩
 ·exact⟨by simp,none,0,rfl⟩
 ·exact⟨by unfold maxLen at h2;omega,_,_,rfl⟩
theorem run_len_slice{T e:Nat}(h:P.underlying T=some (.slice e))(p:Option Addr)(m c:Nat)(w:World)(ty:TypeId):(Builtin.len_ #[T] ty #[.slice p m c]).run P w=.ok (.int .i64 m) w:=by
 simp[Builtin.len_,run_underlying h,Sem.run_bind,Sem.run_pure,goInt]
theorem Z6{b:Builtin}{T:TypeId}{a:Act}{w:World}{d:Option Tmp}{pos:String}{after:Array Edge}:(execOp a.eval ⟨d,.call ⟨.builtin b,#[x],#[T]⟩,ty,pos,after,none⟩).run P w =
  (builtin b #[T] ty (#[x].map fun|.const _=>true|_=>false) #[a.eval x]).run P w:=by
 simp[execOp,resolve,invoke,Sem.run_bind,Sem.run_pure]
 rfl
theorem Ac{b:Builtin}{T U:TypeId}{a:Act}{w:World}{d:Option Tmp}{pos:String}{after:Array Edge}:(execOp a.eval ⟨d,.call ⟨.builtin b,#[x,y],#[T,U]⟩,ty,pos,after,none⟩).run P w =
  (builtin b #[T,U] ty (#[x,y].map fun|.const _=>true|_=>false) #[a.eval x,a.eval y]).run P w:=by
 simp[execOp,resolve,invoke,Sem.run_bind,Sem.run_pure]
 rfl
theorem Px{T e sz:Nat}[ts:Q4 P T e sz]{kw:Nat}{l:List (List AV)}(hx:ev x=some (.sl kw l)):I2 P E nx hp ev (.call ⟨.builtin .len,#[x],#[T]⟩) ty (.i l.length) :=
 F9 fun _ _ _ θ a w h=>by
  obtain⟨_,p,cap,hv⟩:=Wk (h.rel hx)
  exact⟨_,by rw[Z6,hv];simp[builtin,run_len_slice ts.out.1,Sem.run_bind,Sem.run_pure],.im (.v _)⟩
theorem x9{w:World}{e sz m:Nat}{v:Value}{xs:List Value}(h:AZ w e sz v m xs):∃p cap,v=.slice p m cap∧m≤cap∧cap≤maxLen:=by
 rcases h.2 with ⟨rfl,rfl⟩|⟨g,cap,kz,rfl,_,_,hc,hm,_⟩
 ·exact⟨none,0,rfl,Nat.le_refl _,by unfold maxLen;omega⟩
 ·exact⟨_,cap,rfl,hc,hm⟩
theorem Wl{T e sz:Nat}[ts:Q4 P T e sz]{i ver len e' kw:Nat}{l:List (List AV)}(hx:ev x=some (.row i ver len))(hb:A7 hp i=some (.row e' kw ver l)):I2 P E nx hp ev (.call ⟨.builtin .len,#[x],#[T]⟩) ty (.i len) :=
 F9 fun _ _ _ θ a w h=>by
  obtain⟨hl,hv,_⟩:=BE (h.rel hx) hb
  obtain⟨xs,ko,_⟩:=h.row hb
  obtain⟨p,cap,hs,_⟩:=x9 ko
  have mN:a.eval x=.slice p l.length cap:=by rw[hv];exact hs
  exact⟨_,by rw[Z6,mN,hl];simp[builtin,run_len_slice ts.out.1,Sem.run_bind,Sem.run_pure],.im (.v _)⟩
theorem OE{T:Nat}[ts:s8 P T]{l:List UInt8}(hx:ev x=some (.str l)):I2 P E nx hp ev (.call ⟨.builtin .len,#[x],#[T]⟩) ty (.i l.length) :=
 F9 fun _ _ _ θ a w h=>by
  have hv:=(h.rel hx).sval
  exact⟨_,by rw[Z6,hv];simp[builtin,run_len_string w T ty _ ts.out,Sem.run_bind,Sem.run_pure,goInt,ByteArray.size],.im (.v _)⟩
theorem OG{T e sz:Nat}[ts:Q4 P T e sz](hx:ev x=some (.v (.slice none 0 0))):I2 P E nx hp ev (.call ⟨.builtin .len,#[x],#[T]⟩) ty (.i 0) :=
 F9 fun _ _ _ θ a w h=>⟨_,by rw[Z6,(h.rel hx).val];simp[builtin,run_len_slice ts.out.1,Sem.run_bind,Sem.run_pure],.im (.v _)⟩
theorem EG{T e sz:Nat}[ts:Q4 P T e sz]{a:Addr}{m c:Nat}{k:IntKind}{i:Int}(h0:0≤i)(h1:i<m)(w:World):(Instr.indexAt T (.slice (some a) m c) (.int k i)).run P w=.ok (.pointer (some (a.add (i.toNat*sz)))) w:=by
 obtain⟨h2,inf,h3,h4⟩:=ts.out
 simp[Instr.indexAt,asIntOf,run_underlying h2,Sem.run_bind,Sem.run_pure,h0,h1,sizeOf,typeInfo,program,Sem.run,h3,h4]
theorem Lq{T e sz:Nat}[ts:Q4 P T e sz]{l:List (List AV)}{k:IntKind}{i:Int}{el:List AV}(hx:ev x=some (.sl sz l))(hy:ev y=some (.v (.int k i)))(h0:0≤i)(ke:l[i.toNat]?=some el):I2 P E nx hp ev (.indexAddr T x y) ty (.iptr el) :=
 F9 fun _ _ _ θ a w h=>by
  have kj:i.toNat<l.length:=(List.getElem?_eq_some_iff.1 ke).1
  have hi:=(h.rel hy).val
  rcases Gg (h.rel hx)with ⟨_,e⟩|⟨p,cap,f,hv,h3,h4,h5,h6,h7,h8⟩
  ·subst e;simp at kj
  ·have hsz:=h6 _ (List.mem_of_getElem? ke)
   refine⟨.pointer (some (p.add (i.toNat*sz))),?_,.im (.iptr _ _ (f i.toNat) (fun hne=>?_) (fun j hj=>?_) fun j u hu=>h8 _ _ ke j u hu)⟩
   ·simp only[execOp,hv,hi,Sem.run_bind]
    rw[EG (P:=P) (T:=T) (e:=e) (sz:=sz) h0 (by omega)]
    rfl
   ·rw[Z0]
    refine h5 (by intro e;simp[e]at kj) ?_
    have h9:=List.length_pos_iff.2 hne
    omega
   ·rw[Dl]
    exact h7 _ kj _ (by omega)
theorem Sj{T e sz:Nat}[ts:Q4 P T e sz]{i ver len e':Nat}{l:List (List AV)}{k:IntKind}{j:Int}(hx:ev x=some (.row i ver len))(hb:A7 hp i=some (.row e' sz ver l))(hy:ev y=some (.v (.int k j)))(h0:0≤j)(h1:j<len):
  I2 P E nx hp ev (.indexAddr T x y) ty (.elt i ver j.toNat 0) :=
 F9 fun _ _ _ θ a w h=>by
  obtain⟨hl,hv,ld⟩:=BE (h.rel hx) hb
  obtain⟨xs,ko,hsz,_⟩:=h.row hb
  have hj:=(h.rel hy).val
  rcases ko.2 with ⟨hθ,hn⟩|⟨g,cap,kz,hθ,_,hg,_⟩
  ·omega
  ·have mN:a.eval x=.slice (some ⟨g,0,none⟩) l.length cap:=by rw[hv];exact hθ
   refine⟨.pointer (some ⟨g,j.toNat*sz,none⟩),?_,.elt i ver _ 0 _ ld fun e2 ol v2 l2 lk=>?_⟩
   ·simp only[execOp,mN,hj,Sem.run_bind]
    rw[EG (P:=P) (T:=T) (e:=e) (sz:=sz) h0 (by omega),addr_add,Nat.zero_add]
    rfl
   ·have:A7 hp i=some (.row e2 ol v2 l2):=lk
    rw[hb]at this
    cases this
    exact⟨Nat.le_refl _,fun _=>⟨g,l.length,cap,hθ,by simp⟩⟩
theorem KX{T:Nat}[ts:s8 P T]{l:List UInt8}{k:IntKind}{i:Int}{b:UInt8}(hx:ev x=some (.str l))(hy:ev y=some (.v (.int k i)))(h0:0≤i)(ke:l[i.toNat]?=some b):I2 P E nx hp ev (.index T x y) ty (.v (.int .u8 b.toNat)) :=
 F9 fun _ _ _ θ a w h=>by
  have kj:i.toNat<l.length:=(List.getElem?_eq_some_iff.1 ke).1
  have hi:=(h.rel hy).val
  have hv:=(h.rel hx).sval
  refine⟨_,?_,.im (.v _)⟩
  have hb:(⟨l.toArray⟩:ByteArray)[i.toNat]?=some b:=by
   rw[getElem?_pos (ByteArray.mk l.toArray) i.toNat (show i.toNat<(ByteArray.mk l.toArray).size by simpa [ByteArray.size]using kj)]
   rw[←ke,List.getElem?_eq_getElem kj]
   rfl
  simp only[execOp,hv,hi,Instr.index,asIntOf,Sem.run_bind,Sem.run_pure,Result.andThen_ok,run_underlying ts.out,if_pos h0,hb]
theorem OH{T len e sz:Nat}[ts:IM P T len e sz]{a:Addr}{k:IntKind}{i:Int}(h0:0≤i)(h1:i<len)(w:World):(Instr.indexAt T (.pointer (some a)) (.int k i)).run P w=.ok (.pointer (some (a.add (i.toNat*sz)))) w:=by
 obtain⟨h2,inf,h3,h4⟩:=ts.out
 simp[Instr.indexAt,asIntOf,run_underlying h2,Sem.run_bind,Sem.run_pure,h0,h1,sizeOf,typeInfo,program,Sem.run,h3,h4,Instr.sureAddr]
theorem Sk{T len e sz:Nat}[ts:IM P T len e sz]{i o:Nat}{k:IntKind}{j:Int}(hx:ev x=some (.ref i o))(hy:ev y=some (.v (.int k j)))(h0:0≤j)(h1:j<len):I2 P E nx hp ev (.indexAddr T x y) ty (.ref i (o+j.toNat*sz)) :=
 F9 fun _ _ _ θ a w h=>by
  obtain⟨b,hθ,hv,ld⟩:=X4 (h.rel hx)
  have hj:=(h.rel hy).val
  refine⟨.pointer (some ⟨b,o+j.toNat*sz,none⟩),?_,.ref i _ b ld hθ⟩
  simp only[execOp,hv,hj,Sem.run_bind]
  rw[OH (P:=P) (T:=T) (len:=len) (e:=e) (sz:=sz) h0 h1,addr_add]
  rfl
theorem Py{T len e:Nat}[ts:IM P T len e 1]{l:List AV}{k:IntKind}{j:Int}{av:AV}(hx:ev x=some (.iptr l))(hy:ev y=some (.v (.int k j)))(hl:l.length=len)(h0:0≤j)(ke:l[j.toNat]?=some av):I2 P E nx hp ev (.indexAddr T x y) ty (.iptr [av]) :=
 F9 fun _ _ _ θ a w h=>by
  obtain⟨p,f,hv,hu,hc,hh⟩:=Dk (h.rel hx)
  have hj:=(h.rel hy).val
  have kj:j.toNat<l.length:=(List.getElem?_eq_some_iff.1 ke).1
  refine⟨.pointer (some (p.add j.toNat)),?_,.im (.iptr [av] _ (fun i=>f (j.toNat+i)) (fun _=>?_) (fun i hi=>?_) (fun i u ud=>?_))⟩
  ·simp only[execOp,hv,hj,Sem.run_bind]
   rw[OH (P:=P) (T:=T) (len:=len) (e:=e) (sz:=1) h0 (by omega),Nat.mul_one]
   rfl
  ·rw[Z0];exact hu (by rintro rfl;simp at kj)
  ·have wO:i=0:=by simpa using hi
   subst wO
   have:=hc j.toNat kj
   rw[Nat.add_zero]
   have e0:(p.add j.toNat).add 0=p.add j.toNat:=by simp[Addr.add]
   rw[e0];exact this
  ·match i,ud with
   |0,ud=>cases ud;exact hh j.toNat av ke
theorem Wm{i o:Nat}(hx:ev x=some (.ref i o)):I2 P E nx hp ev (.nilCheck x) ty (.ref i o) :=
 F9 fun _ _ _ θ a w h=>by
  obtain⟨b,hθ,hv,ld⟩:=X4 (h.rel hx)
  exact⟨_,by simp[execOp,hv,Sem.run_pure],.ref i _ b ld hθ⟩
theorem Wn{i ver k o e sz:Nat}{l:List (List AV)}(hx:ev x=some (.elt i ver k o))(hb:A7 hp i=some (.row e sz ver l)):I2 P E nx hp ev (.nilCheck x) ty (.elt i ver k o) :=
 F9 fun _ _ _ θ a w h=>by
  obtain⟨g,m,cap,hθ,hv,ld⟩:=Cn (h.rel hx) hb
  exact⟨a.eval x,by simp[execOp,hv,Sem.run_pure],h.rel hx⟩
theorem Ux{l:List AV}(hx:ev x=some (.iptr l)):I2 P E nx hp ev (.nilCheck x) ty (.iptr l) :=
 F9 fun _ _ _ θ a w h=>by
  obtain⟨p,f,hv,_⟩:=Dk (h.rel hx)
  exact⟨a.eval x,by simp[execOp,hv,Sem.run_pure],h.rel hx⟩
theorem jF{T U:Nat}{k:IntKind}{a b:Int}(hx:ev x=some (.v (.int k a)))(hy:ev y=some (.v (.int k b))):I2 P E nx hp ev (.call ⟨.builtin .min,#[x,y],#[T,U]⟩) ty (.v (.int k (min a b))) :=
 F9 fun _ _ _ θ ac w h=>⟨.int k (min a b),by
  have:min a b=(if b<a then b else a):=by rw[Int.min_def];split<;>split<;>omega
  rw[Ac,(h.rel hx).val,(h.rel hy).val,this]
  simp[builtin,Builtin.min_,Builtin.min2,Sem.run_bind,Sem.run_pure],.im (.v _)⟩
theorem cN{T U:Nat}{k:IntKind}{a b:Int}(hx:ev x=some (.v (.int k a)))(hy:ev y=some (.v (.int k b))):I2 P E nx hp ev (.call ⟨.builtin .max,#[x,y],#[T,U]⟩) ty (.v (.int k (max a b))) :=
 F9 fun _ _ _ θ ac w h=>⟨.int k (max a b),by
  have:max a b=(if a<b then b else a):=by rw[Int.max_def];split<;>split<;>omega
  rw[Ac,(h.rel hx).val,(h.rel hy).val,this]
  simp[builtin,Builtin.max_,Builtin.max2,Sem.run_bind,Sem.run_pure],.im (.v _)⟩
end rules
inductive T9:AV→Prop
 |v (x:Value):T9 (.v x)
 |str (l:List UInt8):T9 (.str l)
 |sl (sz:Nat) (l:List (List AV)):T9 (.sl sz l)
 |iptr (l:List AV):T9 (.iptr l)
 |fn (f:Nat) (l:List AV):T9 (.fn f l)
 |err:T9 .err
 |any:T9 .any
 |agg {l:List AV} (h:∀x∈l,T9 x):T9 (.agg l)
 |tup {l:List AV} (h:∀x∈l,T9 x):T9 (.tup l)
theorem T9.im{c:Cx}{a:AV}{x:Value}(k:T9 a)(r:G2 c a x):Im c.U c.w a x:=by
 induction r with
 |any x=>exact .any x
 |im h=>exact h
 |fo f l cs hl h ih=>cases k
 |sub i ver lo len x hi hr=>cases k
 |agg l cs hl h ih =>
  cases k with
  |agg hk=>exact .agg l cs hl fun j x y hx hy=>ih j x y hx hy (hk x (List.mem_of_getElem? hx))
 |tup l cs hl h ih =>
  cases k with
  |tup hk=>exact .tup l cs hl fun j x y hx hy=>ih j x y hx hy (hk x (List.mem_of_getElem? hx))
 |ref=>cases k
 |row=>cases k
 |mp=>cases k
 |elt=>cases k
mutual
def O2:AV→Bool
 |.v _|.str _|.sl _ _|.iptr _|.fn _ _|.err|.any=>true
 |.agg l|.tup l=>M3 l
 |_=>false
def M3:List AV→Bool
 |[]=>true
 |x::r=>O2 x && M3 r
end
mutual
theorem Ad:∀{a:AV},O2 a=true→T9 a
 |.v x,_=>.v x
 |.str l,_=>.str l
 |.sl s l,_=>.sl s l
 |.iptr l,_=>.iptr l
 |.fn f l,_=>.fn f l
 |.err,_=>.err
 |.agg l,h=>.agg (U2 (by simpa only[O2]using h))
 |.tup l,h=>.tup (U2 (by simpa only[O2]using h))
 |.any,_=>.any
 |.ref ..,h=>by simp[O2]at h
 |.row ..,h=>by simp[O2]at h
 |.mp ..,h=>by simp[O2]at h
 |.elt ..,h=>by simp[O2]at h
theorem U2:∀{l:List AV},M3 l=true→∀x∈l,T9 x
 |[],_,x,hx=>by cases hx
 |y::r,h,x,hx=>by
  simp only[M3,Bool.and_eq_true]at h
  have hy:=Ad h.1
  have hr:=U2 h.2
  rcases List.mem_cons.1 hx with rfl|hx
  ·exact hy
  ·exact hr x hx
end
def Uy (P : Program) (f : Nat) : Prop := ∃ fn,P.funcs[f]? = some fn ∧ (fn.name == "runtime.NumGoroutine") = false ∧ fn.body.isNone = false
def A4(P:Program)(f:Nat)(args:List AV)(r:AV):Prop:=Uy P f ∧
 ∀(X:Nat→Prop) (w:World) (vs:List Value),(∀k,X k→k<w.heap.size)→w7 X w→args.length=vs.length→(∀(j:Nat) a v,args[j]?=some a→vs[j]?=some v→Im X w a v) →
  Calls P f vs.toArray w fun e w'=>∃v,e=.returned v∧Im X w' r v∧Below w.heap.size w w'
def s9(ev:Operand→Option AV):List Operand→Option (List AV)
 |[]=>some []
 |x::r=>match ev x,s9 ev r with
  |some a,some l=>some (a::l)
  |_,_=>none
theorem Ba{E:Env}{θ:Th}{nx:Nat}{hp:Hp}{ev:Operand→Option AV}{a:Act}{w:World}(h:Ab E θ nx hp ev a w):∀(xs:List Operand) (l:List AV),s9 ev xs=some l→l.length=xs.length∧∀(j:Nat) av v,l[j]?=some av→(xs.map a.eval)[j]?=some v→G2 (kx E θ nx hp w) av v
 |[],l,e=>by simp[s9]at e;subst e;simp
 |x::r,l,e=>by
  simp only[s9]at e
  split at e
  ·rename_i a1 l1 h1 h2
   cases e
   obtain⟨h3,h4⟩:=Ba h r l1 h2
   refine⟨by simp[h3],fun j av v hj hv=>?_⟩
   cases j with
   |zero=>simp at hj hv;subst hj hv;exact h.rel h1
   |succ j=>simp at hj hv;exact h4 j av v hj (by simpa using hv)
  ·cases e
section rules
variable {P:Program} {E:Env} {n nx:Nat} {hp:Hp} {ev:Operand→Option AV} {ops:Array Oper} {rest:List Oper} {σ:St} {K:St→Prop} {Q:Exit→St→Prop}
variable {ty:TypeId} {x y:Operand}
theorem Pz{f:Nat}(hf:Uy P f){a:Act}{w:World}{xs:List Operand}{ts:Array TypeId}{o:Option Tmp}{pos:String}{after:Array Edge}{g:Operand}{cs:Array Value}(hg:a.eval g=.func (.func f) #[] cs):
  (execOp a.eval ⟨o,.call ⟨.value g,xs.toArray,ts⟩,ty,pos,after,none⟩).run P w=.ok (.enter f ((xs.map a.eval).toArray++cs)) w:=by
 obtain⟨fn,h1,h2,h3⟩:=hf
 have pG : ¬ fn.name = "runtime.NumGoroutine" := by simpa using h2
 have pM:¬fn.body=none:=by intro e;simp[e]at h3
 simp[execOp,resolve,Deferred.ofValue,hg,invoke,callFunc,program,Sem.run_bind,Sem.run_pure,Sem.run,h1]
 rw[if_neg pG,if_neg pM]
theorem Wo{f:Nat}(hf:Uy P f){a:Act}{w:World}{xs:List Operand}{ts:Array TypeId}{o:Option Tmp}{pos:String}{after:Array Edge}{g:Operand}{cf cs:Array Value}(hg:a.eval g=.func (.func f) cf cs):
  (execOp a.eval ⟨o,.call ⟨.value g,xs.toArray,ts⟩,ty,pos,after,none⟩).run P w=.ok (.enter f (cf++(xs.map a.eval).toArray++cs)) w:=by
 obtain⟨fn,h1,h2,h3⟩:=hf
 have pG : ¬ fn.name = "runtime.NumGoroutine" := by simpa using h2
 have pM:¬fn.body=none:=by intro e;simp[e]at h3
 simp[execOp,resolve,Deferred.ofValue,hg,invoke,callFunc,program,Sem.run_bind,Sem.run_pure,Sem.run,h1]
 rw[if_neg pG,if_neg pM]
theorem Uz{f:Nat}{xs:List Operand}{args caps:List AV}{r:AV}{ts:Array TypeId}{g:Operand}(hc:A4 P f (args++caps) r)(ha:s9 ev xs=some args)(ku:∀a∈args,T9 a)
  (hg:∀θ a w,Ab E θ nx hp ev a w→∃cs:List Value,a.eval g=.func (.func f) #[] cs.toArray∧caps.length=cs.length∧∀(j:Nat) x c,caps[j]?=some x→cs[j]?=some c→Im (kx E θ nx hp w).U w x c) :
  I2 P E nx hp ev (.call ⟨.value g,xs.toArray,ts⟩) ty r:=by
 intro d pos after θ a w K hs hk
 obtain⟨hl,hr⟩:=Ba hs xs args ha
 obtain⟨cs,mw,oh,nw⟩:=hg θ a w hs
 unfold IH
 rw[Pz hc.1 mw]
 have hX:=hc.2 (kx E θ nx hp w).U w (xs.map a.eval++cs) hs.Ult hs.tab (by simp[hl,oh]) fun j av v hj hv=>by
  rw[List.getElem?_append]at hj hv
  have e1:(xs.map a.eval).length=args.length:=by simp[hl]
  rw[e1]at hv
  split at hj
  ·rename_i kj
   rw[if_pos kj]at hv
   exact(ku av (List.mem_of_getElem? hj)).im (hr j av v hj hv)
  ·rename_i kj
   rw[if_neg kj]at hv
   exact nw _ av v hj hv
 rw[←List.append_toArray]at hX
 refine Calls.mono hX ?_
 rintro e w' ⟨v,rfl,hv,hb⟩
 exact⟨v,rfl,hk v w' hb (.im hv)⟩
def jG(P:Program)(f:Nat)(args:List AV)(r:AV):Prop:=∃(xs:List Value) (y:Value),args=xs.map AV.v∧(∀w,(callFunc f xs.toArray).run P w=.ok (.value y) w)∧∀U w,Im U w r y
def Pb(P:Program)(f:Nat)(args:List AV)(r:AV):Prop:=A4 P f args r∨jG P f args r
theorem Wp{f:Nat}{a:Act}{w:World}{xs:List Operand}{ts:Array TypeId}{o:Option Tmp}{pos:String}{after:Array Edge}{g:Operand}{cs:Array Value}(hg:a.eval g=.func (.func f) #[] cs):
  (execOp a.eval ⟨o,.call ⟨.value g,xs.toArray,ts⟩,ty,pos,after,none⟩).run P w=(callFunc f ((xs.map a.eval).toArray++cs)).run P w:=by
 simp[execOp,resolve,Deferred.ofValue,hg,invoke,Sem.run_bind,Sem.run_pure,Sem.run]
theorem KY{f:Nat}{xs:List Operand}{args caps:List AV}{r:AV}{ts:Array TypeId}{g:Operand}(hc:Pb P f (args++caps) r)(ha:s9 ev xs=some args)(ku:∀a∈args,T9 a)
  (hg:∀θ a w,Ab E θ nx hp ev a w→∃cs:List Value,a.eval g=.func (.func f) #[] cs.toArray∧caps.length=cs.length∧∀(j:Nat) x c,caps[j]?=some x→cs[j]?=some c→Im (kx E θ nx hp w).U w x c) :
  I2 P E nx hp ev (.call ⟨.value g,xs.toArray,ts⟩) ty r:=by
 rcases hc with hc|⟨vs,y,oS,lN,hy⟩
 ·exact Uz hc ha ku hg
 intro d pos after θ a w K hs hk
 obtain⟨hl,hr⟩:=Ba hs xs args ha
 obtain⟨cs,mw,oh,nw⟩:=hg θ a w hs
 unfold IH
 have he:xs.map a.eval++cs=vs:=by
  have kf:=congrArg List.length oS
  simp only[List.length_append,List.length_map]at kf
  refine List.ext_getElem? fun j=>?_
  by_cases hj:j<vs.length
  ·have h1:(args++caps)[j]?=some (AV.v vs[j]):=by rw[oS,List.getElem?_map,List.getElem?_eq_getElem hj];rfl
   rw[List.getElem?_eq_getElem hj]
   rw[List.getElem?_append]at h1 ⊢
   have e1:(xs.map a.eval).length=args.length:=by simp[hl]
   rw[e1]
   split at h1
   ·rename_i kj
    rw[if_pos kj]
    have mf:j<(xs.map a.eval).length:=by omega
    have h2:=hr j _ _ h1 (List.getElem?_eq_getElem mf)
    rw[List.getElem?_eq_getElem mf,h2.val]
   ·rename_i kj
    rw[if_neg kj]
    have mf:j-args.length<cs.length:=by omega
    have h2:=nw _ _ _ h1 (List.getElem?_eq_getElem mf)
    rw[List.getElem?_eq_getElem mf,(G2.im h2:G2 (kx E θ nx hp w) _ _).val]
  ·rw[List.getElem?_eq_none (by simp;omega),List.getElem?_eq_none (by omega)]
 rw[Wp mw,List.append_toArray,he,lN w]
 exact hk y w (Below.refl _ _) (.im (hy _ _))
theorem NG{f:Nat}{xs:List Operand}{args:List AV}{r:AV}{ts:Array TypeId}(hc:Pb P f args r)(ha:s9 ev xs=some args)(ku:M3 args=true):
  I2 P E nx hp ev (.call ⟨.value (.func f),xs.toArray,ts⟩) ty r :=
 KY (caps:=[]) (by rw[List.append_nil];exact hc) ha (U2 ku) fun _ _ _ _=>⟨[],rfl,rfl,fun j x c hx=>by simp at hx⟩
theorem ZB{f:Nat}{xs:List Operand}{args caps:List AV}{r:AV}{ts:Array TypeId}{g:Operand}(hg:ev g=some (.fn f caps))(hc:Pb P f (args++caps) r)(ha:s9 ev xs=some args)(ku:M3 args=true):
  I2 P E nx hp ev (.call ⟨.value g,xs.toArray,ts⟩) ty r :=
 KY hc ha (U2 ku) fun θ a w h=>by
  have:=(h.rel hg)
  generalize a.eval g=v at this
  cases this with
  |im hi=>cases hi with|fn f l cs hl hc=>exact⟨cs,rfl,hl,hc⟩
theorem FM(w:World)(o:Obj):Below w.heap.size w (w.drew.alloc o):=(Below.drew (Below.refl _ _)).alloc (Nat.le_refl _) o
theorem Y4(w:World)(o:Obj):Below w.heap.size w (w.alloc o):=(Below.refl _ _).alloc (Nat.le_refl _) o
theorem KZ{S T e sz:Nat}[hS:s8 P S][ts:Q4 P T e sz][he:V7 P e .u8]{l:List UInt8}(hx:ev x=some (.str l))(hl:l.length≤9223372036854775807):
  I2 P E nx hp ev (.convert S T x) ty (.sl 1 (l.map fun b=>[.v (.int .u8 b.toNat)])) :=
 Wg fun _ _ _ θ a w h=>by
  have hv:=(h.rel hx).sval
  have hr:=run_bytes_of_string (P:=P) w S T e ⟨l.toArray⟩ hS.out ts.out.1 he.out
  have hsz:(ByteArray.mk l.toArray).size=l.length:=rfl
  rw[hsz]at hr
  have lT:grownCap w l.length 0 e≤maxLen:=grownCap_le_maxLen w _ 0 e (by unfold maxLen;omega)
  have mw:=grownCap_ge w l.length 0 e
  generalize grownCap w l.length 0 e=cap at hr lT mw
  generalize hC:bytesRow ⟨l.toArray⟩ cap=C at hr
  refine⟨.slice (some ⟨w.heap.size,0,none⟩) l.length cap,w.drew.alloc (.cells C e (C.size,C.size+1)),?_,FM w _,.im ?_⟩
  ·simp only[execOp,hv,Sem.run_bind,hr,Result.andThen_ok,Sem.run_pure]
  ·have kf:(l.map fun b=>[AV.v (.int .u8 b.toNat)]).length=l.length:=List.length_map _
   rw[←kf]
   refine Im.sl 1 _ ⟨w.heap.size,0,none⟩ cap (fun i _=>.int .u8 ((l.getD i 0).toNat)) (by rw[kf];exact mw) lT
    (fun _ _ hu=>absurd (h.Ult _ hu) (Nat.lt_irrefl _)) (fun el ke=>?_) (fun i hi j hj=>?_) (fun i el hi j u hu=>?_)
   ·obtain⟨b,_,rfl⟩:=List.mem_map.1 ke
    rfl
   ·have mc:j=0:=by omega
    subst mc
    rw[kf]at hi
    rw[addr_add]
    refine(P5 (b:=w.heap.size) (heap_alloc_new w.drew _) _).trans ?_
    have lc:i<(Array.map (fun (b:UInt8)=>Value.int .u8 b.toNat) l.toArray).size:=by simp;exact hi
    rw[←hC]
    simp only[bytesRow,Nat.zero_add,Nat.mul_one,Nat.add_zero]
    rw[Array.getElem?_append_left lc]
    simp[hi]
   ·rw[List.getElem?_map,Option.map_eq_some_iff]at hi
    obtain⟨b,hb,rfl⟩:=hi
    cases j with
    |zero =>
     cases hu
     have:l.getD i 0=b:=by rw[List.getD,hb];rfl
     rw[this]
     exact .v _
    |succ j=>cases hu
theorem Ka{S T e sz:Nat}[ts:Q4 P S e sz][he:V7 P e .u8][hT:s8 P T]{l:List UInt8}(hx:ev x=some (.sl 1 (l.map fun b=>[.v (.int .u8 b.toNat)]))):I2 P E nx hp ev (.convert S T x) ty (.str l) :=
 F9 fun _ _ _ θ a w h=>by
  refine⟨.string ⟨l.toArray⟩,?_,.im (.str l)⟩
  rcases Gg (h.rel hx)with ⟨hn,hl⟩|⟨p,cap,f,pN,oD,nH,qm,po,uT,uy⟩
  ·have:l=[]:=by simpa using hl
   subst this
   simp only[execOp,hn,Sem.run_bind]
   rw[run_convert_bytes_string w S T e none 0 0 ts.out.1 he.out hT.out]
   rfl
  ·rw[List.length_map]at pN uT
   have hr:=run_convert_bytes_back (P:=P) w S T e p cap l ts.out.1 he.out hT.out (fun j hj=>by
    have h1:=uT j hj 0 (by omega)
    rw[Nat.mul_one,Nat.add_zero]at h1
    have h2:=uy j [.v (.int .u8 l[j].toNat)] (by rw[List.getElem?_map,List.getElem?_eq_getElem hj];rfl) 0 _ rfl
    generalize f j 0=z at h1 h2
    cases h2 with
    |v _=>exact h1)
   simp only[execOp,pN,Sem.run_bind,hr,Result.andThen_ok,Sem.run_pure]
theorem Lr{S T:Nat}{k k':IntKind}[tk:V7 P T k][tS:V7 P S k']{m:Int}(hx:ev x=some (.v (.int k' m))):I2 P E nx hp ev (.convert S T x) ty (.v (.int k (k.wrap m))) :=
 F9 fun _ _ _ θ a w h=>by
  have hv:=(h.rel hx).val
  refine⟨_,?_,.im (.v _)⟩
  simp only[execOp,hv,convert,Sem.run_bind,run_underlying tS.out,run_underlying tk.out,Result.andThen_ok,Conv.intToInt]
  rfl
theorem Kb{S T:Nat}{k:IntKind}[tS:V7 P S k][tT:s8 P T]{m:Int}(hx:ev x=some (.v (.int k m))):I2 P E nx hp ev (.convert S T x) ty (.str (Utf8.encode m).data.toList) :=
 F9 fun _ _ _ θ a w h=>by
  have hv:=(h.rel hx).val
  refine⟨.string (Utf8.encode m),?_,.im (by
   have:Utf8.encode m=⟨(Utf8.encode m).data.toList.toArray⟩:=rfl
   exact .str _)⟩
  simp only[execOp,hv,convert,Sem.run_bind,run_underlying tS.out,run_underlying tT.out,Result.andThen_ok,Conv.intToString]
  rfl
inductive One (hp:Hp):AV→Prop
 |v {x:Value} (h:x.oneCell'=true):One hp (.v x)
 |str (l:List UInt8):One hp (.str l)
 |sl (sz:Nat) (l:List (List AV)):One hp (.sl sz l)
 |iptr (l:List AV):One hp (.iptr l)
 |fn (f:Nat) (l:List AV):One hp (.fn f l)
 |fo (f:Nat) (l:List AV):One hp (.fo f l)
 |ref (i off:Nat):One hp (.ref i off)
 |mp (i:Nat):One hp (.mp i)
 |row {i e sz ver len:Nat} {l:List (List AV)} (h:A7 hp i=some (.row e sz ver l)):One hp (.row i ver len)
theorem One.val{θ:Th}{a:Act}{w:World}(h:Ab E θ nx hp ev a w){x:AV}{y:Value}(o:One hp x)(r:G2 (kx E θ nx hp w) x y):y.oneCell'=true:=by
 cases o with
 |v hx=>rw[r.val];exact hx
 |str l=>rw[r.sval];rfl
 |sl sz l=>cases r with|im hi=>cases hi<;>rfl
 |iptr l=>cases r with|im hi=>cases hi;rfl
 |fn f l=>cases r with|im hi=>cases hi;rfl
 |fo f l=>cases r with
  |im hi=>cases hi
  |fo=>unfold Pl;split<;>rfl
 |ref i off=>cases r with
  |im hi=>cases hi
  |ref=>rfl
 |mp i=>cases r with
  |im hi=>cases hi
  |mp=>rfl
 |row hl =>
  obtain⟨_,h3,_⟩:=BE r hl
  obtain⟨xs,ho,_⟩:=h.row hl
  obtain⟨p,cap,hs,_⟩:=x9 ho
  have:(kx E θ nx hp w).θ=θ:=rfl
  rw[h3,this,hs]
  rfl
theorem IU{y:Value}(h:y.oneCell'=true):y.cells=#[y]:=by cases y<;>first|rfl|simp[Value.oneCell']at h
def J8:AV→List AV
 |.agg l=>l
 |x=>[x]
def Fits(hp:Hp):AV→Prop
 |.agg _=>True
 |x=>One hp x
theorem FG{c:Cx}{l:List AV}{y:Value}(r:G2 c (.agg l) y):∃cs:List Value,y=.agg cs.toArray∧l.length=cs.length∧∀(j:Nat) x z,l[j]?=some x→cs[j]?=some z→G2 c x z:=by
 cases r with
 |im hi=>cases hi with|agg l cs hl h=>exact⟨cs,rfl,hl,fun j x z hx hz=>.im (h j x z hx hz)⟩
 |agg l cs hl h=>exact⟨cs,rfl,hl,h⟩
theorem PJ{P:Program}{T:Nat}{k:IntKind}(h:P.underlying T=some (.int k))(w:World):(isAgg T).run P w=.ok false w:=by
 simp[isAgg,run_underlying h,Sem.run_bind,Sem.run_pure]
theorem P6{P:Program}{T:Nat}{k:IntKind}(h:P.underlying T=some (.int k)){cs:Array Value}{off:Nat}{v:Value}(hv:cs[off]?=some v)(w:World):(part T cs off).run P w=.ok v w:=by
 simp[part,PJ h,Sem.run_bind,Sem.run_pure,hv]
theorem O1{P:Program}{T:Nat}{k:IntKind}(h:P.underlying T=some (.int k))(m:Nat)(a b:Int)(w:World):(Op.equalIn (m+1) T (.int k a) (.int k b)).run P w=.ok (a == b) w:=by
 simp only[Op.equalIn,Sem.run_bind,run_underlying h,Result.andThen_ok]
 simp[Sem.run_pure]
theorem NH {P : Program} {T : Nat} {k1 k2 : IntKind} {f1 f2 : Field} (hT : P.underlying T = some (.struct #[f1,f2])) (nr : f1.name ≠ "_") (nq : f2.name ≠ "_") (qW : f1.offset = 0) (qP : f2.offset = 1) (h1 : P.underlying f1.type = some (.int k1)) (h2 : P.underlying f2.type = some (.int k2)) (hs : P.stoodInHeld T = false) (m : Nat) (a1 a2 b1 b2 : Int) (w : World) :
  (Op.equalIn (m+2) T (.agg #[.int k1 a1,.int k2 a2]) (.agg #[.int k1 b1,.int k2 b2])).run P w=.ok (decide (a1=b1∧a2=b2)) w:=by
 have e1:=P6 h1 (cs:=#[Value.int k1 a1,.int k2 a2]) (off:=0) rfl w
 have e2:=P6 h2 (cs:=#[Value.int k1 a1,.int k2 a2]) (off:=1) rfl w
 have e3:=P6 h1 (cs:=#[Value.int k1 b1,.int k2 b2]) (off:=0) rfl w
 have e4:=P6 h2 (cs:=#[Value.int k1 b1,.int k2 b2]) (off:=1) rfl w
 rw[show m+2=(m+1)+1 from rfl,Op.equalIn]
 simp only[Sem.run_bind,run_underlying hT,Result.andThen_ok]
 have hp:(program).run P w=.ok P w:=by simp[program,Sem.run]
 simp only[Sem.run_bind,hp,Result.andThen_ok,hs]
 simp[nr,nq,qW,qP,Sem.run_bind,Sem.run_pure,e1,e2,e3,e4,O1 h1,O1 h2]
 by_cases c1:a1=b1<;>by_cases c2:a2=b2<;>simp[c1,c2,Sem.run_pure,Sem.run_bind,e1,e2,e3,e4,O1 h1,O1 h2]
theorem HL{c:Cx}{x1 x2 y:Value}(r:G2 c (.agg [.v x1,.v x2]) y):y=.agg #[x1,x2]:=by
 obtain⟨cs,rfl,hl,hr⟩:=FG r
 match cs,hl with
 |[c1,c2],_ =>
  have h1:=(hr 0 (.v x1) c1 rfl rfl).val
  have h2:=(hr 1 (.v x2) c2 rfl rfl).val
  subst h1 h2
  rfl
theorem HM{P:Program}{E:Env}{nx:Nat}{hp:Hp}{ev:Operand→Option AV}{ty:TypeId}{x y:Operand}{T T2:TypeId}{k1 k2:IntKind}{a1 a2 b1 b2:Int}[tp:HJ P T k1 k2](neg:Bool)(hx:ev x=some (.agg [.v (.int k1 a1),.v (.int k2 a2)]))(hy:ev y=some (.agg [.v (.int k1 b1),.v (.int k2 b2)])):
  I2 P E nx hp ev (.binOp (if neg then .neq else .eql) T x y T2) ty (.v (.bool (if neg then !decide (a1=b1∧a2=b2)else decide (a1=b1∧a2=b2)))) :=
 F9 fun _ _ _ _ _ w h=>by
  obtain⟨f1,f2,hT,⟨nr,nq,qW,qP⟩,⟨h1,h2⟩,hs,hg⟩:=tp.out
  have e:(Op.equal T (.agg #[.int k1 a1,.int k2 a2]) (.agg #[.int k1 b1,.int k2 b2])).run P w=.ok (decide (a1=b1∧a2=b2)) w:=NH hT nr nq qW qP h1 h2 hs 9998 a1 a2 b1 b2 w
  have hp:(program).run P w=.ok P w:=by simp[program,Sem.run]
  refine⟨_,P2 ?_ ?_,.im (.v _)⟩
  ·rw[HL (h.rel hx),HL (h.rel hy)]
   cases neg<;>simp[eqGuard,Sem.run_pure,Sem.run_bind,hp,hg]
  ·rw[HL (h.rel hx),HL (h.rel hy)]
   cases neg<;>simp[binOp,e,Sem.run_bind,Sem.run_pure]
theorem PK{P:Program}{T:Nat}(h:P.underlying T=some .string)(w:World):(isAgg T).run P w=.ok false w:=by
 simp[isAgg,run_underlying h,Sem.run_bind,Sem.run_pure]
theorem IV{P:Program}{T:Nat}(h:P.underlying T=some .string){cs:Array Value}{off:Nat}{v:Value}(hv:cs[off]?=some v)(w:World):(part T cs off).run P w=.ok v w:=by
 simp[part,PK h,Sem.run_bind,Sem.run_pure,hv]
theorem jH(a b:List UInt8):((⟨a.toArray⟩:ByteArray) == ⟨b.toArray⟩)=decide (a=b):=by
 show (a.toArray == b.toArray)=_
 by_cases e:a=b<;>simp[e]
theorem II{P:Program}{T:Nat}(h:P.underlying T=some .string)(m:Nat)(a b:List UInt8)(w:World):(Op.equalIn (m+1) T (.string ⟨a.toArray⟩) (.string ⟨b.toArray⟩)).run P w=.ok (decide (a=b)) w:=by
 simp only[Op.equalIn,Sem.run_bind,run_underlying h,Result.andThen_ok]
 simp[Sem.run_pure,jH]
theorem QA {P : Program} {T : Nat} {k2 : IntKind} {f1 f2 : Field} (hT : P.underlying T = some (.struct #[f1,f2])) (nr : f1.name ≠ "_") (nq : f2.name ≠ "_") (qW : f1.offset = 0) (qP : f2.offset = 1) (h1 : P.underlying f1.type = some .string) (h2 : P.underlying f2.type = some (.int k2)) (hs : P.stoodInHeld T = false) (m : Nat) (a1 b1 : List UInt8) (a2 b2 : Int) (w : World) :
  (Op.equalIn (m+2) T (.agg #[.string ⟨a1.toArray⟩,.int k2 a2]) (.agg #[.string ⟨b1.toArray⟩,.int k2 b2])).run P w=.ok (decide (a1=b1∧a2=b2)) w:=by
 have e1:=IV h1 (cs:=#[Value.string ⟨a1.toArray⟩,.int k2 a2]) (off:=0) rfl w
 have e2:=P6 h2 (cs:=#[Value.string ⟨a1.toArray⟩,.int k2 a2]) (off:=1) rfl w
 have e3:=IV h1 (cs:=#[Value.string ⟨b1.toArray⟩,.int k2 b2]) (off:=0) rfl w
 have e4:=P6 h2 (cs:=#[Value.string ⟨b1.toArray⟩,.int k2 b2]) (off:=1) rfl w
 rw[show m+2=(m+1)+1 from rfl,Op.equalIn]
 simp only[Sem.run_bind,run_underlying hT,Result.andThen_ok]
 have hp:(program).run P w=.ok P w:=by simp[program,Sem.run]
 simp only[Sem.run_bind,hp,Result.andThen_ok,hs]
 simp[nr,nq,qW,qP,Sem.run_bind,Sem.run_pure,e1,e2,e3,e4,II h1,O1 h2]
 by_cases c1:a1=b1<;>by_cases c2:a2=b2<;>simp[c1,c2,Sem.run_pure,Sem.run_bind,e1,e2,e3,e4,II h1,O1 h2]
theorem Ls{c:Cx}{s:List UInt8}{x2 y:Value}(r:G2 c (.agg [.str s,.v x2]) y):y=.agg #[.string ⟨s.toArray⟩,x2]:=by
 obtain⟨cs,rfl,hl,hr⟩:=FG r
 match cs,hl with
 |[c1,c2],_ =>
  have h1:=(hr 0 (.str s) c1 rfl rfl).sval
  have h2:=(hr 1 (.v x2) c2 rfl rfl).val
  subst h1 h2
  rfl
theorem Lt{P:Program}{E:Env}{nx:Nat}{hp:Hp}{ev:Operand→Option AV}{ty:TypeId}{x y:Operand}{T T2:TypeId}{k2:IntKind}{a1 b1:List UInt8}{a2 b2:Int}[tp:FE P T k2](neg:Bool)(hx:ev x=some (.agg [.str a1,.v (.int k2 a2)]))(hy:ev y=some (.agg [.str b1,.v (.int k2 b2)])):
  I2 P E nx hp ev (.binOp (if neg then .neq else .eql) T x y T2) ty (.v (.bool (if neg then !decide (a1=b1∧a2=b2)else decide (a1=b1∧a2=b2)))) :=
 F9 fun _ _ _ _ _ w h=>by
  obtain⟨f1,f2,hT,⟨nr,nq,qW,qP⟩,⟨h1,h2⟩,hs,hg⟩:=tp.out
  have e:(Op.equal T (.agg #[.string ⟨a1.toArray⟩,.int k2 a2]) (.agg #[.string ⟨b1.toArray⟩,.int k2 b2])).run P w=.ok (decide (a1=b1∧a2=b2)) w:=QA hT nr nq qW qP h1 h2 hs 9998 a1 b1 a2 b2 w
  have hp:(program).run P w=.ok P w:=by simp[program,Sem.run]
  refine⟨_,P2 ?_ ?_,.im (.v _)⟩
  ·rw[Ls (h.rel hx),Ls (h.rel hy)]
   cases neg<;>simp[eqGuard,Sem.run_pure,Sem.run_bind,hp,hg]
  ·rw[Ls (h.rel hx),Ls (h.rel hy)]
   cases neg<;>simp[binOp,e,Sem.run_bind,Sem.run_pure]
theorem NI {P : Program} {T : Nat} {k1 k2 k3 : IntKind} {f1 f2 f3 : Field} (hT : P.underlying T = some (.struct #[f1,f2,f3])) (hn : f1.name ≠ "_" ∧ f2.name ≠ "_" ∧ f3.name ≠ "_" ∧ f1.offset = 0 ∧ f2.offset = 1 ∧ f3.offset = 2) (h1 : P.underlying f1.type = some (.int k1)) (h2 : P.underlying f2.type = some (.int k2)) (h3 : P.underlying f3.type = some (.int k3)) (hs : P.stoodInHeld T = false) (m : Nat) (a1 a2 a3 b1 b2 b3 : Int) (w : World) :
  (Op.equalIn (m+2) T (.agg #[.int k1 a1,.int k2 a2,.int k3 a3]) (.agg #[.int k1 b1,.int k2 b2,.int k3 b3])).run P w=.ok (decide (a1=b1∧a2=b2∧a3=b3)) w:=by
 obtain⟨nr,nq,xd,qW,qP,xK⟩:=hn
 have e1:=P6 h1 (cs:=#[Value.int k1 a1,.int k2 a2,.int k3 a3]) (off:=0) rfl w
 have e2:=P6 h2 (cs:=#[Value.int k1 a1,.int k2 a2,.int k3 a3]) (off:=1) rfl w
 have e3:=P6 h3 (cs:=#[Value.int k1 a1,.int k2 a2,.int k3 a3]) (off:=2) rfl w
 have g1:=P6 h1 (cs:=#[Value.int k1 b1,.int k2 b2,.int k3 b3]) (off:=0) rfl w
 have g2:=P6 h2 (cs:=#[Value.int k1 b1,.int k2 b2,.int k3 b3]) (off:=1) rfl w
 have g3:=P6 h3 (cs:=#[Value.int k1 b1,.int k2 b2,.int k3 b3]) (off:=2) rfl w
 rw[show m+2=(m+1)+1 from rfl,Op.equalIn]
 simp only[Sem.run_bind,run_underlying hT,Result.andThen_ok]
 have hp:(program).run P w=.ok P w:=by simp[program,Sem.run]
 simp only[Sem.run_bind,hp,Result.andThen_ok,hs]
 simp[nr,nq,xd,qW,qP,xK,Sem.run_bind,Sem.run_pure,e1,e2,e3,g1,g2,g3,O1 h1,O1 h2,O1 h3]
 by_cases c1:a1=b1<;>by_cases c2:a2=b2<;>by_cases c3:a3=b3<;>simp[c1,c2,c3,Sem.run_pure,Sem.run_bind,e1,e2,e3,g1,g2,g3,O1 h1,O1 h2,O1 h3]
theorem HN{c:Cx}{x1 x2 x3 y:Value}(r:G2 c (.agg [.v x1,.v x2,.v x3]) y):y=.agg #[x1,x2,x3]:=by
 obtain⟨cs,rfl,hl,hr⟩:=FG r
 match cs,hl with
 |[c1,c2,c3],_ =>
  have h1:=(hr 0 (.v x1) c1 rfl rfl).val
  have h2:=(hr 1 (.v x2) c2 rfl rfl).val
  have h3:=(hr 2 (.v x3) c3 rfl rfl).val
  subst h1 h2 h3
  rfl
theorem HO{P:Program}{E:Env}{nx:Nat}{hp:Hp}{ev:Operand→Option AV}{ty:TypeId}{x y:Operand}{T T2:TypeId}{k1 k2 k3:IntKind}{a1 a2 a3 b1 b2 b3:Int}[tp:HK P T k1 k2 k3](neg:Bool)(hx:ev x=some (.agg [.v (.int k1 a1),.v (.int k2 a2),.v (.int k3 a3)]))(hy:ev y=some (.agg [.v (.int k1 b1),.v (.int k2 b2),.v (.int k3 b3)])):
  I2 P E nx hp ev (.binOp (if neg then .neq else .eql) T x y T2) ty (.v (.bool (if neg then !decide (a1=b1∧a2=b2∧a3=b3)else decide (a1=b1∧a2=b2∧a3=b3)))) :=
 F9 fun _ _ _ _ _ w h=>by
  obtain⟨f1,f2,f3,hT,hn,⟨h1,h2,h3⟩,hs,hg⟩:=tp.out
  have e:(Op.equal T (.agg #[.int k1 a1,.int k2 a2,.int k3 a3]) (.agg #[.int k1 b1,.int k2 b2,.int k3 b3])).run P w=.ok (decide (a1=b1∧a2=b2∧a3=b3)) w:=NI hT hn h1 h2 h3 hs 9998 a1 a2 a3 b1 b2 b3 w
  have hp:(program).run P w=.ok P w:=by simp[program,Sem.run]
  refine⟨_,P2 ?_ ?_,.im (.v _)⟩
  ·rw[HN (h.rel hx),HN (h.rel hy)]
   cases neg<;>simp[eqGuard,Sem.run_pure,Sem.run_bind,hp,hg]
  ·rw[HN (h.rel hx),HN (h.rel hy)]
   cases neg<;>simp[binOp,e,Sem.run_bind,Sem.run_pure]
theorem Fs{θ:Th}{a:Act}{w:World}(h:Ab E θ nx hp ev a w){x:AV}{y:Value}(f:Fits hp x)(r:G2 (kx E θ nx hp w) x y):
  ∃cs:List Value,y.cells=cs.toArray∧(J8 x).length=cs.length∧∀(j:Nat) u z,(J8 x)[j]?=some u→cs[j]?=some z→G2 (kx E θ nx hp w) u z:=by
 by_cases hx:∃l,x=.agg l
 ·obtain⟨l,rfl⟩:=hx
  obtain⟨cs,rfl,hl,hr⟩:=FG r
  exact⟨cs,rfl,hl,hr⟩
 ·have hc:J8 x=[x]:=by cases x<;>first|rfl|exact absurd ⟨_,rfl⟩ hx
  have ho:One hp x:=by cases x<;>first|exact f|exact absurd ⟨_,rfl⟩ hx
  refine⟨[y],IU (ho.val h r),by rw[hc];rfl,fun j u z hu hz=>?_⟩
  rw[hc]at hu
  cases j with
  |zero=>simp at hu hz;subst hu;subst hz;exact r
  |succ j=>simp at hu
theorem y0{T:Nat}{i:TypeInfo}{z:Value}(h1:P.info? T=some i)(h2:i.zero=some z)(w:World):(zeroValue T).run P w=.ok z w:=by
 simp[zeroValue,typeInfo,program,Sem.run_bind,Sem.run,h1,h2]
def PW(c:Cx)(l:List AV)(cs:List Value):Prop:=l.length=cs.length∧∀(j:Nat) x y,l[j]?=some x→cs[j]?=some y→G2 c x y
def y4(l:List AV)(off:Nat)(m:List AV):List AV:=l.take off++m++l.drop (off+m.length)
theorem Wq(vs:List Value):∀(k off:Nat) (cells:Array Value),off+k+vs.length≤cells.size →
  ((vs.zipIdx k).foldl (fun cs (c,j)=>cs.setIfInBounds (off+j) c) cells).toList=cells.toList.take (off+k)++vs++cells.toList.drop (off+k+vs.length):=by
 induction vs with
 |nil=>intro k off cells h;simp
 |cons v r ih =>
  intro k off cells h
  simp only[List.length_cons]at h
  rw[List.zipIdx_cons,List.foldl_cons,ih (k+1) off _ (by simp;omega)]
  simp only[Array.toList_setIfInBounds]
  have kj:off+k<cells.toList.length:=by simp;omega
  rw[show off+(k+1)=off+k+1 by omega,List.take_add_one]
  have e1:(cells.toList.set (off+k) v)[off+k]?=some v:=by simp at kj;simp[kj]
  rw[e1,List.take_set_of_le (Nat.le_refl _),List.drop_set_of_lt (by omega)]
  simp[List.append_assoc]
  congr 1
  omega
theorem PW.splice{c:Cx}{l:List AV}{cs:List Value}{m:List AV}{vs:List Value}{off:Nat}(h:PW c l cs)(hm:PW c m vs)(hf:off+m.length≤l.length):
  PW c (y4 l off m) (cs.take off++vs++cs.drop (off+vs.length)):=by
 obtain⟨h1,h2⟩:=h
 obtain⟨h3,h4⟩:=hm
 refine⟨by simp[y4];omega,fun j x y hx hy=>?_⟩
 unfold y4 at hx
 have mI:(l.take off).length=off:=by rw[List.length_take];omega
 have lk:(cs.take off).length=off:=by rw[List.length_take];omega
 by_cases hj:j<off
 ·rw[List.append_assoc,List.getElem?_append_left (by omega),List.getElem?_take,if_pos hj]at hx hy
  exact h2 j x y hx hy
 ·by_cases oY:j<off+m.length
  ·rw[List.append_assoc,List.getElem?_append_right (by omega),List.getElem?_append_left (by omega),mI]at hx
   rw[List.append_assoc,List.getElem?_append_right (by omega),List.getElem?_append_left (by omega),lk]at hy
   exact h4 _ x y hx hy
  ·rw[List.getElem?_append_right (by rw[List.length_append];omega),List.length_append,mI,List.getElem?_drop]at hx
   rw[List.getElem?_append_right (by rw[List.length_append];omega),List.length_append,lk,List.getElem?_drop]at hy
   refine h2 _ x y hx ?_
   rw[←hy]
   congr 1
   omega
class R8(P:Program)(T:Nat)(pl:outParam (List (Nat×Nat))):Prop where
 out:(∃fs,P.underlying T=some (.struct fs)∧fs.size=pl.length∧∀(j:Nat) f,fs[j]?=some f→∃i,P.info? f.type=some i∧pl[j]?=some (f.offset,i.size)) ∨
  ∃n e i,P.underlying T=some (.array n e)∧P.info? e=some i∧∀(j:Nat) p,pl[j]?=some p→p=(j*i.size,i.size)
def placesOf(P:Program)(T:Nat):Option (List (Option (Nat×Nat))) :=
 match P.underlying T with
 |some (.struct fs)=>some (fs.toList.map fun f=>(P.info? f.type).map fun i=>(f.offset,i.size))
 |_=>none
theorem R8.of{T:Nat}{pl:List (Nat×Nat)}(h:placesOf P T=some (pl.map some)):R8 P T pl:=by
 unfold placesOf at h
 split at h
 ·rename_i fs hu
  simp only[Option.some.injEq]at h
  have kf:fs.size=pl.length:=by
   have:=congrArg List.length h
   simpa using this
  refine⟨.inl ⟨fs,hu,kf,fun j f hf=>?_⟩⟩
  have:=congrArg (·[j]?) h
  simp only[List.getElem?_map,Array.getElem?_toList,hf,Option.map_some]at this
  cases hp:pl[j]? with
  |none=>rw[hp]at this;simp at this
  |some p =>
   rw[hp]at this
   simp only[Option.map_some,Option.some.injEq]at this
   cases hi:P.info? f.type with
   |none=>rw[hi]at this;simp at this
   |some i=>rw[hi]at this;simp at this;exact⟨i,rfl,by rw[←this]⟩
 ·cases h
def CU(pl:List (Nat×Nat)):List AV→List (Nat×AV)→Option (List AV)
 |l,[]=>some l
 |l,(i,a)::r=>match pl[i]? with
  |some (off,sz)=>cond (Nat.beq (J8 a).length sz && Nat.ble (off+(J8 a).length) l.length) (CU pl (y4 l off (J8 a)) r) none
  |none=>none
def CM(ev:Operand→Option AV):List (Nat×Operand)→Option (List (Nat×AV))
 |[]=>some []
 |(i,x)::r=>match ev x,CM ev r with
  |some a,some l=>some ((i,a)::l)
  |_,_=>none
def EH(hp:Hp):List (Nat×AV)→Prop
 |[]=>True
 |(_,a)::r=>Fits hp a∧EH hp r
theorem Ft{θ:Th}{a:Act}{w:World}(h:Ab E θ nx hp ev a w){pl:List (Nat×Nat)}{place:Nat→Option (Nat×Nat)}(uB:∀i p,pl[i]?=some p→place i=some p):
  ∀(parts:List (Nat×Operand)) (ps:List (Nat×AV)) (l l':List AV) (cells:Array Value),CM ev parts=some ps→EH hp ps→PW (kx E θ nx hp w) l cells.toList→CU pl l ps=some l' →
   ∃lS,Instr.fill place cells (parts.map fun (i,x)=>(i,a.eval x))=some lS∧PW (kx E θ nx hp w) l' lS.toList
 |[],ps,l,l',cells,he,_,oA,hf=>by
  simp[CM]at he;subst he
  simp[CU]at hf;subst hf
  exact⟨cells,rfl,oA⟩
 |(i,x)::r,ps,l,l',cells,he,la,oA,hf=>by
  simp only[CM]at he
  split at he
  ·rename_i av l1 h1 h2
   cases he
   obtain⟨xZ,sV⟩:=la
   obtain⟨cs,hc,hl,hr⟩:=Fs h xZ (h.rel h1)
   simp only[CU]at hf
   cases qJ:pl[i]? with
   |none=>rw[qJ]at hf;cases hf
   |some p =>
    obtain⟨off,sz⟩:=p
    rw[qJ]at hf
    simp only at hf
    cases hb:(Nat.beq (J8 av).length sz && Nat.ble (off+(J8 av).length) l.length)with
    |false=>rw[hb]at hf;cases hf
    |true =>
     rw[hb]at hf
     simp only[Bool.and_eq_true,Nat.beq_eq,Nat.ble_eq]at hb
     have hsz:(a.eval x).cells.size=sz:=by rw[hc];simp;omega
     have qh:=Wq cs 0 off cells (by have:=oA.1;simp at this;omega)
     have tK:=oA.splice (m:=J8 av) (vs:=cs) (off:=off) ⟨hl,hr⟩ hb.2
     simp only[Nat.add_zero]at qh
     rw[←qh]at tK
     obtain⟨lS,qa,oa⟩:=Ft h uB r l1 _ l' _ h2 sV tK hf
     refine⟨lS,?_,oa⟩
     have mj:¬(off+(a.eval x).cells.size>cells.size):=by
      rw[hsz];have:=oA.1;simp at this;omega
     simp only[List.map_cons,Instr.fill,uB i _ qJ,hsz,ne_eq,not_true_eq_false,decide_false,Bool.false_or,decide_eq_true_eq]
     rw[if_neg (by rw[←hsz];exact mj)]
     rw[hc]
     have:(cs.toArray.zipIdx)=(cs.zipIdx 0).toArray:=by simp
     rw[this,←Array.foldl_toList]
     exact qa
  ·cases he
theorem Tj{T:Nat}{zs:List Value}{pl:List (Nat×Nat)}[tz:K4 P T zs][tp:R8 P T pl]{parts:List (Nat×Operand)}{ps:List (Nat×AV)}{l:List AV}(he:CM ev parts=some ps)(la:EH hp ps)
  (hf:CU pl (zs.map w8) ps=some l):ER P E nx hp ev (.build T parts.toArray) ty (.agg l) :=
 fun _ _ _ θ a w h=>by
  obtain⟨i,z,h1,h2,h3⟩:=tz.out
  have oA:PW (kx E θ nx hp w) (zs.map w8) zs.toArray.toList:=by
   refine⟨by simp,fun j u y hu hy=>?_⟩
   simp at hu hy
   obtain⟨v,hv,rfl⟩:=hu
   rw[hy]at hv
   cases hv
   exact .im (Gf _)
  rcases tp.out with ⟨fs,h4,h5,h6⟩|⟨m,e,ie,h4,h5,h6⟩
  ·skip
   have um:∀(k:Nat) (fl:List Field),(∀(j:Nat) f,fl[j]?=some f→∃i,P.info? f.type=some i)→∃ml:List (Nat×Nat),(∀w,(fl.mapM (m:=Sem) fun f=>do pure (f.offset,←sizeOf f.type)).run P w=.ok ml w)∧ml.length=fl.length∧∀(j:Nat) f i,fl[j]?=some f→P.info? f.type=some i→ml[j]?=some (f.offset,i.size):=by
    intro k fl
    induction fl with
    |nil=>intro _;exact⟨[],fun _=>rfl,rfl,fun j f i hj=>by simp at hj⟩
    |cons f r ih =>
     intro hh
     obtain⟨i,hi⟩:=hh 0 f rfl
     obtain⟨ml,pD,kf,nl⟩:=ih (fun j g hg=>hh (j+1) g (by simpa using hg))
     refine⟨(f.offset,i.size)::ml,?_,by simp[kf],fun j g i' hg ln=>?_⟩
     ·intro w;have pD:=pD w;simp only[List.mapM_cons,Sem.run_bind,sizeOf,typeInfo,program,Sem.run_pure,Sem.run,hi,Result.andThen_ok]
      simp only[sizeOf,typeInfo,program]at pD
      rw[pD]
      rfl
     ·cases j with
      |zero=>simp at hg;subst hg;rw[hi]at ln;cases ln;rfl
      |succ j=>simp at hg ⊢;exact nl j g i' hg ln
   obtain⟨ml,pD,hmlen,re⟩:=um 0 fs.toList (fun j f hf=>by
    obtain⟨i,hi,_⟩:=h6 j f (by simpa using hf)
    exact⟨i,hi⟩)
   have uB:∀(i:Nat) p,pl[i]?=some p→ml.toArray[i]?=some p:=by
    intro j p hj
    have kj:j<fs.size:=by rw[h5];exact(List.getElem?_eq_some_iff.1 hj).1
    have wV:fs[j]?=some fs[j]:=Array.getElem?_eq_getElem kj
    obtain⟨i,hi,ug⟩:=h6 j _ wV
    rw[ug]at hj
    cases hj
    simpa using re j _ i (by simpa using wV) hi
   obtain⟨lS,pn,oa⟩:=Ft h (place:=fun i=>ml.toArray[i]?) uB parts ps _ l zs.toArray he la oA hf
   refine⟨.agg lS,?_,?_⟩
   ·intro w;have pD:=pD w;simp only[execOp,Instr.build,Sem.run_bind,y0 h1 h2,Result.andThen_ok,run_underlying h4,h3]
    have e1:(fs.mapM (m:=Sem) fun f=>do pure (f.offset,←sizeOf f.type)).run P w=.ok ml.toArray w:=by
     rw[Array.mapM_eq_mapM_toList]
     simp only[Sem.run_map,pD,Result.andThen_ok]
    rw[e1]
    simp only[Result.andThen_ok,List.map_toArray,pn,Sem.run_pure]
   ·have:=G2.agg (c:=kx E θ nx hp w) l lS.toList oa.1 oa.2
    simpa using this
  ·obtain⟨lS,pn,oa⟩:=Ft h (place:=fun i=>some (i*ie.size,ie.size)) (fun j p hj=>by rw[h6 j p hj]) parts ps _ l zs.toArray he la oA hf
   refine⟨.agg lS,?_,?_⟩
   ·intro w
    have hs:(sizeOf e).run P w=.ok ie.size w:=by simp[sizeOf,typeInfo,program,Sem.run_bind,Sem.run_pure,Sem.run,h5]
    simp only[execOp,Instr.build,Sem.run_bind,y0 h1 h2,Result.andThen_ok,run_underlying h4,h3,hs,List.map_toArray,pn,Sem.run_pure]
   ·have:=G2.agg (c:=kx E θ nx hp w) l lS.toList oa.1 oa.2
    simpa using this
theorem Tk{T:Nat}{zs:List Value}{pl:List (Nat×Nat)}[tz:K4 P T zs][tp:R8 P T pl]{parts:List (Nat×Operand)}{ps:List (Nat×AV)}{l:List AV}(he:CM ev parts=some ps)(la:EH hp ps)
  (hf:CU pl (zs.map w8) ps=some l):I2 P E nx hp ev (.build T parts.toArray) ty (.agg l):=(Tj he la hf).q
end rules
section rules
variable {P:Program} {E:Env} {n nx:Nat} {hp:Hp} {ev:Operand→Option AV} {ops:Array Oper} {rest:List Oper} {σ:St} {K:St→Prop} {Q:Exit→St→Prop}
variable {d:Nat} {ty:TypeId} {pos:String} {after:Array Edge} {x y:Operand}
theorem Cb{op:Op}{av:AV}{b:G1}(vI:Nat.blt d n=true)
  (lN:∀θ a w,Ab E θ σ.nx σ.hp (H1 σ) a w→∃v vv w',(execOp a.eval ⟨some d,op,ty,pos,after,none⟩).run P w=.ok (.value v) w'∧Below w.heap.size w w'∧(∀k,fp vv=some k→w.heap.size≤k) ∧
   ((cx E θ σ w).le (cx E (upd θ σ.nx vv) (σ.new b) w')→U1 (cx E (upd θ σ.nx vv) (σ.new b) w') σ.nx b∧G2 (cx E (upd θ σ.nx vv) (σ.new b) w') av v))
  (k:B5 P E n ops rest ((σ.new b).put d av) K) (uQ:BZ b=false:=by rfl):B5 P E n ops (⟨some d,op,ty,pos,after,none⟩::rest) σ K:=by
 intro a w ⟨θ,hs⟩
 unfold wpList
 rw[if_pos (by simp[Region.wanted])]
 left
 obtain⟨v,vv,w',hr,hb,hf,ho⟩:=lN θ a w hs.evT
 simp only[Oper.wp,hr,Oper.upon]
 have le:(cx E θ σ w).le (cx E (upd θ σ.nx vv) (σ.new b) w'):=by
  refine⟨Nat.le_succ _,fun i hi=>.inl (S6 _ _ (Nat.ne_of_lt hi)),fun i hi e' kw v' l' hl=>?_,hb.size,fun k hk _=>hb.block k hk,fun k hk hu=>?_⟩
  ·have ln:i<σ.nx:=hi
   refine⟨e',v',l',?_,.inr ⟨rfl,rfl,S6 _ _ (Nat.ne_of_lt hi)⟩⟩
   simp only[cx,St.new,J3]at hl
   rw[if_neg (by omega)]at hl
   exact hl
  ·rcases hu with hu|⟨i,b',hi,lW⟩
   ·exact .inl hu
   ·simp only[cx,St.new,J3]at hi
    by_cases e:σ.nx=i
    ·subst e
     rw[if_pos rfl]at hi
     cases hi
     rcases lW with lW|⟨lW,_⟩
     ·simp only[cx,G8]at lW
      have lp:k<w.heap.size:=hk
      have:=hf k lW
      omega
     ·rw[uQ]at lW;cases lW
    ·rw[if_neg e]at hi
     refine .inr ⟨i,b',hi,?_⟩
     unfold FP at lW ⊢
     simpa only[cx,S6 _ _ (Ne.symm e),PY]using lW
 have h2:=hs.grow hb vv b hf (fun _=>(ho le).1) uQ
 exact k _ _ ⟨_,h2.put (Nat.blt_eq▸vI) (ho le).2⟩
theorem HQ(e:TypeId)(cells:Array Value)(w:World):(newRow e cells).run P w=.ok ⟨w.heap.size,0,none⟩ (w.alloc (.cells cells e)):=rfl
theorem QB{θ:Th}{w:World}{cs:List Value}{T:TypeId}{l:List AV}(hl:l.length=cs.length)
  (le:(cx E θ σ w).le (cx E (upd θ σ.nx (.pointer (some ⟨w.heap.size,0,none⟩))) (σ.new (.box l)) (w.alloc (.cells cs.toArray T))))
  (hr:∀(j:Nat) u z,l[j]?=some u→cs[j]?=some z→G2 (cx E θ σ w) u z) :
  U1 (cx E (upd θ σ.nx (.pointer (some ⟨w.heap.size,0,none⟩))) (σ.new (.box l)) (w.alloc (.cells cs.toArray T))) σ.nx (.box l) ∧
  G2 (cx E (upd θ σ.nx (.pointer (some ⟨w.heap.size,0,none⟩))) (σ.new (.box l)) (w.alloc (.cells cs.toArray T))) (.ref σ.nx 0) (.pointer (some ⟨w.heap.size,0,none⟩)) :=
 ⟨⟨w.heap.size,cs.toArray,⟨T,.inl rfl⟩,by simp[cx,G8],heap_alloc_new w _,by simp[hl],fun j u z hu hz=>(hr j u z hu (by simpa using hz)).mono le⟩,
  .ref _ _ _ (by simp[cx,St.new]) (by simp[cx,G8])⟩
theorem QC{w:World}:∀k,fp (.pointer (some ⟨w.heap.size,0,none⟩))=some k→w.heap.size≤k:=by
 intro k hk;simp[fp]at hk;omega
theorem ZC{T:TypeId}{av:AV}(hx:H1 σ x=some av)(hf:Fits σ.hp av)(hd:Nat.blt d n=true)
  (k:B5 P E n ops rest ((σ.new (.box (J8 av))).put d (.ref σ.nx 0)) K):B5 P E n ops (⟨some d,.box T x,ty,pos,after,none⟩::rest) σ K :=
 Cb hd (fun θ a w h=>by
  obtain⟨cs,hc,hl,hr⟩:=Fs h hf (h.rel hx)
  exact⟨_,.pointer (some ⟨w.heap.size,0,none⟩),w.alloc (.cells cs.toArray T),by simp[execOp,Instr.box,newVar,Sem.run_bind,hc,HQ],Y4 _ _,QC,fun le=>QB hl le hr⟩) k
theorem VA{T:TypeId}{l:List Value}[tz:K4 P T l](hd:Nat.blt d n=true)
  (k:B5 P E n ops rest ((σ.new (.box (l.map w8))).put d (.ref σ.nx 0)) K):B5 P E n ops (⟨some d,.alloc T,ty,pos,after,none⟩::rest) σ K :=
 Cb hd (fun θ a w h=>by
  obtain⟨i,z,h1,h2,h3⟩:=tz.out
  refine⟨_,.pointer (some ⟨w.heap.size,0,none⟩),w.alloc (.cells l.toArray T),by simp[execOp,Instr.alloc,newVar,Sem.run_bind,y0 h1 h2,h3,HQ],Y4 _ _,QC,fun le=>QB (by simp) le ?_⟩
  intro j u z hu hz
  simp at hu
  obtain⟨v,hv,rfl⟩:=hu
  rw[hz]at hv
  cases hv
  exact .im (Gf _)) k
theorem Fu{op:Op}{i:Nat}{b b':G1}(hi:A7 σ.hp i=some b)
  (lN:∀θ a w,Ab E θ σ.nx σ.hp (H1 σ) a w→∃w',(execOp a.eval ⟨none,op,ty,pos,after,none⟩).run P w=.ok .skip w'∧w'.os=w.os∧w'.tape=w.tape∧w'.output=w.output∧w'.heap.size=w.heap.size ∧
   (∀k,fp (θ i)≠some k→w'.heap[k]?=w.heap[k]?)∧cG (θ i) (θ i) b b' ∧
   ((cx E θ σ w).le (cx E (upd θ i (θ i)) (σ.set i b') w')→U1 (cx E (upd θ i (θ i)) (σ.set i b') w') i b'))
  (k:B5 P E n ops rest (σ.set i b') K) (sj:∀e sz v l,b'=.row e sz v l→∃qk v0 l0,b=.row e qk v0 l0:=by intro _ _ _ _ h;cases h<;>exact⟨_,_,_,rfl⟩):B5 P E n ops (⟨none,op,ty,pos,after,none⟩::rest) σ K:=by
 intro a w ⟨θ,hs⟩
 unfold wpList
 rw[if_pos (by simp[Region.wanted])]
 left
 obtain⟨w',hr,h1,h2,h3,h4,h5,h6,h7⟩:=lN θ a w hs.evT
 simp only[Oper.wp,hr,Oper.upon]
 have h8:=hs.turn (b':=b') (v':=θ i) hi h1 h2 h3 (by omega) (fun k _=>h5 k) (fun k hk=>.inl hk) h6 h7 (fun e sz v l h hk _=>by
  obtain⟨qk,v0,l0,rfl⟩:=sj e sz v l h
  exact⟨rfl,e,qk,v0,l0,rfl,hk⟩) fun h=>by
   cases b' with
   |row e sz v l =>
    obtain⟨qk,v0,l0,rfl⟩:=sj e sz v l rfl
    exact .inl h
   |_=>cases h
 exact k _ _ ⟨_,by simpa [Act.put]using h8⟩
def DB(hp:Hp):List AV→Prop
 |[]=>True
 |x::r=>One hp x∧DB hp r
theorem DB.mem{hp:Hp}:∀{l:List AV},DB hp l→∀x∈l,One hp x
 |[],_,x,hx=>by cases hx
 |y::r,h,x,hx=>by
  rcases List.mem_cons.1 hx with rfl|hx
  ·exact h.1
  ·exact DB.mem h.2 x hx
theorem IW{T sz:Nat}{ag:Bool}[tv:K1 P T ag sz]{g off:Nat}{t:TypeId}{kz:Array Value}{w:World}{v:Value}{cs:List Value}(hc:v.cells=cs.toArray)(hl:cs.length=sz)(hg:w.heap[g]?=some (.cells kz t (0,0)))
  (la:off+cs.length≤kz.size) (h1:∀v∈cs,v.oneCell'=true) :
  (storeVar T ⟨g,off,none⟩ v).run P w=.ok () (w.setRow g (kz.toList.take off++cs++kz.toList.drop (off+cs.length)).toArray):=by
 have:=run_storeCells_at P g off t cs 0 kz w hg (by simpa using la) h1
 simp only[Nat.add_zero]at this
 simp[storeVar,Sem.run_bind,run_sizeOf (P:=P) (T:=T) (ag:=ag) (sz:=sz),hc,hl,this]
theorem Sl{α:Type}{l:Array α}{i:Nat}{x:α}{f g:α→α}(h:l[i]?=some x)(e:f x=g x):l.modify i f=l.modify i g:=by
 apply Array.ext_getElem?
 intro j
 rw[Array.getElem?_modify,Array.getElem?_modify]
 by_cases hj:i=j
 ·subst hj
  rw[if_pos rfl,if_pos rfl,h]
  simp[e]
 ·rw[if_neg hj,if_neg hj]
theorem y7.set{w:World}{g e off:Nat}{kz:Array Value}{v:Value}(h:y7 w g kz e):y7 (w.setRow g (kz.setIfInBounds off v)) g (kz.setIfInBounds off v) e:=by
 rcases h with ⟨he,h⟩|⟨hb,hk,t,fz,h,hf⟩|⟨hb,hn,h⟩|⟨hn,fz,h⟩
 ·exact .inl ⟨he,setRow_heap w g kz _ e _ h⟩
 ·exact .inr (.inl ⟨hb,hk,t,fz,setRow_heap w g kz _ t _ h,by simpa using hf⟩)
 ·exact .inr (.inr (.inl ⟨hb,hn,setRow_heap w g kz _ _ _ h⟩))
 ·exact .inr (.inr (.inr ⟨hn,fz,setRow_heap w g kz _ _ _ h⟩))
theorem PL{T sz:Nat}{ag:Bool}[tv:K1 P T ag sz]{g off e:Nat}{kz:Array Value}{w:World}{v:Value}(h1:v.oneCell'=true)(hc:v.cells=#[v])(hl:sz=1)(hg:y7 w g kz e)(uE:Cy e=true)(la:off<kz.size):
  (storeVar T ⟨g,off,none⟩ v).run P w=.ok () (w.setRow g (kz.setIfInBounds off v)):=by
 obtain⟨t,fz,hg,hf⟩:=hg.some
 have hf:=hf uE
 have nR:=run_storeCells_cells (P:=P) g off [v] 0 w (fun j hj=>by
   have:j=0:=by simpa using hj
   subst this
   simp[World.cell?,hg,la]) (fun j hj=>by
   have:j=0:=by simpa using hj
   subst this
   simp only[World.frozen?,hg]
   rcases hf with rfl|hf
   ·simp
   ·have:¬fz.1≤off:=by omega
    simp[this]) (fun u hu=>by rw[List.mem_singleton]at hu;rw[hu];exact h1)
 have hs:w.setCells g (off+0) [v]=w.setRow g (kz.setIfInBounds off v):=by
  show { w with heap:=_ }={ w with heap:=_ }
  congr 1
  exact Sl hg (by simp)
 rw[hs]at nR
 simp[storeVar,Sem.run_bind,run_sizeOf (P:=P) (T:=T) (ag:=ag) (sz:=sz),hc,hl,nR]
theorem GO{T:TypeId}{a:Act}{w w':World}{p:Addr}{o:Option Tmp}(hv:a.eval x=.pointer (some p))(hr:(storeVar T p (a.eval y)).run P w=.ok () w'):
  (execOp a.eval ⟨o,.store T x y,ty,pos,after,none⟩).run P w=.ok .skip w':=by
 simp only[execOp,hv,Instr.storeAt,Instr.sureAddr,Sem.run_bind,Sem.run_pure,Result.andThen_ok,hr]
theorem NJ{T sz:Nat}{ag:Bool}[tv:K1 P T ag sz]{i off τ:Nat}{l:List AV}{av:AV}(hx:H1 σ x=some (.ref i off))(hy:H1 σ y=some av)(hb:A7 σ.hp i=some (.bx τ l))(hf:Fits σ.hp av)(ho:DB σ.hp (J8 av))
  (hsz:(J8 av).length=sz) (la:off+sz≤l.length) (k:B5 P E n ops rest (σ.set i (.bx τ (y4 l off (J8 av)))) K):B5 P E n ops (⟨none,.store T x y,ty,pos,after,none⟩::rest) σ K :=
 Fu hb (fun θ a w h=>by
  obtain⟨b,hθ,hv,_⟩:=X4 (h.rel hx)
  obtain⟨b',lL,T',lV,hh,hs,hr⟩:=h.box hb
  have mO:θ i=.pointer (some ⟨b,0,none⟩):=hθ
  rw[lV]at mO
  cases mO
  obtain⟨cs,hc,hl,mG⟩:=Fs h hf (h.rel hy)
  have h1:∀v∈cs,v.oneCell'=true:=by
   intro v hv
   obtain⟨j,hj⟩:=List.mem_iff_getElem?.1 hv
   have kj:j<(J8 av).length:=by rw[hl];exact(List.getElem?_eq_some_iff.1 hj).1
   have hu:(J8 av)[j]?=some (J8 av)[j]:=List.getElem?_eq_getElem kj
   exact(DB.mem ho _ (List.getElem_mem kj)).val h (mG j _ v hu hj)
  have lN:=IW (P:=P) (T:=T) (ag:=ag) (sz:=sz) hc (by omega) hh (off:=off) (by omega) h1
  refine⟨_,GO hv lN,rfl,rfl,rfl,by simp,fun k hk=>?_,rfl,fun le=>?_⟩
  ·refine setRow_other w b k _ fun e=>hk ?_
   rw[lV];simp[fp,e]
  ·have oA:PW (kx E θ σ.nx σ.hp w) l lL.toList:=⟨by simp[hs],fun j u z hu hz=>hr j u z hu (by simpa using hz)⟩
   have si:=oA.splice (off:=off) (m:=J8 av) (vs:=cs) ⟨hl,mG⟩ (by omega)
   refine⟨b,_,T',by simp[cx,G8,lV],setRow_heap w b lL _ T' _ hh,?_,fun j u z hu hz=>?_⟩
   ·have:=si.1;simp at this ⊢;omega
   ·exact(si.2 j u z hu (by simpa using hz)).mono le) k
theorem QD{k sz off:Nat}{l:List (List AV)}{el:List AV}{av:AV}{xs:List Value}{v:Value}(hk:l[k]?=some el)(hsz:∀e∈l,e.length=sz)(kf:xs.length=l.length*sz)(nF:off<sz)
  {R:AV→Value→Prop} (hr:∀(k:Nat) el,l[k]?=some el→∀(j:Nat) x,el[j]?=some x→∃y,xs[k*sz+j]?=some y∧R x y) (hv:R av v) :
  ∀(k':Nat) mA,(l.set k (el.set off av))[k']?=some mA→∀(j:Nat) x,mA[j]?=some x→∃y,(xs.set (k*sz+off) v)[k'*sz+j]?=some y∧R x y:=by
 intro k' mA lW j x hx
 have lJ:k<l.length:=(List.getElem?_eq_some_iff.1 hk).1
 have pf:k*sz+off<xs.length:=by
  rw[kf]
  have:(k+1)*sz≤l.length*sz:=Nat.mul_le_mul_right _ lJ
  rw[Nat.add_mul,Nat.one_mul]at this
  omega
 by_cases e:k=k'
 ·subst e
  rw[List.getElem?_set_self lJ]at lW
  cases lW
  by_cases ej:off=j
  ·subst ej
   have ke:el.length=sz:=hsz el (List.mem_of_getElem? hk)
   rw[List.getElem?_set_self (by omega)]at hx
   cases hx
   exact⟨v,by rw[List.getElem?_set_self pf],hv⟩
  ·rw[List.getElem?_set_ne ej]at hx
   obtain⟨y,hy,hR⟩:=hr k el hk j x hx
   exact⟨y,by rw[List.getElem?_set_ne (by omega)];exact hy,hR⟩
 ·rw[List.getElem?_set_ne e]at lW
  obtain⟨y,hy,hR⟩:=hr k' mA lW j x hx
  refine⟨y,?_,hR⟩
  rw[List.getElem?_set_ne]
  ·exact hy
  ·have ke:mA.length=sz:=hsz mA (List.mem_of_getElem? lW)
   have hj:j<sz:=by rw[←ke];exact(List.getElem?_eq_some_iff.1 hx).1
   intro e2
   have h1:(k*sz+off) / sz=k:=by rw[Nat.mul_comm,Nat.mul_add_div (by omega),Nat.div_eq_of_lt nF];simp
   have h2:(k'*sz+j) / sz=k':=by rw[Nat.mul_comm,Nat.mul_add_div (by omega),Nat.div_eq_of_lt hj];simp
   rw[e2,h2]at h1
   exact e h1.symm
theorem ZD{w:World}{g e:Nat}{kz:Array Value}(hg:y7 w g kz e){o:Nat}{v:Value}:∀q,q≠o→(w.setRow g (kz.setIfInBounds o v)).cell? ⟨g,q,none⟩=w.cell? ⟨g,q,none⟩:=by
 intro q hq
 obtain⟨t,fz,hg,_⟩:=hg.some
 rw[P5 hg,P5 (setRow_heap w g kz _ t _ hg)]
 simp[Array.getElem?_setIfInBounds_ne (Ne.symm hq)]
theorem dA{k k' j off sz:Nat}(hj:j<sz)(ho:off<sz)(h:k≠k'):k'*sz+j≠k*sz+off:=by
 intro e2
 have h1:(k*sz+off) / sz=k:=by rw[Nat.mul_comm,Nat.mul_add_div (by omega),Nat.div_eq_of_lt ho];simp
 have h2:(k'*sz+j) / sz=k':=by rw[Nat.mul_comm,Nat.mul_add_div (by omega),Nat.div_eq_of_lt hj];simp
 rw[e2,h1]at h2
 exact h h2
theorem Wr{c c':Cx}{i e sz g m cap:Nat}{l l':List (List AV)}(hne:Ge c i e sz l)(le:c.le c')(hθ:c.θ i=.slice (some ⟨g,0,none⟩) m cap)(lV:c'.θ i=c.θ i)(hN:c'.θ.N=c.θ.N)
  (hh:∀p,p≠g→c'.w.heap[p]?=c.w.heap[p]?)
  (hl:∀(k:Nat) el,l'[k]?=some el→∀(j e' kw:Nat) x,el[j]?=some (.own e' kw x)→∃rJ,l[k]?=some rJ∧rJ[j]?=some (.own e' kw x)∧c'.w.cell? ⟨g,k*sz+j,none⟩=c.w.cell? ⟨g,k*sz+j,none⟩) (xj:Fq c.w g→Fq c'.w g):Ge c' i e sz l':=by
 intro hE
 obtain⟨h1,h2⟩:=hne hE
 refine⟨fun k p hp=>?_,fun k el hk j e' kw x hj=>?_⟩
 ·have h3:=h1 k p (by rw[hN]at hp;exact hp)
  by_cases e2:k=g
  ·rw[e2]at h3 ⊢;exact xj h3
  ·exact h3.mono (hh k e2)
 obtain⟨rJ,g1,g2,g3⟩:=hl k el hk j e' kw x hj
 rcases h2 k rJ g1 j e' kw x g2 with ⟨q0,q1,g',n',nX,y,q2,q3,q4⟩|⟨g',n',nX,y,ys,q1,q2,q3,q4,q5,q6,q7⟩
 ·have eg:g'=g:=by rw[hθ]at q2;injection q2 with e1 e2;injection e1 with e1;injection e1 with e1;exact e1.symm
  subst eg
  exact .inl ⟨q0,q1,g',n',nX,y,by rw[lV];exact q2,by rw[g3];exact q3,q4.mono le⟩
 have eg:g'=g:=by rw[hθ]at q1;injection q1 with e1 e2;injection e1 with e1;injection e1 with e1;exact e1.symm
 subst eg
 refine .inr ⟨g',n',nX,y,ys,by rw[lV];exact q1,by rw[g3];exact q2,⟨q3.1,q3.2.imp id fun ⟨p,cp,kz,r1,r2,r3,r4⟩=>⟨p,cp,kz,r1,.lt (Gd q4),r3.mono (hh p (q7 p (by rw[r1];rfl)).1),r4⟩⟩,q4,q5,fun q mA hq j' u hu=>?_,fun b hb=>⟨(q7 b hb).1,by rw[hN];exact(q7 b hb).2⟩⟩
 obtain⟨z,hz,hi⟩:=q6 q mA hq j' u hu
 exact⟨z,hz,hi.mono le.heap le.U⟩
theorem dB{l:List (List AV)}{el:List AV}{kk off sz:Nat}{av:AV}(hk:l[kk]?=some el)(hsz:∀e∈l,e.length=sz)(nF:off<sz)(ku:O2 av=true){P:Nat→Prop}(hP:∀q,q≠kk*sz+off→P q):
  ∀(k:Nat) mA,(l.set kk (el.set off av))[k]?=some mA→∀(j e' kw:Nat) x,mA[j]?=some (.own e' kw x)→∃rJ,l[k]?=some rJ∧rJ[j]?=some (.own e' kw x)∧P (k*sz+j):=by
 intro k mA lW j e' kw x hj
 have lJ:kk<l.length:=(List.getElem?_eq_some_iff.1 hk).1
 by_cases ek:kk=k
 ·subst ek
  rw[List.getElem?_set_self lJ]at lW
  cases lW
  by_cases ej:off=j
  ·subst ej
   have kj:off<el.length:=by have:=(List.getElem?_eq_some_iff.1 hj).1;simpa using this
   rw[List.getElem?_set_self kj]at hj
   cases hj
   cases ku
  ·rw[List.getElem?_set_ne ej]at hj
   exact⟨el,hk,hj,hP _ (by omega)⟩
 ·rw[List.getElem?_set_ne ek]at lW
  have oY:j<sz:=by rw[←hsz mA (List.mem_of_getElem? lW)];exact(List.getElem?_eq_some_iff.1 hj).1
  exact⟨mA,lW,hj,hP _ (dA oY nF ek)⟩
theorem NK{T szT:Nat}[tv:K1 P T false szT]{i ver kk off e sz:Nat}{l:List (List AV)}{el:List AV}{av:AV}(hx:H1 σ x=some (.elt i ver kk off))(hy:H1 σ y=some av)(hb:A7 σ.hp i=some (.row e sz ver l))(hk:l[kk]?=some el)(nF:off<sz)(yD:szT=1)
  (ku:O2 av=true) (ho:One σ.hp av) (k:B5 P E n ops rest (σ.set i (.row e sz ver (l.set kk (el.set off av)))) K) (uE:Cy e=true):B5 P E n ops (⟨none,.store T x y,ty,pos,after,none⟩::rest) σ K :=
 Fu hb (fun θ a w h=>by
  obtain⟨g,m,cap,hθ,hv,ld⟩:=Cn (h.rel hx) hb
  obtain⟨xs,ko,hsz,hr⟩:=h.row hb
  have lV:θ i=.slice (some ⟨g,0,none⟩) m cap:=hθ
  have wW:=ho.val h (h.rel hy)
  rcases ko.2 with ⟨hn,_⟩|⟨g',nX,kz,hs,pj,hg,rY,qn,oP,nC⟩
  ·rw[lV]at hn;cases hn
  ·rw[lV]at hs
   cases hs
   have lJ:kk<l.length:=(List.getElem?_eq_some_iff.1 hk).1
   have pf:kk*sz+off<l.length*sz:=by
    have:(kk+1)*sz≤l.length*sz:=Nat.mul_le_mul_right _ lJ
    rw[Nat.add_mul,Nat.one_mul]at this
    omega
   have lT:l.length*sz≤cap*sz:=Nat.mul_le_mul_right _ rY
   have lN:=PL (P:=P) (T:=T) (ag:=false) (sz:=szT) (v:=a.eval y) wW (IU wW) yD hg uE (off:=kk*sz+off) (by omega)
   refine⟨_,GO hv lN,rfl,rfl,rfl,by simp,fun k hk=>?_,⟨⟨_,_,_,lV⟩,e,ver,l,rfl,.inr ⟨rfl,by simp,rfl⟩⟩,fun le=>?_⟩
   ·refine setRow_other w g k _ fun e=>hk ?_
    rw[lV];simp[fp,e]
   ·have ly:Im (cx E θ σ w).U w av (a.eval y):=(Ad ku).im (h.rel hy)
    have lC:=QD (R:=Im (cx E θ σ w).U w) hk hsz ko.1 nF hr ly
    refine⟨xs.set (kk*sz+off) (a.eval y),?_,?_,fun k' mA lW j u hu=>?_,Wr (h.owns i _ hb).2.nest le lV (by simp only[cx,G8];rfl) rfl (fun p hp=>setRow_other w g p _ hp) (dB hk hsz nF ku (P:=fun q=>(w.setRow g _).cell? ⟨g,q,none⟩=w.cell? ⟨g,q,none⟩) (ZD hg)) (fun _=>let ⟨t,fz,h4,_⟩:=hg.some;⟨_,t,fz,setRow_heap w g kz _ t _ h4⟩)⟩
    ·refine⟨by simp[ko.1],.inr ⟨g,cap,_,by simp[cx,G8,lV],.not uE,hg.set,by simpa using rY,qn,by simp[oP],?_⟩⟩
     rw[Array.toList_setIfInBounds,List.length_set,←nC,List.take_set]
    ·intro mA mH
     rcases List.mem_or_eq_of_mem_set mH with h2|h2
     ·exact hsz _ h2
     ·rw[h2,List.length_set];exact hsz el (List.mem_of_getElem? hk)
    ·obtain⟨z,hz,hi⟩:=lC k' mA lW j u hu
     exact⟨z,hz,hi.mono le.heap le.U⟩) k
end rules
section rules
variable {P:Program} {E:Env} {n nx:Nat} {hp:Hp} {ev:Operand→Option AV} {ops:Array Oper} {rest:List Oper} {σ:St} {K:St→Prop} {Q:Exit→St→Prop}
variable {d:Nat} {ty:TypeId} {pos:String} {after:Array Edge} {x y:Operand}
theorem QE{θ:Th}{w w':World}{xs:List Value}{e sz g cap:Nat}{l:List (List AV)}{rest:List Value}
  (nT:e<R7) (hg:w.heap.size≤g) (hh:w'.heap[g]?=some (.cells (xs++rest).toArray e (0,0))) (kf:xs.length=l.length*sz) (lT:l.length≤cap) (hm:cap≤maxLen) (hs:(xs++rest).length=cap*sz)
  (hsz:∀el∈l,el.length=sz)
  (hr:∀(k:Nat) el,l[k]?=some el→∀(j:Nat) x,el[j]?=some x→∃y,xs[k*sz+j]?=some y∧Im (cx E θ σ w).U w x y)
  (le:(cx E θ σ w).le (cx E (upd θ σ.nx (.slice (some ⟨g,0,none⟩) l.length cap)) (σ.new (.row e sz 0 l)) w')) :
  U1 (cx E (upd θ σ.nx (.slice (some ⟨g,0,none⟩) l.length cap)) (σ.new (.row e sz 0 l)) w') σ.nx (.row e sz 0 l) ∧
  G2 (cx E (upd θ σ.nx (.slice (some ⟨g,0,none⟩) l.length cap)) (σ.new (.row e sz 0 l)) w') (.row σ.nx 0 l.length) (.slice (some ⟨g,0,none⟩) l.length cap):=by
 refine⟨⟨xs,⟨kf,.inr ⟨g,cap,(xs++rest).toArray,by simp[cx,G8],.lt (Kw nT),.inl ⟨nT,hh⟩,lT,hm,by simpa using hs,?_⟩⟩,hsz,fun k el hk j x hx=>?_,.lt (FL nT)⟩,.row _ _ _ _ (by simp[cx,St.new]) fun e' kw v' l' hl=>?_⟩
 ·rw[←kf];simp
 ·obtain⟨y,hy,hi⟩:=hr k el hk j x hx
  exact⟨y,hy,hi.mono le.heap le.U⟩
 ·simp only[cx,St.new,J3,if_pos]at hl
  cases hl
  exact⟨Nat.le_refl _,fun _=>⟨rfl,by simp[cx,G8]⟩⟩
theorem Kz{g m c s:Nat}(h:s≤g):∀k,fp (.slice (some ⟨g,0,none⟩) m c)=some k→s≤k:=by
 intro k hk;simp[fp]at hk;omega
theorem Ws{T e sz by_:Nat}{z:List Value}[ts:Q4 P T e sz][tz:K4 P e z][tb:Q8 P e by_]{m:Int}(hx:H1 σ x=some (.v (.int .i64 m)))(hy:H1 σ y=some (.v (.int .i64 m)))(h0:0≤m)(hb:by_*m.toNat≤281474976710656)(uJ:m≤9223372036854775807)(hz:z.length=sz)(nT:e<R7)(hd:Nat.blt d n=true)
  (k:B5 P E n ops rest ((σ.new (.row e sz 0 (List.replicate m.toNat (z.map w8)))).put d (.row σ.nx 0 m.toNat)) K):B5 P E n ops (⟨some d,.makeSlice T x y,ty,pos,after,none⟩::rest) σ K :=
 Cb hd (fun θ a w h=>by
  obtain⟨hu,i,hi,hsz⟩:=ts.out
  obtain⟨i2,zv,lc,qM,uY⟩:=tz.out
  obtain⟨i3,pk,ng⟩:=tb.out
  rw[hi]at lc pk
  cases lc;cases pk
  have hr:=run_make (P:=P) w T e i zv hu hi qM .i64 .i64 m m h0 (Int.le_refl _) (by
   have h2:((m.toNat:Nat):Int)=m:=Int.toNat_of_nonneg h0
   have h3:(i.bytes:Int)*m=((by_*m.toNat:Nat):Int):=by rw[Int.natCast_mul,h2,ng]
   rw[h3]
   generalize by_*m.toNat=q at hb
   omega) uJ
  have kf:(List.replicate m.toNat (z.map w8)).length=m.toNat:=by simp
  refine⟨.slice (some ⟨w.heap.size,0,none⟩) m.toNat m.toNat,.slice (some ⟨w.heap.size,0,none⟩) m.toNat m.toNat,w.alloc (.cells (madeCells zv.cells (m.toNat*i.size)) e),by simp only[execOp,(h.rel hx).val,(h.rel hy).val,Sem.run_bind,hr,Result.andThen_ok,Sem.run_pure],Y4 _ _,Kz (Nat.le_refl _),fun le=>?_⟩
  have vQ:(madeCells zv.cells (m.toNat*i.size)).size=m.toNat*sz:=by rw[size_madeCells,hsz]
  have key:=QE (E:=E) (σ:=σ) (θ:=θ) (w:=w) (w':=w.alloc (.cells (madeCells zv.cells (m.toNat*i.size)) e)) (xs:=(madeCells zv.cells (m.toNat*i.size)).toList) (rest:=[]) (e:=e) (sz:=sz) (g:=w.heap.size) (cap:=m.toNat) (l:=List.replicate m.toNat (z.map w8))
   nT (Nat.le_refl _) (by simpa using heap_alloc_new w _) (by rw[kf,Array.length_toList,vQ]) (by rw[kf];exact Nat.le_refl _) (by unfold maxLen;omega) (by simp[vQ]) (fun el ke=>by rw[List.eq_of_mem_replicate ke];simp[hz]) (fun k el hk j u hu=>?_) (by rw[kf];exact le)
  ·rw[kf]at key;exact key
  ·have lW:=(List.getElem?_eq_some_iff.1 hk)
   obtain⟨tL,rh⟩:=lW
   have ke:el=z.map w8:=by rw[←rh];simp
   subst ke
   rw[kf]at tL
   simp at hu
   obtain⟨v,hv,rfl⟩:=hu
   have hj:j<sz:=by rw[←hz];exact(List.getElem?_eq_some_iff.1 hv).1
   have oc:k*sz+j<m.toNat*i.size:=by
    rw[hsz]
    have:(k+1)*sz≤m.toNat*sz:=Nat.mul_le_mul_right _ tL
    rw[Nat.add_mul,Nat.one_mul]at this
    omega
   refine⟨v,?_,Gf _⟩
   have vi:(k*sz+j) % sz=j:=by rw[Nat.mul_comm,Nat.mul_add_mod,Nat.mod_eq_of_lt hj]
   simp only[madeCells,uY,Array.getElem?_toList,Array.getElem?_map,Array.getElem?_range,oc]
   simp only[if_true,Option.map_some,Option.some.injEq,List.size_toArray,hz,vi]
   rw[List.getElem!_toArray,List.getElem!_eq_getElem?_getD,hv]
   rfl) k (n9 (FL nT))
theorem Lu{T tt e bytes:Nat}{i:TypeInfo}{z:Value}{size:Nat}(ht:P.underlying T=some (.slice e))(hi:P.info? e=some i)(hz:i.zero=some z)
  (lP:i.size=size) (ng:i.bytes=bytes) (tx:z.cells.size=size) (hsz:0<size) (w:World)
  (v:Value) (m:Nat) (xs:List Value) (ko:w.ownsRow 0 e size v m xs)
  (a:Addr) (k c:Nat) (news:List Value) (hl:news.length=k*size) (ou:∀(j:Nat) u,news[j]?=some u→w.cell? (a.add j)=some u) (h1:∀u∈news,u.oneCell'=true)
  (oy:m+k≤maxLen) (mu:(m+k)*bytes≤140737488355328) :
  ∃v' w',(Builtin.append_ #[T,T] tt #[v,.slice (some a) k c]).run P w=.ok v' w'∧w'.ownsRow 0 e size v' (m+k) (xs++news)∧w.grownBy w' v.ownBlock∧(∀b,fp v'=some b→fp v=some b∨w.heap.size≤b)∧(k=0→v'=v):=by
 rcases ko.2 with ⟨rfl,rfl⟩|⟨g,cap,kz,rfl,pj,hg,rY,qn,oP,nC⟩
 ·have hx:xs=[]:=List.eq_nil_of_length_eq_zero (by simpa using ko.1)
  subst hx
  obtain⟨v',w',hr,ho,nd,oz⟩:=run_append_own (P:=P) w w.heap.size T tt e i z size bytes ht hi hz lP ng tx hsz (.slice none 0 0) 0 [] (World.ownsRow_nil w _ e size) a k c news hl ou h1 oy mu (Nat.le_refl _)
  refine⟨v',w',hr,⟨ho.1,?_⟩,nd,fun b hb=>?_,fun hk=>oz.2 ⟨rfl,hk⟩⟩
  ·rcases ho.2 with hn|⟨g,cap,kz,h1,h2,h3⟩
   ·exact .inl hn
   ·exact .inr ⟨g,cap,kz,h1,Nat.zero_le _,h3⟩
  ·rcases ho.2 with ⟨hn,_⟩|⟨g,cap,kz,mN,h2,_⟩
   ·rw[hn]at hb;cases hb
   ·rw[mN]at hb;simp[fp]at hb;right;omega
 ·obtain⟨v',w',hr,ho,nd,oz⟩:=run_append_own (P:=P) w 0 T tt e i z size bytes ht hi hz lP ng tx hsz (.slice (some ⟨g,0,none⟩) m cap) m xs ko a k c news hl ou h1 oy mu (Nat.zero_le _)
  by_cases ky:m+k≤cap
  ·have la:m*i.size+news.length≤kz.size:=by rw[hl,oP,lP,←Nat.add_mul];exact Nat.mul_le_mul_right _ ky
   have oV:=run_append_room (P:=P) w T tt e i ht hi g m cap kz hg a k c news (by rw[lP];exact hl) ou h1 ky la
   rw[oV]at hr
   cases hr
   exact⟨_,_,oV,ho,nd,fun b hb=>.inl hb,fun hk=>by subst hk;rfl⟩
  ·have holds:∀(j:Nat) u,xs[j]?=some u→w.cell? ((⟨g,0,none⟩:Addr).add j)=some u:=ko.cells (g:=g) rfl
   have oV:=run_append_grow (P:=P) w T tt e i z ht hi hz ⟨g,0,none⟩ m cap xs (by rw[lP];exact ko.1) holds a k c news (by rw[lP];exact hl) ou (by omega) (by unfold maxLen at oy;omega) (growslice_fits (by omega) (by rw[ng];exact mu))
   rw[oV]at hr
   cases hr
   exact⟨_,_,oV,ho,nd,fun b hb=>by simp[fp]at hb;right;omega,fun hk=>by omega⟩
theorem ZE{c:Cx}{sz:Nat}{l:List (List AV)}{a:Addr}{f:Nat→Nat→Value}(us:∀e∈l,∀x∈e,O2 x=true∧∀y,Im c.U c.w x y→y.oneCell'=true)
  (hsz:∀e∈l,e.length=sz) (hc:∀i,i<l.length→∀j,j<sz→c.w.cell? (a.add (i*sz+j))=some (f i j)) (h:∀(i:Nat) (e:List AV),l[i]?=some e→∀(j:Nat) (x:AV),e[j]?=some x→Im c.U c.w x (f i j)) (kq:0<sz) :
  ∃news:List Value,news.length=l.length*sz∧(∀(j:Nat) u,news[j]?=some u→c.w.cell? (a.add j)=some u)∧(∀u∈news,u.oneCell'=true) ∧
   ∀(k:Nat) el,l[k]?=some el→∀(j:Nat) x,el[j]?=some x→∃y,news[k*sz+j]?=some y∧Im c.U c.w x y:=by
 refine⟨(List.range (l.length*sz)).map fun t=>f (t / sz) (t % sz),by simp,fun j u hj=>?_,fun u hu=>?_,fun k el hk j x hx=>?_⟩
 ·simp only[List.getElem?_map,Option.map_eq_some_iff]at hj
  obtain⟨t,ht,rfl⟩:=hj
  have kj:j<l.length*sz:=by
   rcases Nat.lt_or_ge j (l.length*sz)with h1|h1
   ·exact h1
   ·rw[List.getElem?_eq_none (by simpa using h1)]at ht;cases ht
  rw[List.getElem?_range kj]at ht
  cases ht
  have hd:j / sz<l.length:=(Nat.div_lt_iff_lt_mul kq).2 kj
  have:=hc (j / sz) hd (j % sz) (Nat.mod_lt _ kq)
  rwa[Nat.mul_comm,Nat.div_add_mod]at this
 ·obtain⟨t,ht,rfl⟩:=List.mem_map.1 hu
  have kj:=List.mem_range.1 ht
  have hd:t / sz<l.length:=(Nat.div_lt_iff_lt_mul kq).2 kj
  have ke:l[t / sz]?=some l[t / sz]:=List.getElem?_eq_getElem hd
  have nA:=hsz _ (List.getElem_mem hd)
  have hm:t % sz<(l[t / sz]).length:=by rw[nA];exact Nat.mod_lt _ kq
  have hx:(l[t / sz])[t % sz]?=some (l[t / sz])[t % sz]:=List.getElem?_eq_getElem hm
  exact(us _ (List.getElem_mem hd) _ (List.getElem_mem hm)).2 _ (h _ _ ke _ _ hx)
 ·have lJ:k<l.length:=(List.getElem?_eq_some_iff.1 hk).1
  have hj:j<sz:=by rw[←hsz el (List.mem_of_getElem? hk)];exact(List.getElem?_eq_some_iff.1 hx).1
  have oc:k*sz+j<l.length*sz:=by
   have:(k+1)*sz≤l.length*sz:=Nat.mul_le_mul_right _ lJ
   rw[Nat.add_mul,Nat.one_mul]at this
   omega
  refine⟨f k j,?_,h k el hk j x hx⟩
  have h1:(k*sz+j) / sz=k:=by rw[Nat.mul_comm,Nat.mul_add_div kq,Nat.div_eq_of_lt hj];simp
  have h2:(k*sz+j) % sz=j:=by rw[Nat.mul_comm,Nat.mul_add_mod,Nat.mod_eq_of_lt hj]
  rw[List.getElem?_map,List.getElem?_range oc]
  simp[h1,h2]
def o0:AV→Prop
 |.v x=>x.oneCell'=true
 |.str _|.sl _ _|.iptr _|.fn _ _=>True
 |_=>False
theorem o0.spec{U:Nat→Prop}{w:World}{x:AV}(h:o0 x):O2 x=true∧∀y,Im U w x y→y.oneCell'=true:=by
 cases x with
 |v v=>exact⟨rfl,fun y hy=>by cases hy;exact h⟩
 |str l=>exact⟨rfl,fun y hy=>by cases hy;rfl⟩
 |sl s l=>exact⟨rfl,fun y hy=>by cases hy<;>rfl⟩
 |iptr l=>exact⟨rfl,fun y hy=>by cases hy;rfl⟩
 |fn f l=>exact⟨rfl,fun y hy=>by cases hy;rfl⟩
 |_=>exact h.elim
theorem QF{sz:Nat}{l m:List (List AV)}{xs ys:List Value}{R:AV→Value→Prop}(hx:xs.length=l.length*sz)
  (h1:∀(k:Nat) el,l[k]?=some el→∀(j:Nat) x,el[j]?=some x→∃y,xs[k*sz+j]?=some y∧R x y)
  (h2:∀(k:Nat) el,m[k]?=some el→∀(j:Nat) x,el[j]?=some x→∃y,ys[k*sz+j]?=some y∧R x y) :
  ∀(k:Nat) el,(l++m)[k]?=some el→∀(j:Nat) x,el[j]?=some x→∃y,(xs++ys)[k*sz+j]?=some y∧R x y:=by
 intro k el hk j x wX
 by_cases lJ:k<l.length
 ·rw[List.getElem?_append_left lJ]at hk
  obtain⟨y,hy,hR⟩:=h1 k el hk j x wX
  exact⟨y,by rw[List.getElem?_append_left (List.getElem?_eq_some_iff.1 hy).1];exact hy,hR⟩
 ·rw[List.getElem?_append_right (by omega)]at hk
  obtain⟨y,hy,hR⟩:=h2 _ el hk j x wX
  have e:k*sz=l.length*sz+(k-l.length)*sz:=by rw[←Nat.add_mul];congr 1;omega
  refine⟨y,?_,hR⟩
  rw[List.getElem?_append_right (by rw[hx];omega),hx,←hy]
  congr 1
  omega
def ZF(c:Cx)(sz:Nat)(m:List (List AV))(v:Value):Prop:=(v=.slice none 0 0∧m=[]) ∨
 ∃(p:Addr) (cap:Nat) (news:List Value),v=.slice (some p) m.length cap∧(∀el∈m,el.length=sz)∧news.length=m.length*sz∧(∀(j:Nat) u,news[j]?=some u→c.w.cell? (p.add j)=some u)∧(∀u∈news,u.oneCell'=true) ∧
  ∀(k:Nat) el,m[k]?=some el→∀(j:Nat) x,el[j]?=some x→∃y,news[k*sz+j]?=some y∧Im c.U c.w x y
theorem Tl{c:Cx}{sz:Nat}{m:List (List AV)}{v:Value}(h:G2 c (.sl sz m) v)(hm:∀el∈m,∀u∈el,o0 u)(kq:0<sz):ZF c sz m v:=by
 rcases Gg h with ⟨hn,rfl⟩|⟨p,cap,f,pN,oD,nH,qm,po,uT,uy⟩
 ·exact .inl ⟨hn,rfl⟩
 ·obtain⟨news,h1,h2,h3,h4⟩:=ZE (c:=c) (a:=p) (f:=f) (fun el ke u hu=>(hm el ke u hu).spec) po uT uy kq
  exact .inr ⟨p,cap,news,pN,po,h1,h2,h3,h4⟩
theorem ZG{θ:Th}{a:Act}{w:World}(h:Ab E θ nx hp ev a w){i e sz ver:Nat}{m:List (List AV)}(hb:A7 hp i=some (.row e sz ver m))(hm:∀el∈m,∀u∈el,o0 u)(kq:0<sz):ZF (kx E θ nx hp w) sz m (θ i):=by
 obtain⟨xs,ko,hsz,hr⟩:=h.row hb
 rcases ko.2 with ⟨hv,ru⟩|⟨g,cap,kz,hv,_,hg,hc,uJ,kf,hx⟩
 ·exact .inl ⟨hv,List.eq_nil_of_length_eq_zero ru⟩
 ·have lK:=ko
  rw[hv]at lK
  refine .inr ⟨⟨g,0,none⟩,cap,xs,hv,hsz,ko.1,fun j u hj=>lK.cells (g:=g) rfl j u hj,fun u hu=>?_,hr⟩
  obtain⟨t,ht,rfl⟩:=List.getElem_of_mem hu
  have kj:t<m.length*sz:=by rw[←ko.1];exact ht
  have hd:t / sz<m.length:=(Nat.div_lt_iff_lt_mul kq).2 kj
  have ke:m[t / sz]?=some m[t / sz]:=List.getElem?_eq_getElem hd
  have nA:=hsz _ (List.getElem_mem hd)
  have uM:t % sz<(m[t / sz]).length:=by rw[nA];exact Nat.mod_lt _ kq
  have xz:(m[t / sz])[t % sz]?=some (m[t / sz])[t % sz]:=List.getElem?_eq_getElem uM
  obtain⟨y,hy,ly⟩:=hr _ _ ke _ _ xz
  rw[Nat.mul_comm,Nat.div_add_mod,List.getElem?_eq_getElem ht]at hy
  cases hy
  exact(hm _ (List.getElem_mem hd) _ (List.getElem_mem uM)).spec.2 _ ly
theorem GP{e sz:Nat}{op:Op}{i ver:Nat}{l m:List (List AV)}{θ:Th}{a:Act}{w:World}(hs:U3 E n θ σ a w)(ld:i<σ.nx)(hb:A7 σ.hp i=some (.row e sz ver l))(lb:e<Q0)(hd:Nat.blt d n=true)
  {xs news:List Value} {v':Value} {w':World} (ko:w.ownsRow 0 e sz (θ i) l.length xs) (pq:∀el∈l,el.length=sz) (ul:∀el∈m,el.length=sz)
  (hr:∀(k:Nat) el,l[k]?=some el→∀(j:Nat) x,el[j]?=some x→∃y,xs[k*sz+j]?=some y∧Im (kx E θ σ.nx σ.hp w).U w x y)
  (vG:∀(k:Nat) el,m[k]?=some el→∀(j:Nat) x,el[j]?=some x→∃y,news[k*sz+j]?=some y∧Im (kx E θ σ.nx σ.hp w).U w x y)
  (hex:(execOp a.eval ⟨some d,op,ty,pos,after,none⟩).run P w=.ok (.value v') w') (lK:w'.ownsRow 0 e sz v' (l.length+m.length) (xs++news)) (nd:w.grownBy w' (θ i).ownBlock) (qd:∀b,fp v'=some b→fp (θ i)=some b∨w.heap.size≤b)
  (k:B5 P E n ops rest ((σ.set i (.row e sz (ver+1) (l++m))).put d (.row i (ver+1) (l.length+m.length))) K) :
  wpList P ops (fun e a' w'=>e=.normal∧∃σ',K σ'∧BS E n σ' a' w') (⟨some d,op,ty,pos,after,none⟩::rest) a w:=by
 have nT:e<R7:=by unfold Q0 at lb;unfold R7;omega
 unfold wpList
 rw[if_pos (by simp[Region.wanted])]
 left
 simp only[Oper.wp,hex,Oper.upon]
 have rS:∀k,(θ i).ownBlock=some k→fp (θ i)=some k:=by
  intro k hk
  obtain⟨q,c,hsh,_⟩:=x9 (.of ko nT)
  rw[hsh]at hk ⊢
  cases q with
  |none=>simp[Value.ownBlock]at hk
  |some q=>simpa [Value.ownBlock,fp]using hk
 have ht:=hs.turn (hkp:=fun _ _ _ _ h hk _=>by cases h;rw[Pn lb]at hk;cases hk) (hne:=fun h=>by rw[n9 (Bt lb)]at h;cases h) (b':=.row e sz (ver+1) (l++m)) (v':=v') (w':=w') hb nd.os nd.tape nd.output nd.size (fun k hk hne=>nd.block k hk fun e=>hne (rS k e.symm)) qd
  ⟨(by obtain⟨q,c,hsh,_⟩:=x9 (.of ko nT);exact⟨q,_,c,hsh⟩),e,ver,l,rfl,.inl (Nat.lt_succ_self _)⟩ (fun le=>by
   refine⟨xs++news,by simp only[cx,G8];rw[List.length_append];exact .of lK nT,fun el ke=>?_,fun k el hk j u hu=>?_,.lt (Bt lb)⟩
   ·rcases List.mem_append.1 ke with h1|h1
    ·exact pq el h1
    ·exact ul el h1
   ·obtain⟨y',ni,ly⟩:=QF (R:=Im (kx E θ σ.nx σ.hp w).U w) ko.1 hr vG k el hk j u hu
    exact⟨y',ni,ly.mono le.heap le.U⟩)
 refine k _ _ ⟨_,ht.put (Nat.blt_eq▸hd) ?_⟩
 refine .row _ _ _ _ ld fun e' kw v2 l2 lk=>?_
 simp only[cx,St.set,J3,if_pos]at lk
 cases lk
 exact⟨Nat.le_refl _,fun _=>⟨by simp,by simp[cx,G8]⟩⟩
theorem GQ{T e sz by_:Nat}{z:List Value}[ts:Q4 P T e sz][tz:K4 P e z][tb:Q8 P e by_]{i ver len:Nat}{l m:List (List AV)}{θ:Th}{a:Act}{w:World}(hs:U3 E n θ σ a w)(hl:l.length=len)(hv:a.eval x=θ i)(ld:i<σ.nx)(hb:A7 σ.hp i=some (.row e sz ver l))(qg:ZF (kx E θ σ.nx σ.hp w) sz m (a.eval y))
  (hz:z.length=sz) (kq:0<sz) (lb:e<Q0) (kf:(len+m.length)*by_≤140737488355328) (oy:len+m.length≤9223372036854775807) (hd:Nat.blt d n=true)
  (k:B5 P E n ops rest ((σ.set i (.row e sz (ver+1) (l++m))).put d (.row i (ver+1) (len+m.length))) K) :
  wpList P ops (fun e a' w'=>e=.normal∧∃σ',K σ'∧BS E n σ' a' w') (⟨some d,.call ⟨.builtin .append,#[x,y],#[T,T]⟩,ty,pos,after,none⟩::rest) a w:=by
 have h:=hs.evT
 obtain⟨hu,inf,hi,hsz⟩:=ts.out
 obtain⟨i2,zv,lc,qM,uY⟩:=tz.out
 obtain⟨i3,pk,ng⟩:=tb.out
 rw[hi]at lc pk
 cases lc;cases pk
 obtain⟨xs,oM,pq,hr⟩:=h.row hb
 have ko:=oM.row lb
 have nT:e<R7:=by unfold Q0 at lb;unfold R7;omega
 have mN:a.eval x=θ i:=hv
 subst hl
 have tx:zv.cells.size=sz:=by rw[uY];simpa using hz
 obtain⟨news,rN,vG,v',w',lN,lK,nd,qd,nf⟩:∃news:List Value,news.length=m.length*sz∧(∀(k:Nat) el,m[k]?=some el→∀(j:Nat) x,el[j]?=some x→∃y,news[k*sz+j]?=some y∧Im (kx E θ σ.nx σ.hp w).U w x y) ∧
   ∃v' w',(Builtin.append_ #[T,T] ty #[θ i,a.eval y]).run P w=.ok v' w'∧w'.ownsRow 0 e sz v' (l.length+m.length) (xs++news)∧w.grownBy w' (θ i).ownBlock∧(∀b,fp v'=some b→fp (θ i)=some b∨w.heap.size≤b)∧(m.length=0→v'=θ i):=by
  rcases qg with ⟨hn,rfl⟩|⟨p,cap,news,pN,po,h1,h2,h3,h4⟩
  ·refine⟨[],by simp,fun k el hk=>by simp at hk,θ i,w,?_,by simpa using ko,⟨rfl,rfl,rfl,Nat.le_refl _,fun _ _ _=>rfl⟩,fun b hb=>.inl hb,fun _=>rfl⟩
   rw[hn]
   obtain⟨q,c,hsh,xw,_⟩:=x9 (.of ko nT)
   rw[hsh]
   cases q<;>simp[Builtin.append_,run_underlying hu,sizeOf,typeInfo,program,Sem.run,hi,Builtin.lenOf,Builtin.firstCells,storeCells,xw,Sem.run_bind,Sem.run_pure]
  ·obtain⟨v',w',lN⟩:=Lu (P:=P) (tt:=ty) hu hi qM hsz ng tx kq w (θ i) l.length xs ko p m.length cap news h1 h2 h3 (by unfold maxLen;omega) (by omega)
   exact⟨news,h1,h4,v',w',by rw[pN];exact lN⟩
 refine GP hs ld hb lb hd ko pq (fun el h1=>?_) hr vG ?_ lK nd qd k
 ·rcases qg with ⟨_,rfl⟩|⟨_,_,_,_,po,_⟩
  ·cases h1
  ·exact po el h1
 ·rw[Ac,mN]
  simp[builtin,lN,Sem.run_bind,Sem.run_pure]
theorem FN{T u tt e:Nat}{i:TypeInfo}(ht:P.underlying T=some (.slice e))(hu:P.underlying u=some .string)(hi:P.info? e=some i)(hz:i.zero=some (.int .u8 0))(lP:i.size=1)(ng:i.bytes=1)(w:World)
  (v:Value) (m:Nat) (xs:List Value) (ko:w.ownsRow 0 e 1 v m xs) (s:ByteArray) (mu:m+s.size≤140737488355328) :
  ∃v' w',(Builtin.append_ #[T,u] tt #[v,.string s]).run P w=.ok v' w'∧w'.ownsRow 0 e 1 v' (m+s.size) (xs++Lib.strCells s)∧w.grownBy w' v.ownBlock∧(∀b,fp v'=some b→fp v=some b∨w.heap.size≤b):=by
 have oy:m+s.size≤maxLen:=by unfold maxLen;omega
 rcases ko.2 with ⟨rfl,rfl⟩|⟨g,cap,kz,rfl,pj,hg,rY,qn,oP,nC⟩
 ·have hx:xs=[]:=List.eq_nil_of_length_eq_zero (by simpa using ko.1)
  subst hx
  obtain⟨v',w',hr,ho,nd,_⟩:=Lib.run_append_own_string (P:=P) w w.heap.size T u tt e i ht hu hi hz lP ng (.slice none 0 0) 0 [] (World.ownsRow_nil w _ e 1) s oy mu (Nat.le_refl _)
  refine⟨v',w',hr,⟨ho.1,?_⟩,nd,fun b hb=>?_⟩
  ·rcases ho.2 with hn|⟨g,cap,kz,h1,h2,h3⟩
   ·exact .inl hn
   ·exact .inr ⟨g,cap,kz,h1,Nat.zero_le _,h3⟩
  ·rcases ho.2 with ⟨hn,_⟩|⟨g,cap,kz,mN,h2,_⟩
   ·rw[hn]at hb;cases hb
   ·rw[mN]at hb;simp[fp]at hb;right;omega
 ·obtain⟨v',w',hr,ho,nd,oz⟩:=Lib.run_append_own_string (P:=P) w 0 T u tt e i ht hu hi hz lP ng (.slice (some ⟨g,0,none⟩) m cap) m xs ko s oy mu (Nat.zero_le _)
  by_cases ky:m+s.size≤cap
  ·have oV:=Lib.run_append_room_string (P:=P) w T u tt e i ht hu hi lP g m cap kz hg s ky (by rw[oP];omega)
   rw[oV]at hr
   cases hr
   exact⟨_,_,oV,ho,nd,fun b hb=>.inl hb⟩
  ·have holds:∀(j:Nat) u,xs[j]?=some u→w.cell? ((⟨g,0,none⟩:Addr).add j)=some u:=ko.cells (g:=g) rfl
   have oV:=Lib.run_append_grow_string (P:=P) w T u tt e i _ ht hu hi hz ⟨g,0,none⟩ m cap xs (by rw[lP];exact ko.1) holds s (by omega) (by unfold maxLen at oy;omega) (growslice_fits (by omega) (by rw[ng];omega))
   rw[oV]at hr
   cases hr
   exact⟨_,_,oV,ho,nd,fun b hb=>by simp[fp]at hb;right;omega⟩
def Q9(s:List UInt8):List (List AV):=s.map fun b=>[.v (.int .u8 b.toNat)]
theorem Tm{U:Nat→Prop}{w:World}{s:List UInt8}:∀(k:Nat) el,(Q9 s)[k]?=some el→∀(j:Nat) x,el[j]?=some x→∃y,(Lib.strCells ⟨s.toArray⟩)[k*1+j]?=some y∧Im U w x y:=by
 intro k el hk j x hx
 simp only[Q9,List.getElem?_map,Option.map_eq_some_iff]at hk
 obtain⟨b,hb,rfl⟩:=hk
 match j,hx with
 |0,hx =>
  cases hx
  exact⟨_,by simp[Lib.strCells,hb],.v _⟩
theorem Lv{T T2 e:Nat}[ts:Q4 P T e 1][tz:Lk P e][tb:Q8 P e 1][tu:s8 P T2]{i ver len:Nat}{l:List (List AV)}{s:List UInt8}(hx:H1 σ x=some (.row i ver len))(hb:A7 σ.hp i=some (.row e 1 ver l))(hy:H1 σ y=some (.str s))
  (lb:e<Q0) (kf:len+s.length≤140737488355328) (hd:Nat.blt d n=true)
  (k:B5 P E n ops rest ((σ.set i (.row e 1 (ver+1) (l++Q9 s))).put d (.row i (ver+1) (len+s.length))) K) :
  B5 P E n ops (⟨some d,.call ⟨.builtin .append,#[x,y],#[T,T2]⟩,ty,pos,after,none⟩::rest) σ K:=by
 intro a w ⟨θ,hs⟩
 obtain⟨hl,hv,ld⟩:=BE (hs.evT.rel hx) hb
 have h:=hs.evT
 obtain⟨hu,inf,hi,hsz⟩:=ts.out
 obtain⟨i2,lc,qM⟩:=tz.out
 obtain⟨i3,pk,ng⟩:=tb.out
 rw[hi]at lc pk
 cases lc;cases pk
 obtain⟨xs,oM,pq,hr⟩:=h.row hb
 have ko:=oM.row lb
 have mN:a.eval x=θ i:=hv
 have qg:=(h.rel hy).sval
 subst hl
 have tU:(ByteArray.mk s.toArray).size=s.length:=by simp[ByteArray.size]
 obtain⟨v',w',lN,lK,nd,qd⟩:=FN (P:=P) (tt:=ty) hu tu.out hi qM hsz ng w (θ i) l.length xs ko ⟨s.toArray⟩ (by rw[tU];exact kf)
 rw[tU]at lK
 have sD:(Q9 s).length=s.length:=by simp[Q9]
 refine GP (m:=Q9 s) hs ld hb lb hd ko pq (fun el h1=>?_) hr Tm ?_ (by rw[sD];exact lK) nd qd (by rw[sD];exact k)
 ·obtain⟨b,_,rfl⟩:=List.mem_map.1 h1
  rfl
 ·rw[Ac,mN,qg]
  simp[builtin,lN,Sem.run_bind,Sem.run_pure]
theorem IX{T T2 e:Nat}[ts:Q4 P T e 1][tz:Lk P e][tb:Q8 P e 1][tu:s8 P T2]{s:List UInt8}(hx:H1 σ x=some (.v (.slice none 0 0)))(hy:H1 σ y=some (.str s))
  (lb:e<Q0) (kf:0+s.length≤140737488355328) (hd:Nat.blt d n=true)
  (k:B5 P E n ops rest (((σ.new (.row e 1 0 [])).set σ.nx (.row e 1 1 ([]++Q9 s))).put d (.row σ.nx 1 (0+s.length))) K) :
  B5 P E n ops (⟨some d,.call ⟨.builtin .append,#[x,y],#[T,T2]⟩,ty,pos,after,none⟩::rest) σ K:=by
 intro a w ⟨θ,hs⟩
 have hv:=(hs.ev hx).val
 have h2:=hs.grow (w':=w) (Below.refl _ _) (.slice none 0 0) (.row e 1 0 []) (fun k hk=>by cases hk) (fun le=>⟨[],⟨by simp,.inl ⟨by simp[cx,G8],rfl⟩⟩,(fun el ke=>by cases ke),(fun k el hk=>by simp at hk),.lt (Bt lb)⟩) (n9 (Bt lb))
 have qg:=(hs.ev hy).sval
 obtain⟨hu,inf,hi,hsz⟩:=ts.out
 obtain⟨i2,lc,qM⟩:=tz.out
 obtain⟨i3,pk,ng⟩:=tb.out
 rw[hi]at lc pk
 cases lc;cases pk
 have tU:(ByteArray.mk s.toArray).size=s.length:=by simp[ByteArray.size]
 obtain⟨v',w',lN,lK,nd,qd⟩:=FN (P:=P) (tt:=ty) hu tu.out hi qM hsz ng w (.slice none 0 0) 0 [] (World.ownsRow_nil w 0 e 1) ⟨s.toArray⟩ (by rw[tU];exact kf)
 rw[tU]at lK
 have sD:(Q9 s).length=s.length:=by simp[Q9]
 have hθ:upd θ σ.nx (.slice none 0 0) σ.nx=.slice none 0 0:=G8 ..
 refine GP (σ:=σ.new (.row e 1 0 [])) (l:=[]) (xs:=[]) (m:=Q9 s) h2 (Nat.lt_succ_self _) (show A7 ((σ.nx,some (.row e 1 0 []))::σ.hp) σ.nx=some (.row e 1 0 []) by rw[J3,if_pos rfl]) lb hd (by rw[hθ];exact World.ownsRow_nil w 0 e 1) (fun el h1=>by cases h1) (fun el h1=>?_) (fun k el hk=>by simp at hk) Tm ?_ (by rw[sD];exact lK) (by rw[hθ];exact nd) (by rw[hθ];exact qd) (by rw[sD];exact k)
 ·obtain⟨b,_,rfl⟩:=List.mem_map.1 h1
  rfl
 ·rw[Ac,hv,qg]
  simp[builtin,lN,Sem.run_bind,Sem.run_pure]
theorem Lw{T e sz by_:Nat}{z:List Value}[ts:Q4 P T e sz][tz:K4 P e z][tb:Q8 P e by_]{i ver len:Nat}{l m:List (List AV)}(hx:H1 σ x=some (.row i ver len))(hb:A7 σ.hp i=some (.row e sz ver l))(hy:H1 σ y=some (.sl sz m))
  (hm:∀el∈m,∀u∈el,o0 u) (hz:z.length=sz) (kq:0<sz) (lb:e<Q0) (kf:(len+m.length)*by_≤140737488355328) (oy:len+m.length≤9223372036854775807) (hd:Nat.blt d n=true)
  (k:B5 P E n ops rest ((σ.set i (.row e sz (ver+1) (l++m))).put d (.row i (ver+1) (len+m.length))) K) :
  B5 P E n ops (⟨some d,.call ⟨.builtin .append,#[x,y],#[T,T]⟩,ty,pos,after,none⟩::rest) σ K:=by
 intro a w ⟨θ,hs⟩
 obtain⟨hl,hv,ld⟩:=BE (hs.evT.rel hx) hb
 exact GQ hs hl hv ld hb (Tl (hs.evT.rel hy) hm kq) hz kq lb kf oy hd k
theorem LA{T e sz by_:Nat}{z:List Value}[ts:Q4 P T e sz][tz:K4 P e z][tb:Q8 P e by_]{i ver len j qQ tA e2:Nat}{l m:List (List AV)}(hx:H1 σ x=some (.row i ver len))(hb:A7 σ.hp i=some (.row e sz ver l))(hy:H1 σ y=some (.row j qQ tA))(ll:A7 σ.hp j=some (.row e2 sz qQ m))
  (hm:∀el∈m,∀u∈el,o0 u) (hz:z.length=sz) (kq:0<sz) (lb:e<Q0) (kf:(len+m.length)*by_≤140737488355328) (oy:len+m.length≤9223372036854775807) (hd:Nat.blt d n=true)
  (k:B5 P E n ops rest ((σ.set i (.row e sz (ver+1) (l++m))).put d (.row i (ver+1) (len+m.length))) K) :
  B5 P E n ops (⟨some d,.call ⟨.builtin .append,#[x,y],#[T,T]⟩,ty,pos,after,none⟩::rest) σ K:=by
 intro a w ⟨θ,hs⟩
 obtain⟨hl,hv,ld⟩:=BE (hs.evT.rel hx) hb
 obtain⟨lk,oe,hnx2⟩:=BE (hs.evT.rel hy) ll
 exact GQ hs hl hv ld hb (by rw[oe];exact ZG hs.evT ll hm kq) hz kq lb kf oy hd k
theorem Lx{T e sz by_:Nat}{z:List Value}[ts:Q4 P T e sz][tz:K4 P e z][tb:Q8 P e by_]{m:List (List AV)}(hx:H1 σ x=some (.v (.slice none 0 0)))(hy:H1 σ y=some (.sl sz m))
  (hm:∀el∈m,∀u∈el,o0 u) (hz:z.length=sz) (kq:0<sz) (lb:e<Q0) (kf:(0+m.length)*by_≤140737488355328) (oy:0+m.length≤9223372036854775807) (hd:Nat.blt d n=true)
  (k:B5 P E n ops rest (((σ.new (.row e sz 0 [])).set σ.nx (.row e sz 1 ([]++m))).put d (.row σ.nx 1 (0+m.length))) K) :
  B5 P E n ops (⟨some d,.call ⟨.builtin .append,#[x,y],#[T,T]⟩,ty,pos,after,none⟩::rest) σ K:=by
 intro a w ⟨θ,hs⟩
 have hv:=(hs.ev hx).val
 have h2:=hs.grow (w':=w) (Below.refl _ _) (.slice none 0 0) (.row e sz 0 []) (fun k hk=>by cases hk) (fun le=>⟨[],⟨by simp,.inl ⟨by simp[cx,G8],rfl⟩⟩,(fun el ke=>by cases ke),(fun k el hk=>by simp at hk),.lt (Bt lb)⟩) (n9 (Bt lb))
 have vV:H1 (σ.new (.row e sz 0 [])) y=some (.sl sz m):=by cases y<;>exact hy
 exact GQ (i:=σ.nx) (ver:=0) (l:=[]) h2 rfl (by rw[hv,G8]) (Nat.lt_succ_self _) (by simp[St.new,J3]) (Tl (h2.evT.rel vV) hm kq) hz kq lb kf oy hd k
end rules
def U4:List (Nat×AV)→List (List AV)
 |[]=>[]
 |(_,a)::r=>J8 a::U4 r
def DC:Nat→List (Nat×AV)→Bool
 |_,[]=>true
 |k,(i,_)::r=>Nat.beq i k && DC (k+1) r
def Ae(sz:Nat):List (List AV)→Bool
 |[]=>true
 |e::r=>Nat.beq e.length sz && Ae sz r
theorem FO{sz:Nat}:∀{l:List (List AV)},Ae sz l=true→∀e∈l,e.length=sz
 |[],_,e,he=>by cases he
 |x::r,h,e,he=>by
  simp only[Ae,Bool.and_eq_true,Nat.beq_eq]at h
  rcases List.mem_cons.1 he with rfl|he
  ·exact h.1
  ·exact FO h.2 e he
theorem GR:∀(ps:List (Nat×AV)),(U4 ps).length=ps.length
 |[]=>rfl
 |_::r=>by simp[U4,GR r]
theorem Kc{sz len:Nat}:∀(ps:List (Nat×AV)) (k:Nat) (A:List AV),A.length=k*sz→DC k ps=true→Ae sz (U4 ps)=true→k+ps.length=len →
  CU ((List.range len).map fun i=>(i*sz,sz)) (A++List.replicate (ps.length*sz) .any) ps=some (A++(U4 ps).flatten)
 |[],k,A,hA,_,_,_=>by simp[CU,U4]
 |(i,a)::r,k,A,hA,hd,hl,hk=>by
  simp only[DC,Bool.and_eq_true,Nat.beq_eq]at hd
  simp only[U4,Ae,Bool.and_eq_true,Nat.beq_eq]at hl
  obtain⟨rfl,hd⟩:=hd
  simp only[List.length_cons]at hk
  have mv:((List.range len).map fun j=>(j*sz,sz))[i]?=some (i*sz,sz):=by
   rw[List.getElem?_map,List.getElem?_range (by omega)];rfl
  have sw:(r.length+1)*sz=sz+r.length*sz:=by rw[Nat.add_mul,Nat.one_mul];omega
  simp only[CU,mv]
  have hb:(Nat.beq (J8 a).length sz && Nat.ble (i*sz+(J8 a).length) (A++List.replicate (((i,a)::r).length*sz) AV.any).length)=true:=by
   simp only[Bool.and_eq_true,Nat.beq_eq,Nat.ble_eq,List.length_append,List.length_replicate,List.length_cons]
   exact⟨hl.1,by rw[hA,hl.1,sw];omega⟩
  rw[hb]
  have hs:y4 (A++List.replicate (((i,a)::r).length*sz) AV.any) (i*sz) (J8 a)=(A++J8 a)++List.replicate (r.length*sz) AV.any:=by
   unfold y4
   rw[←hA,List.take_left,List.drop_append,List.drop_of_length_le (by omega),List.length_cons,sw,hl.1]
   simp
  have ih:=Kc (sz:=sz) (len:=len) r (i+1) (A++J8 a) (by rw[List.length_append,hA,hl.1,Nat.add_mul,Nat.one_mul]) hd hl.2 (by omega)
  simp only[cond_true]
  rw[hs,ih]
  simp[U4]
theorem LB{sz:Nat}:∀{l:List (List AV)} {i j:Nat} {e:List AV} {x:AV},(∀e∈l,e.length=sz)→l[i]?=some e→e[j]?=some x→l.flatten[i*sz+j]?=some x
 |[],i,j,e,x,_,h,_=>by simp at h
 |a::r,0,j,e,x,hs,h,hx=>by
  simp at h;subst h
  rw[List.flatten_cons,Nat.zero_mul,Nat.zero_add,List.getElem?_append_left (List.getElem?_eq_some_iff.1 hx).1]
  exact hx
 |a::r,i+1,j,e,x,hs,h,hx=>by
  have ha:=hs a (by simp)
  rw[List.flatten_cons,List.getElem?_append_right (by rw[ha,Nat.add_mul];omega)]
  have:=LB (l:=r) (i:=i) (j:=j) (fun e he=>hs e (by simp[he])) (by simpa using h) hx
  rw[←this]
  congr 1
  rw[ha,Nat.add_mul]
  omega
theorem GS{sz:Nat}:∀{l:List (List AV)},(∀e∈l,e.length=sz)→l.flatten.length=l.length*sz
 |[],_=>by simp
 |a::r,hs=>by
  rw[List.flatten_cons,List.length_append,hs a (by simp),GS (fun e he=>hs e (by simp[he])),List.length_cons,Nat.add_mul]
  omega
section rules
variable {P:Program} {E:Env} {n nx:Nat} {hp:Hp} {ev:Operand→Option AV} {ops:Array Oper} {rest:List Oper} {σ:St} {K:St→Prop} {Q:Exit→St→Prop}
variable {d:Nat} {ty:TypeId} {pos:String} {after:Array Edge} {x y:Operand}
def Cc:List (List AV)→Prop
 |[]=>True
 |e::r=>(∀u∈e,o0 u)∧Cc r
theorem Cc.mem:∀{l:List (List AV)},Cc l→∀e∈l,∀u∈e,o0 u
 |[],_,e,he=>by cases he
 |x::r,h,e,he=>by
  rcases List.mem_cons.1 he with rfl|he
  ·exact h.1
  ·exact Cc.mem h.2 e he
theorem Fv{T e sz:Nat}{z:List Value}[ts:Q4 P T e sz][tz:K4 P e z]{parts:List (Nat×Operand)}{ps:List (Nat×AV)}{len:Nat}{θ:Th}{a:Act}{w:World}(h:Ab E θ nx hp ev a w)(he:CM ev parts=some ps)(la:EH hp ps)
  (hd:DC 0 ps=true) (hl:Ae sz (U4 ps)=true) (kf:ps.length=len) (hz:z.length=sz) (mj:len*sz≤16777216) (kq:0<sz) :
  ∃cells:Array Value,(Instr.buildSlice T len (parts.toArray.map fun (i,x)=>(i,a.eval x))).run P w=.ok (.slice (some ⟨w.heap.size,0,none⟩) len len) (w.alloc (.cells cells e))∧PW (kx E θ nx hp w) (U4 ps).flatten cells.toList:=by
 obtain⟨hu,i,hi,hsz⟩:=ts.out
 obtain⟨i2,zv,lc,qM,uY⟩:=tz.out
 rw[hi]at lc
 cases lc
 subst kf
 have hf:=Kc (sz:=sz) (len:=ps.length) ps 0 [] (by simp) hd hl (by omega)
 simp only[List.nil_append]at hf
 have hsz2:((Array.range (ps.length*i.size)).map (zv.cells[· % zv.cells.size]!)).size=ps.length*sz:=by simp[hsz]
 obtain⟨lS,h1,h2⟩:=Ft h (pl:=(List.range ps.length).map fun i=>(i*sz,sz)) (place:=fun q=>some (q*i.size,i.size)) (fun j p hj=>by
  simp only[List.getElem?_map,Option.map_eq_some_iff]at hj
  obtain⟨t,ht,rfl⟩:=hj
  have kj:j<ps.length:=by
   rcases Nat.lt_or_ge j ps.length with h1|h1
   ·exact h1
   ·rw[List.getElem?_eq_none (by simpa using h1)]at ht;cases ht
  rw[List.getElem?_range kj]at ht
  cases ht
  rw[hsz]) parts ps (List.replicate (ps.length*sz) .any) _ ((Array.range (ps.length*i.size)).map (zv.cells[· % zv.cells.size]!)) he la ⟨by simp[hsz],fun j u y hu hy=>by
   have:u=.any:=by
    have:=List.mem_of_getElem? hu
    exact List.eq_of_mem_replicate this
   subst this
   exact .any _⟩ hf
 refine⟨lS,?_,h2⟩
 have hn:¬(ps.length*sz>2 ^ 24):=by omega
 simp only[Instr.buildSlice,Sem.run_bind,run_underlying hu,Result.andThen_ok,sizeOf,typeInfo,program,Sem.run,hi,Sem.run_pure,hsz,Sem.run_ite]
 rw[if_neg hn]
 have nW:Instr.fill (fun i=>some (i*sz,sz)) ((Array.range (ps.length*sz)).map (zv.cells[· % zv.cells.size]!)) (parts.toArray.map fun (i,x)=>(i,a.eval x)).toList=some lS:=by
  rw[←h1,hsz]
  simp
 split
 ·rename_i h0
  have e1:(Array.range (ps.length*sz)).map ((#[]:Array Value)[· % (#[]:Array Value).size]!)=(Array.range (ps.length*sz)).map (zv.cells[· % zv.cells.size]!):=by simp[h0]
  rw[e1,nW]
  rfl
 ·rw[y0 hi qM]
  simp only[Result.andThen_ok]
  rw[nW]
  rfl
theorem IY{T e sz:Nat}{z:List Value}[ts:Q4 P T e sz][tz:K4 P e z]{parts:List (Nat×Operand)}{ps:List (Nat×AV)}{len:Nat}(he:CM ev parts=some ps)(la:EH hp ps)
  (hd:DC 0 ps=true) (hl:Ae sz (U4 ps)=true) (kf:ps.length=len) (hz:z.length=sz) (mj:len*sz≤16777216) (kq:0<sz) (ly:Cc (U4 ps)) :
  I2 P E nx hp ev (.buildSlice T len parts.toArray) ty (.sl sz (U4 ps)) :=
 Wg fun _ _ _ θ a w h=>by
  obtain⟨cells,hr,oA⟩:=Fv (P:=P) (T:=T) (e:=e) h he la hd hl kf hz mj kq
  have oZ:(U4 ps).length=len:=by rw[GR,kf]
  have hsz:=FO hl
  have ku:cells.size=len*sz:=by
   have:=oA.1
   rw[GS hsz,oZ,Array.length_toList]at this
   exact this.symm
  have h1:len≤len*sz:=Nat.le_mul_of_pos_right _ kq
  refine⟨.slice (some ⟨w.heap.size,0,none⟩) len len,w.alloc (.cells cells e),by simp only[execOp,Sem.run_bind,hr,Result.andThen_ok,Sem.run_pure],Y4 _ _,.im ?_⟩
  rw[←oZ]
  refine .sl sz (U4 ps) ⟨w.heap.size,0,none⟩ _ (fun i j=>cells.toList.getD (i*sz+j) undef) (Nat.le_refl _) (by unfold maxLen;omega) (fun _ _ hu=>absurd (h.Ult _ hu) (Nat.lt_irrefl _)) hsz (fun i hi j hj=>?_) (fun i el hi j u hu=>?_)
  ·rw[oZ]at hi
   have oc:i*sz+j<cells.size:=by
    rw[ku]
    have:(i+1)*sz≤len*sz:=Nat.mul_le_mul_right _ hi
    rw[Nat.add_mul,Nat.one_mul]at this
    omega
   rw[addr_add]
   refine(P5 (b:=w.heap.size) (heap_alloc_new w _) _).trans ?_
   simp[oc]
  ·have ss:=LB hsz hi hu
   have kj:i*sz+j<cells.toList.length:=by rw[←oA.1];exact(List.getElem?_eq_some_iff.1 ss).1
   have hc:cells.toList[i*sz+j]?=some cells.toList[i*sz+j]:=List.getElem?_eq_getElem kj
   have mG:=oA.2 _ _ _ ss hc
   have rV:=(ly.mem el (List.mem_of_getElem? hi) u (List.mem_of_getElem? hu))
   have hI:=(Ad (o0.spec (U:=(kx E θ nx hp w).U) (w:=w) rV).1).im mG
   have e1:cells.toList.getD (i*sz+j) undef=cells.toList[i*sz+j]:=by simp[List.getD,kj]at kj ⊢;simp[kj]
   rw[e1]
   exact hI.mono (fun k hk _=>heap_alloc_old w _ hk) fun k _ hu=>hu
theorem Ly{T e sz:Nat}{z:List Value}[ts:Q4 P T e sz][tz:K4 P e z]{parts:List (Nat×Operand)}{ps:List (Nat×AV)}{len:Nat}(he:CM (H1 σ) parts=some ps)(la:EH σ.hp ps)
  (vI:DC 0 ps=true) (hl:Ae sz (U4 ps)=true) (kf:ps.length=len) (hz:z.length=sz) (mj:len*sz≤16777216) (kq:0<sz) (ly:Cc (U4 ps)) (nT:e<R7) (hd:Nat.blt d n=true)
  (k:B5 P E n ops rest ((σ.new (.row e sz 0 (U4 ps))).put d (.row σ.nx 0 len)) K):B5 P E n ops (⟨some d,.buildSlice T len parts.toArray,ty,pos,after,none⟩::rest) σ K :=
 Cb hd (fun θ a w h=>by
  obtain⟨cells,hr,oA⟩:=Fv (P:=P) (T:=T) (e:=e) h he la vI hl kf hz mj kq
  have oZ:(U4 ps).length=len:=by rw[GR,kf]
  have hsz:=FO hl
  have ku:cells.toList.length=(U4 ps).length*sz:=by rw[←oA.1,GS hsz]
  have h1:len≤len*sz:=Nat.le_mul_of_pos_right _ kq
  refine⟨.slice (some ⟨w.heap.size,0,none⟩) len len,.slice (some ⟨w.heap.size,0,none⟩) len len,w.alloc (.cells cells e),by simp only[execOp,Sem.run_bind,hr,Result.andThen_ok,Sem.run_pure],Y4 _ _,Kz (Nat.le_refl _),fun le=>?_⟩
  have key:=QE (E:=E) (σ:=σ) (θ:=θ) (w:=w) (w':=w.alloc (.cells cells e)) (xs:=cells.toList) (rest:=[]) (e:=e) (sz:=sz) (g:=w.heap.size) (cap:=len) (l:=U4 ps)
   nT (Nat.le_refl _) (by simpa using heap_alloc_new w _) ku (by omega) (by unfold maxLen;omega) (by simpa [oZ]using ku) hsz (fun k el hk j u hu=>?_) (by rw[oZ];exact le)
  ·rw[oZ]at key;exact key
  ·have ss:=LB hsz hk hu
   have kj:k*sz+j<cells.toList.length:=by rw[←oA.1];exact(List.getElem?_eq_some_iff.1 ss).1
   have hc:cells.toList[k*sz+j]?=some cells.toList[k*sz+j]:=List.getElem?_eq_getElem kj
   have mG:=oA.2 _ _ _ ss hc
   have rV:=(ly.mem el (List.mem_of_getElem? hk) u (List.mem_of_getElem? hu))
   exact⟨_,hc,(Ad (o0.spec (U:=(kx E θ σ.nx σ.hp w).U) (w:=w) rV).1).im mG⟩) k (n9 (FL nT))
def Dm(m:List (Key×AV))(k:Key):Option AV:=(m.find? fun p=>decide (p.1=k)).map (·.2)
def Dn:List (Key×AV)→Key→AV→List (Key×AV)
 |[],k,v=>[(k,v)]
 |(k',v')::r,k,v=>if k'=k then (k',v)::r else (k',v')::Dn r k v
def b8(t:TypeDesc):Key→Prop
 |.s _=>t=.string
 |.i k _=>t=.int k
theorem QG{T:TypeId}(hd:Nat.blt d n=true)(k:B5 P E n ops rest ((σ.new (.map [])).put d (.mp σ.nx)) K):B5 P E n ops (⟨some d,.makeMap T none,ty,pos,after,none⟩::rest) σ K :=
 Cb (b:=.map []) hd (fun θ a w h=>⟨.map (some w.heap.size),.map (some w.heap.size),w.alloc (.map #[] 0),by simp[execOp,Instr.makeMap,newObj,Sem.run_bind,Sem.run_pure,Sem.run],Y4 _ _,fun k hk=>by simp[fp]at hk;omega,fun le =>
  ⟨⟨w.heap.size,#[],0,by simp[cx,G8],heap_alloc_new w _,rfl,fun j kx e hx=>by simp at hx⟩,.mp _ _ (by simp[cx,St.new]) (by simp[cx,G8])⟩⟩) k
theorem Wt{c:Cx}{i:Nat}{y:Value}(r:G2 c (.mp i) y):y=c.θ i∧i<c.nx:=by
 cases r with
 |im hi=>cases hi
 |mp i r hi hθ=>exact⟨hθ.symm,hi⟩
theorem Sm{t:TypeDesc}{k k':Key}(h:b8 t k)(h':b8 t k'):Instr.sameNow t k.val k'.val=some (decide (k=k')):=by
 cases k with
 |s l =>
  simp only[b8]at h
  subst h
  cases k' with
  |s l' =>
   simp only[Key.val,Instr.sameNow,Key.s.injEq]
   congr 1
   show (l.toArray == l'.toArray)=_
   by_cases e:l=l'<;>simp[e]
  |i k n=>simp[b8]at h'
 |i kk m =>
  simp only[b8]at h
  subst h
  cases k' with
  |s l'=>simp[b8]at h'
  |i k' m' =>
   simp only[b8,TypeDesc.int.injEq]at h'
   subst h'
   simp[Key.val,Instr.sameNow,fi]
theorem findNow_spec{t:TypeDesc}{k:Key}(hk:b8 t k):∀(m:List (Key×AV)) (es:List MapEntry) (i:Nat),es.length=m.length→(∀p∈m,b8 t p.1)→(∀(j:Nat) (p:Key×AV) e,m[j]?=some p→es[j]?=some e→e.key=p.1.val) →
  ∃r,Instr.findNow t k.val es i=some r∧(match m.findIdx? (fun p=>decide (p.1=k))with
   |none=>r=none
   |some j=>∃e,es[j]?=some e∧r=some (i+j,e.val))
 |[],es,i,hl,_,_=>by
  have:es=[]:=List.eq_nil_of_length_eq_zero (by simpa using hl)
  subst this
  exact⟨none,rfl,rfl⟩
 |p::r,[],i,hl,_,_=>by simp at hl
 |p::r,e::es,i,hl,oG,sO=>by
  have vP:=sO 0 p e rfl rfl
  have hs:=Sm (t:=t) hk (oG p (by simp))
  simp only[Instr.findNow,vP]
  rw[show Instr.sameNow t k.val p.1.val=some (decide (k=p.1))from hs]
  by_cases e1:p.1=k
  ·rw[decide_eq_true e1.symm]
   refine⟨_,rfl,?_⟩
   rw[List.findIdx?_cons]
   simp only[e1,decide_true,if_true]
   exact⟨e,rfl,rfl⟩
  ·rw[decide_eq_false (fun h=>e1 h.symm)]
   obtain⟨q,hq,nl⟩:=findNow_spec hk r es (i+1) (by simpa using hl) (fun p hp=>oG p (by simp[hp])) (fun j p e hj he=>sO (j+1) p e (by simpa using hj) (by simpa using he))
   refine⟨q,hq,?_⟩
   rw[List.findIdx?_cons]
   simp only[e1,decide_false]
   cases hf:r.findIdx? (fun p=>decide (p.1=k))with
   |none=>rw[hf]at nl;simpa using nl
   |some j =>
    rw[hf]at nl
    obtain⟨e',pY,xD⟩:=nl
    simp only[Option.map_some]
    refine⟨e',by simpa using pY,?_⟩
    rw[xD]
    congr 2
    omega
theorem KT{kt:TypeId}{t:TypeDesc}{k:Key}(ht:P.underlying kt=some t)(hk:b8 t k)(b:Bool)(m:Nat)(w:World):(Instr.checkKey b (m+1) kt k.val).run P w=.ok () w:=by
 cases k with
 |s l=>simp only[b8]at hk;subst hk;simp only[Instr.checkKey,Sem.run_bind,run_underlying ht,Result.andThen_ok,Key.val];rfl
 |i kk m=>simp only[b8]at hk;subst hk;simp only[Instr.checkKey,Sem.run_bind,run_underlying ht,Result.andThen_ok,Key.val];rfl
theorem Ce{kt:TypeId}{t:TypeDesc}{k:Key}(ht:P.underlying kt=some t)(hk:b8 t k)(b:Bool)(w:World):(Instr.checkKey b 10000 kt k.val).run P w=.ok () w:=KT ht hk b 9999 w
def keyOf:AV→Option Key
 |.str l=>some (.s l)
 |.v (.int k n)=>some (.i k n)
 |_=>none
theorem OI{c:Cx}{av:AV}{k:Key}{y:Value}(h:keyOf av=some k)(r:G2 c av y):y=k.val:=by
 unfold keyOf at h
 split at h
 ·cases h;exact r.sval
 ·cases h;exact r.val
 ·cases h
def Em:TypeDesc→Key→Bool
 |.string,.s _=>true
 |.int k,.i k' _=>decide (k=k')
 |_,_=>false
theorem En{t:TypeDesc}{k:Key}(h:Em t k=true):b8 t k:=by
 unfold Em at h
 split at h
 ·rfl
 ·exact(congrArg TypeDesc.int (of_decide_eq_true h))
 ·cases h
theorem ZH{m:List (Key×AV)}{k:Key}:(match m.findIdx? (fun p=>decide (p.1=k))with
   |none=>Dm m k=none
   |some j=>∃p,m[j]?=some p∧p.1=k∧Dm m k=some p.2):=by
 induction m with
 |nil=>simp[Dm]
 |cons p r ih =>
  rw[List.findIdx?_cons]
  by_cases e:p.1=k
  ·simp only[e,decide_true,if_true]
   exact⟨p,rfl,e,by simp[Dm,e]⟩
  ·simp only[e,decide_false]
   cases hf:r.findIdx? (fun p=>decide (p.1=k))with
   |none=>rw[hf]at ih;simp[Dm,e]at ih ⊢;exact ih
   |some j =>
    rw[hf]at ih
    obtain⟨q,h1,h2,h3⟩:=ih
    simp only[Option.map_some]
    exact⟨q,by simpa using h1,h2,by simp[Dm,e]at h3 ⊢;exact h3⟩
end rules
end Go.Av
