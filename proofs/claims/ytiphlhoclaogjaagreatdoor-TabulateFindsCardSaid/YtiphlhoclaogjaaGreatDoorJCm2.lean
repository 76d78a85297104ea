/- Chapter 5: at which level a condition about one column is told. -/
import Derived.Test.YtiphlhoclaogjaaGreatDoorJSx
set_option linter.unusedVariables false
set_option linter.unnecessarySimpa false
set_option linter.unusedSimpArgs false
set_option maxHeartbeats 64000000
namespace Go.Proofs.YtiphlhoclaogjaaGreatDoor
open Go Go.Av
attribute [local irreducible] C9 B3 C8 D1 DQ D0 C7 St.le A3 B8
set_option maxRecDepth 100000
def De(f g:Nat→Int)(L:List Nat):Prop:=∀x∈L,∀y∈L,f x=f y→g x=g y
instance (f g:Nat→Int)(L:List Nat):Decidable (De f g L):=by unfold De;infer_instance
theorem Qv(m:List (Key×AV))(k:Key)(v:AV)(k':Key):w5 (j4 m k v) k'=if k=k' then some v else w5 m k':=by
 induction m with
 |nil=>unfold j4 w5;by_cases e:k=k'<;>simp[e]
 |cons p r ih =>
  obtain⟨a,b⟩:=p
  unfold j4
  by_cases e:a=k
  ·rw[if_pos e]
   subst e
   unfold w5
   by_cases e2:a=k'<;>simp[e2]
  ·rw[if_neg e]
   unfold w5 at ih ⊢
   by_cases e2:a=k'
   ·have:¬k=k':=fun h=>e (e2.trans h.symm)
    simp[e2,this]
   ·simp only[List.find?_cons,e2,decide_false]
    exact ih
theorem Jw{t:TypeDesc}{k:Key}{v:AV}(hk:EP t k=true):∀{m:List (Key×AV)},AD t m→AD t (j4 m k v)
 |[],_=>fun p hp=>by
  unfold j4 at hp
  rw[List.mem_singleton]at hp
  rw[hp];exact hk
 |(a,b)::r,hm=>fun p hp=>by
  unfold j4 at hp
  split at hp
  ·rename_i e
   rcases List.mem_cons.1 hp with rfl|hp
   ·exact hm (a,b) (by simp)
   ·exact hm p (by simp[hp])
  ·rcases List.mem_cons.1 hp with rfl|hp
   ·exact hm (a,b) (by simp)
   ·exact Jw hk (m:=r) (fun q hq=>hm q (by simp[hq])) p hp
def CB(f g:Nat→Int)(l:List Nat):Nat→List (Key×AV)
 |0=>[]
 |k+1=>match l[k]? with
  |some x=>j4 (CB f g l k) (.i .i64 (f x)) (.i (g x))
  |none=>CB f g l k
theorem IZ{f g:Nat→Int}{l:List Nat}{k x:Nat}(h:l[k]?=some x):CB f g l (k+1)=j4 (CB f g l k) (.i .i64 (f x)) (.i (g x)):=by
 rw[CB,h]
theorem Ia(f g:Nat→Int)(l:List Nat):∀k,AD (.int .i64) (CB f g l k)
 |0=>fun p hp=>by cases hp
 |k+1=>by
  unfold CB
  cases l[k]? with
  |none=>exact Ia f g l k
  |some x=>exact Jw (by rfl) (Ia f g l k)
def Ib(f:Nat→Int)(l:List Nat)(k:Nat)(b:Int):Option Nat:=(l.take k).reverse.find? fun x=>decide (f x=b)
def FR(f:Nat→Int)(l:List Nat)(k:Nat)(b:Int):Bool:=(Ib f l k b).isSome
def LA(f g:Nat→Int)(l:List Nat)(k:Nat)(b:Int):Int:=((Ib f l k b).map g).getD 0
theorem Qw(f g:Nat→Int)(l:List Nat)(b:Int):∀k,w5 (CB f g l k) (.i .i64 b)=(Ib f l k b).map fun x=>.i (g x)
 |0=>by simp[CB,w5,Ib]
 |k+1=>by
  have ih:=Qw f g l b k
  unfold Ib at ih ⊢
  cases h:l[k]? with
  |none =>
   rw[CB,h,List.take_add_one,h]
   simpa using ih
  |some x =>
   rw[IZ h,F1 h,List.reverse_append,Qv]
   simp only[List.reverse_cons,List.reverse_nil,List.nil_append,List.cons_append,List.find?_cons,Key.i.injEq,true_and]
   by_cases e:f x=b
   ·simp[e]
   ·simp only[e,if_false,decide_false]
    exact ih
theorem iZ(f g:Nat→Int)(l:List Nat)(k:Nat)(b:Int):AV.tup [Ae (CB f g l k) (.i .i64 b) (l5 (.int .i64 0)),.b (w5 (CB f g l k) (.i .i64 b)).isSome]=.tup [.i (LA f g l k b),.b (FR f l k b)]:=by
 unfold Ae LA FR
 rw[Qw]
 cases Ib f l k b<;>rfl
theorem ia{f:Nat→Int}{l:List Nat}{k:Nat}{b:Int}(h:FR f l k b=false):∀x∈l.take k,f x≠b:=by
 intro x hx e
 unfold FR Ib at h
 rw[Option.isSome_eq_false_iff,Option.isNone_iff_eq_none,List.find?_eq_none]at h
 exact h x (List.mem_reverse.2 hx) (by simp[e])
theorem Tr{f g:Nat→Int}{l:List Nat}{k:Nat}{b:Int}(h:FR f l k b=true):∃x∈l.take k,f x=b∧LA f g l k b=g x:=by
 unfold FR at h
 unfold LA
 obtain⟨x,hx⟩:=Option.isSome_iff_exists.1 h
 refine⟨x,?_,?_,by rw[hx];rfl⟩
 ·exact List.mem_reverse.1 (List.mem_of_find?_eq_some hx)
 ·simpa using List.find?_some hx
theorem De.step{f g:Nat→Int}{l:List Nat}{k x:Nat}(h:De f g (l.take k))(hx:l[k]?=some x)(hs:FR f l k (f x)=true→LA f g l k (f x)=g x):De f g (l.take (k+1)):=by
 have key:∀y∈l.take k,f y=f x→g y=g x:=by
  intro y hy e
  cases hb:FR f l k (f x)with
  |false=>exact absurd e (ia hb y hy)
  |true =>
   obtain⟨z,hz,e1,e2⟩:=Tr (g:=g) hb
   rw[hs hb]at e2
   rw[e2]
   exact h y hy z hz (e.trans e1.symm)
 rw[F1 hx]
 intro a ha b hb e
 rcases List.mem_append.1 ha with h1|h1<;>rcases List.mem_append.1 hb with h2|h2
 ·exact h a h1 b h2 e
 ·rw[List.mem_singleton]at h2;rw[h2]at e ⊢;exact key a h1 e
 ·rw[List.mem_singleton]at h1;rw[h1]at e ⊢;exact(key b h2 e.symm).symm
 ·rw[List.mem_singleton]at h1 h2;rw[h1,h2]
theorem De.not{f g:Nat→Int}{l:List Nat}{k x:Nat}(hx:l[k]?=some x)(hs:FR f l k (f x)=true)(hv:LA f g l k (f x)≠g x):¬De f g l:=by
 intro h
 obtain⟨z,hz,e1,e2⟩:=Tr (g:=g) hs
 rw[e2]at hv
 exact hv (h z (List.mem_of_mem_take hz) x (List.mem_of_getElem? hx) e1)
def HC(a:B7)(x:D3)(level:Int):Prop :=
 if level=0 then x.opt=false∧¬(x.low<a.lo∧a.lo≤x.high)∧¬(x.low≤a.hi∧a.hi<x.high)
 else ((x.low<a.lo∧a.lo≤x.high)→a.lo.tmod (B1 x level)=0)∧((x.low≤a.hi∧a.hi<x.high)→(a.hi+1).tmod (B1 x level)=0)
instance (a:B7)(x:D3)(level:Int):Decidable (HC a x level):=by unfold HC;infer_instance
def a8(s:A4)(a:B7)(level:Int):Bool :=
 if a.op=2 then decide (De (fun x=>L3 (C2 s (B6 s a.col)).1 (C2 s (B6 s a.col)).2 x level) (fun x=>M3 s a x) (F9 s a.col))
 else if a.op=4 then decide (0<level)else decide (HC a (B6 s a.col) level)
theorem Qx{s:A4}{a:B7}{level:Int}{x:D3}{lx:CL}(h2:a.op=2)(hx:s.cols[a.col.toNat]?=some x)(hl:s.lists[x.lst.toNat]?=some lx):a8 s a level=decide (De (fun v=>L3 lx.1 lx.2 v level) (fun v=>M3 s a v) (H1 lx.1 lx.2 (C5 lx.1 lx.2-1))):=by
 unfold a8 F9
 rw[if_pos h2,B9 hx,H5 hl]
theorem Mb{s:A4}{a:B7}{level:Int}(h4:a.op=4):a8 s a level=decide (0<level):=by
 unfold a8
 rw[if_neg (by omega),if_pos h4]
theorem Mc{s:A4}{a:B7}{level:Int}{x:D3}(h3:a.op=3)(hx:s.cols[a.col.toNat]?=some x):a8 s a level=decide (HC a x level):=by
 unfold a8
 rw[if_neg (by omega),if_neg (by omega),B9 hx]
end Go.Proofs.YtiphlhoclaogjaaGreatDoor
