/- Chapter 5: at which level a condition about one column is told. -/
import Derived.Test.YtiphlhoclaogjaaGreatDoorSSx
set_option linter.unusedVariables false
set_option linter.unnecessarySimpa false
set_option linter.unusedSimpArgs false
set_option maxHeartbeats 64000000
namespace Go.Proofs.YtiphlhoclaogjaaGreatDoor
open Go Go.Av
attribute [local irreducible] C7 B2 D3 C9 DQ D0 C8 St.le A3 B9
set_option maxRecDepth 100000
def DB(f g:Nat→Int)(L:List Nat):Prop:=∀x∈L,∀y∈L,f x=f y→g x=g y
instance (f g:Nat→Int)(L:List Nat):Decidable (DB f g L):=by unfold DB;infer_instance
theorem QE(m:List (Key×AV))(k:Key)(v:AV)(k':Key):o7 (Y7 m k v) k'=if k=k' then some v else o7 m k':=by
 induction m with
 |nil=>unfold Y7 o7;by_cases e:k=k'<;>simp[e]
 |cons p r ih =>
  obtain⟨a,b⟩:=p
  unfold Y7
  by_cases e:a=k
  ·rw[if_pos e]
   subst e
   unfold o7
   by_cases e2:a=k'<;>simp[e2]
  ·rw[if_neg e]
   unfold o7 at ih ⊢
   by_cases e2:a=k'
   ·have:¬k=k':=fun h=>e (e2.trans h.symm)
    simp[e2,this]
   ·simp only[List.find?_cons,e2,decide_false]
    exact ih
theorem JQ{t:TypeDesc}{k:Key}{v:AV}(hk:Dp t k=true):∀{m:List (Key×AV)},s9 t m→s9 t (Y7 m k v)
 |[],_=>fun p hp=>by
  unfold Y7 at hp
  rw[List.mem_singleton]at hp
  rw[hp];exact hk
 |(a,b)::r,hm=>fun p hp=>by
  unfold Y7 at hp
  split at hp
  ·rename_i e
   rcases List.mem_cons.1 hp with rfl|hp
   ·exact hm (a,b) (by simp)
   ·exact hm p (by simp[hp])
  ·rcases List.mem_cons.1 hp with rfl|hp
   ·exact hm (a,b) (by simp)
   ·exact JQ hk (m:=r) (fun q hq=>hm q (by simp[hq])) p hp
def Bb(f g:Nat→Int)(l:List Nat):Nat→List (Key×AV)
 |0=>[]
 |k+1=>match l[k]? with
  |some x=>Y7 (Bb f g l k) (.i .i64 (f x)) (.i (g x))
  |none=>Bb f g l k
theorem Hf{f g:Nat→Int}{l:List Nat}{k x:Nat}(h:l[k]?=some x):Bb f g l (k+1)=Y7 (Bb f g l k) (.i .i64 (f x)) (.i (g x)):=by
 rw[Bb,h]
theorem Hg(f g:Nat→Int)(l:List Nat):∀k,s9 (.int .i64) (Bb f g l k)
 |0=>fun p hp=>by cases hp
 |k+1=>by
  unfold Bb
  cases l[k]? with
  |none=>exact Hg f g l k
  |some x=>exact JQ (by rfl) (Hg f g l k)
def Hh(f:Nat→Int)(l:List Nat)(k:Nat)(b:Int):Option Nat:=(l.take k).reverse.find? fun x=>decide (f x=b)
def Ec(f:Nat→Int)(l:List Nat)(k:Nat)(b:Int):Bool:=(Hh f l k b).isSome
def KR(f g:Nat→Int)(l:List Nat)(k:Nat)(b:Int):Int:=((Hh f l k b).map g).getD 0
theorem QF(f g:Nat→Int)(l:List Nat)(b:Int):∀k,o7 (Bb f g l k) (.i .i64 b)=(Hh f l k b).map fun x=>.i (g x)
 |0=>by simp[Bb,o7,Hh]
 |k+1=>by
  have ih:=QF f g l b k
  unfold Hh at ih ⊢
  cases h:l[k]? with
  |none =>
   rw[Bb,h,List.take_add_one,h]
   simpa using ih
  |some x =>
   rw[Hf h,H6 h,List.reverse_append,QE]
   simp only[List.reverse_cons,List.reverse_nil,List.nil_append,List.cons_append,List.find?_cons,Key.i.injEq,true_and]
   by_cases e:f x=b
   ·simp[e]
   ·simp only[e,if_false,decide_false]
    exact ih
theorem gE(f g:Nat→Int)(l:List Nat)(k:Nat)(b:Int):AV.tup [AD (Bb f g l k) (.i .i64 b) (b6 (.int .i64 0)),.b (o7 (Bb f g l k) (.i .i64 b)).isSome]=.tup [.i (KR f g l k b),.b (Ec f l k b)]:=by
 unfold AD KR Ec
 rw[QF]
 cases Hh f l k b<;>rfl
theorem gF{f:Nat→Int}{l:List Nat}{k:Nat}{b:Int}(h:Ec f l k b=false):∀x∈l.take k,f x≠b:=by
 intro x hx e
 unfold Ec Hh at h
 rw[Option.isSome_eq_false_iff,Option.isNone_iff_eq_none,List.find?_eq_none]at h
 exact h x (List.mem_reverse.2 hx) (by simp[e])
theorem Sz{f g:Nat→Int}{l:List Nat}{k:Nat}{b:Int}(h:Ec f l k b=true):∃x∈l.take k,f x=b∧KR f g l k b=g x:=by
 unfold Ec at h
 unfold KR
 obtain⟨x,hx⟩:=Option.isSome_iff_exists.1 h
 refine⟨x,?_,?_,by rw[hx];rfl⟩
 ·exact List.mem_reverse.1 (List.mem_of_find?_eq_some hx)
 ·simpa using List.find?_some hx
theorem DB.step{f g:Nat→Int}{l:List Nat}{k x:Nat}(h:DB f g (l.take k))(hx:l[k]?=some x)(hs:Ec f l k (f x)=true→KR f g l k (f x)=g x):DB f g (l.take (k+1)):=by
 have key:∀y∈l.take k,f y=f x→g y=g x:=by
  intro y hy e
  cases hb:Ec f l k (f x)with
  |false=>exact absurd e (gF hb y hy)
  |true =>
   obtain⟨z,hz,e1,e2⟩:=Sz (g:=g) hb
   rw[hs hb]at e2
   rw[e2]
   exact h y hy z hz (e.trans e1.symm)
 rw[H6 hx]
 intro a ha b hb e
 rcases List.mem_append.1 ha with h1|h1<;>rcases List.mem_append.1 hb with h2|h2
 ·exact h a h1 b h2 e
 ·rw[List.mem_singleton]at h2;rw[h2]at e ⊢;exact key a h1 e
 ·rw[List.mem_singleton]at h1;rw[h1]at e ⊢;exact(key b h2 e.symm).symm
 ·rw[List.mem_singleton]at h1 h2;rw[h1,h2]
theorem DB.not{f g:Nat→Int}{l:List Nat}{k x:Nat}(hx:l[k]?=some x)(hs:Ec f l k (f x)=true)(hv:KR f g l k (f x)≠g x):¬DB f g l:=by
 intro h
 obtain⟨z,hz,e1,e2⟩:=Sz (g:=g) hs
 rw[e2]at hv
 exact hv (h z (List.mem_of_mem_take hz) x (List.mem_of_getElem? hx) e1)
def GS(a:B1)(x:D4)(level:Int):Prop :=
 if level=0 then x.opt=false∧¬(x.low<a.lo∧a.lo≤x.high)∧¬(x.low≤a.hi∧a.hi<x.high)
 else ((x.low<a.lo∧a.lo≤x.high)→a.lo.tmod (A7 x level)=0)∧((x.low≤a.hi∧a.hi<x.high)→(a.hi+1).tmod (A7 x level)=0)
instance (a:B1)(x:D4)(level:Int):Decidable (GS a x level):=by unfold GS;infer_instance
def X6(s:A4)(a:B1)(level:Int):Bool :=
 if a.op=2 then decide (DB (fun x=>L2 (C2 s (C0 s a.col)).1 (C2 s (C0 s a.col)).2 x level) (fun x=>M1 s a x) (F9 s a.col))
 else if a.op=4 then decide (0<level)else decide (GS a (C0 s a.col) level)
theorem QG{s:A4}{a:B1}{level:Int}{x:D4}{lx:CL}(h2:a.op=2)(hx:s.cols[a.col.toNat]?=some x)(hl:s.lists[x.lst.toNat]?=some lx):X6 s a level=decide (DB (fun v=>L2 lx.1 lx.2 v level) (fun v=>M1 s a v) (K3 lx.1 lx.2 (C4 lx.1 lx.2-1))):=by
 unfold X6 F9
 rw[if_pos h2,C1 hx,H8 hl]
theorem Ln{s:A4}{a:B1}{level:Int}(h4:a.op=4):X6 s a level=decide (0<level):=by
 unfold X6
 rw[if_neg (by omega),if_pos h4]
theorem Lo{s:A4}{a:B1}{level:Int}{x:D4}(h3:a.op=3)(hx:s.cols[a.col.toNat]?=some x):X6 s a level=decide (GS a x level):=by
 unfold X6
 rw[if_neg (by omega),if_neg (by omega),C1 hx]
end Go.Proofs.YtiphlhoclaogjaaGreatDoor
