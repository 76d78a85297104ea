/- Chapter 5: at which level a condition about one column is told. -/
import Derived.Test.YtiphlhoclaogjaaGreatDoorRSx
set_option linter.unusedVariables false
set_option linter.unnecessarySimpa false
set_option linter.unusedSimpArgs false
set_option maxHeartbeats 64000000
namespace Go.Proofs.YtiphlhoclaogjaaGreatDoor
open Go Go.Av
attribute [local irreducible] C9 B3 C7 D1 DQ D0 C6 St.le A3 B7
set_option maxRecDepth 100000
def Ck(f g:Nat→Int)(L:List Nat):Prop:=∀x∈L,∀y∈L,f x=f y→g x=g y
instance (f g:Nat→Int)(L:List Nat):Decidable (Ck f g L):=by unfold Ck;infer_instance
theorem Py(m:List (Key×AV))(k:Key)(v:AV)(k':Key):o8 (d0 m k v) k'=if k=k' then some v else o8 m k':=by
 induction m with
 |nil=>unfold d0 o8;by_cases e:k=k'<;>simp[e]
 |cons p r ih =>
  obtain⟨a,b⟩:=p
  unfold d0
  by_cases e:a=k
  ·rw[if_pos e]
   subst e
   unfold o8
   by_cases e2:a=k'<;>simp[e2]
  ·rw[if_neg e]
   unfold o8 at ih ⊢
   by_cases e2:a=k'
   ·have:¬k=k':=fun h=>e (e2.trans h.symm)
    simp[e2,this]
   ·simp only[List.find?_cons,e2,decide_false]
    exact ih
theorem JF{t:TypeDesc}{k:Key}{v:AV}(hk:DY t k=true):∀{m:List (Key×AV)},t4 t m→t4 t (d0 m k v)
 |[],_=>fun p hp=>by
  unfold d0 at hp
  rw[List.mem_singleton]at hp
  rw[hp];exact hk
 |(a,b)::r,hm=>fun p hp=>by
  unfold d0 at hp
  split at hp
  ·rename_i e
   rcases List.mem_cons.1 hp with rfl|hp
   ·exact hm (a,b) (by simp)
   ·exact hm p (by simp[hp])
  ·rcases List.mem_cons.1 hp with rfl|hp
   ·exact hm (a,b) (by simp)
   ·exact JF hk (m:=r) (fun q hq=>hm q (by simp[hq])) p hp
def BG(f g:Nat→Int)(l:List Nat):Nat→List (Key×AV)
 |0=>[]
 |k+1=>match l[k]? with
  |some x=>d0 (BG f g l k) (.i .i64 (f x)) (.i (g x))
  |none=>BG f g l k
theorem Ha{f g:Nat→Int}{l:List Nat}{k x:Nat}(h:l[k]?=some x):BG f g l (k+1)=d0 (BG f g l k) (.i .i64 (f x)) (.i (g x)):=by
 rw[BG,h]
theorem Hb(f g:Nat→Int)(l:List Nat):∀k,t4 (.int .i64) (BG f g l k)
 |0=>fun p hp=>by cases hp
 |k+1=>by
  unfold BG
  cases l[k]? with
  |none=>exact Hb f g l k
  |some x=>exact JF (by rfl) (Hb f g l k)
def Hc(f:Nat→Int)(l:List Nat)(k:Nat)(b:Int):Option Nat:=(l.take k).reverse.find? fun x=>decide (f x=b)
def EV(f:Nat→Int)(l:List Nat)(k:Nat)(b:Int):Bool:=(Hc f l k b).isSome
def KF(f g:Nat→Int)(l:List Nat)(k:Nat)(b:Int):Int:=((Hc f l k b).map g).getD 0
theorem Pz(f g:Nat→Int)(l:List Nat)(b:Int):∀k,o8 (BG f g l k) (.i .i64 b)=(Hc f l k b).map fun x=>.i (g x)
 |0=>by simp[BG,o8,Hc]
 |k+1=>by
  have ih:=Pz f g l b k
  unfold Hc at ih ⊢
  cases h:l[k]? with
  |none =>
   rw[BG,h,List.take_add_one,h]
   simpa using ih
  |some x =>
   rw[Ha h,E7 h,List.reverse_append,Py]
   simp only[List.reverse_cons,List.reverse_nil,List.nil_append,List.cons_append,List.find?_cons,Key.i.injEq,true_and]
   by_cases e:f x=b
   ·simp[e]
   ·simp only[e,if_false,decide_false]
    exact ih
theorem gS(f g:Nat→Int)(l:List Nat)(k:Nat)(b:Int):AV.tup [w9 (BG f g l k) (.i .i64 b) (g8 (.int .i64 0)),.b (o8 (BG f g l k) (.i .i64 b)).isSome]=.tup [.i (KF f g l k b),.b (EV f l k b)]:=by
 unfold w9 KF EV
 rw[Pz]
 cases Hc f l k b<;>rfl
theorem gT{f:Nat→Int}{l:List Nat}{k:Nat}{b:Int}(h:EV f l k b=false):∀x∈l.take k,f x≠b:=by
 intro x hx e
 unfold EV Hc at h
 rw[Option.isSome_eq_false_iff,Option.isNone_iff_eq_none,List.find?_eq_none]at h
 exact h x (List.mem_reverse.2 hx) (by simp[e])
theorem Sv{f g:Nat→Int}{l:List Nat}{k:Nat}{b:Int}(h:EV f l k b=true):∃x∈l.take k,f x=b∧KF f g l k b=g x:=by
 unfold EV at h
 unfold KF
 obtain⟨x,hx⟩:=Option.isSome_iff_exists.1 h
 refine⟨x,?_,?_,by rw[hx];rfl⟩
 ·exact List.mem_reverse.1 (List.mem_of_find?_eq_some hx)
 ·simpa using List.find?_some hx
theorem Ck.step{f g:Nat→Int}{l:List Nat}{k x:Nat}(h:Ck f g (l.take k))(hx:l[k]?=some x)(hs:EV f l k (f x)=true→KF f g l k (f x)=g x):Ck f g (l.take (k+1)):=by
 have key:∀y∈l.take k,f y=f x→g y=g x:=by
  intro y hy e
  cases hb:EV f l k (f x)with
  |false=>exact absurd e (gT hb y hy)
  |true =>
   obtain⟨z,hz,e1,e2⟩:=Sv (g:=g) hb
   rw[hs hb]at e2
   rw[e2]
   exact h y hy z hz (e.trans e1.symm)
 rw[E7 hx]
 intro a ha b hb e
 rcases List.mem_append.1 ha with h1|h1<;>rcases List.mem_append.1 hb with h2|h2
 ·exact h a h1 b h2 e
 ·rw[List.mem_singleton]at h2;rw[h2]at e ⊢;exact key a h1 e
 ·rw[List.mem_singleton]at h1;rw[h1]at e ⊢;exact(key b h2 e.symm).symm
 ·rw[List.mem_singleton]at h1 h2;rw[h1,h2]
theorem Ck.not{f g:Nat→Int}{l:List Nat}{k x:Nat}(hx:l[k]?=some x)(hs:EV f l k (f x)=true)(hv:KF f g l k (f x)≠g x):¬Ck f g l:=by
 intro h
 obtain⟨z,hz,e1,e2⟩:=Sv (g:=g) hs
 rw[e2]at hv
 exact hv (h z (List.mem_of_mem_take hz) x (List.mem_of_getElem? hx) e1)
def GI(a:B6)(x:D4)(level:Int):Prop :=
 if level=0 then x.opt=false∧¬(x.low<a.lo∧a.lo≤x.high)∧¬(x.low≤a.hi∧a.hi<x.high)
 else ((x.low<a.lo∧a.lo≤x.high)→a.lo.tmod (B1 x level)=0)∧((x.low≤a.hi∧a.hi<x.high)→(a.hi+1).tmod (B1 x level)=0)
instance (a:B6)(x:D4)(level:Int):Decidable (GI a x level):=by unfold GI;infer_instance
def a7(s:A4)(a:B6)(level:Int):Bool :=
 if a.op=2 then decide (Ck (fun x=>L1 (C2 s (B8 s a.col)).1 (C2 s (B8 s a.col)).2 x level) (fun x=>M2 s a x) (F9 s a.col))
 else if a.op=4 then decide (0<level)else decide (GI a (B8 s a.col) level)
theorem QA{s:A4}{a:B6}{level:Int}{x:D4}{lx:CL}(h2:a.op=2)(hx:s.cols[a.col.toNat]?=some x)(hl:s.lists[x.lst.toNat]?=some lx):a7 s a level=decide (Ck (fun v=>L1 lx.1 lx.2 v level) (fun v=>M2 s a v) (H1 lx.1 lx.2 (C5 lx.1 lx.2-1))):=by
 unfold a7 F9
 rw[if_pos h2,C1 hx,H6 hl]
theorem Le{s:A4}{a:B6}{level:Int}(h4:a.op=4):a7 s a level=decide (0<level):=by
 unfold a7
 rw[if_neg (by omega),if_pos h4]
theorem Lf{s:A4}{a:B6}{level:Int}{x:D4}(h3:a.op=3)(hx:s.cols[a.col.toNat]?=some x):a7 s a level=decide (GI a x level):=by
 unfold a7
 rw[if_neg (by omega),if_neg (by omega),C1 hx]
end Go.Proofs.YtiphlhoclaogjaaGreatDoor
