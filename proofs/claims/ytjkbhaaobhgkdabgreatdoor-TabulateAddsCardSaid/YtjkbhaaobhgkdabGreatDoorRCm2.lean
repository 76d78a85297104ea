/- Chapter 5: at which level a condition about one column is told. -/
import Derived.Test.YtjkbhaaobhgkdabGreatDoorRSx
set_option linter.unusedVariables false
set_option linter.unnecessarySimpa false
set_option linter.unusedSimpArgs false
set_option maxHeartbeats 64000000
namespace Go.Proofs.YtjkbhaaobhgkdabGreatDoor
open Go Go.Av
attribute [local irreducible] D0 B0 D2 C7 DQ D1 C8 St.le A3 B6
set_option maxRecDepth 100000
def Ct(f g:Nat→Int)(L:List Nat):Prop:=∀x∈L,∀y∈L,f x=f y→g x=g y
instance (f g:Nat→Int)(L:List Nat):Decidable (Ct f g L):=by unfold Ct;infer_instance
theorem QN(m:List (Key×AV))(k:Key)(v:AV)(k':Key):n8 (X9 m k v) k'=if k=k' then some v else n8 m k':=by
 induction m with
 |nil=>unfold X9 n8;by_cases e:k=k'<;>simp[e]
 |cons p r ih =>
  obtain⟨a,b⟩:=p
  unfold X9
  by_cases e:a=k
  ·rw[if_pos e]
   subst e
   unfold n8
   by_cases e2:a=k'<;>simp[e2]
  ·rw[if_neg e]
   unfold n8 at ih ⊢
   by_cases e2:a=k'
   ·have:¬k=k':=fun h=>e (e2.trans h.symm)
    simp[e2,this]
   ·simp only[List.find?_cons,e2,decide_false]
    exact ih
theorem JV{t:TypeDesc}{k:Key}{v:AV}(hk:Dm t k=true):∀{m:List (Key×AV)},q8 t m→q8 t (X9 m k v)
 |[],_=>fun p hp=>by
  unfold X9 at hp
  rw[List.mem_singleton]at hp
  rw[hp];exact hk
 |(a,b)::r,hm=>fun p hp=>by
  unfold X9 at hp
  split at hp
  ·rename_i e
   rcases List.mem_cons.1 hp with rfl|hp
   ·exact hm (a,b) (by simp)
   ·exact hm p (by simp[hp])
  ·rcases List.mem_cons.1 hp with rfl|hp
   ·exact hm (a,b) (by simp)
   ·exact JV hk (m:=r) (fun q hq=>hm q (by simp[hq])) p hp
def BI(f g:Nat→Int)(l:List Nat):Nat→List (Key×AV)
 |0=>[]
 |k+1=>match l[k]? with
  |some x=>X9 (BI f g l k) (.i .i64 (f x)) (.i (g x))
  |none=>BI f g l k
theorem Hi{f g:Nat→Int}{l:List Nat}{k x:Nat}(h:l[k]?=some x):BI f g l (k+1)=X9 (BI f g l k) (.i .i64 (f x)) (.i (g x)):=by
 rw[BI,h]
theorem Hj(f g:Nat→Int)(l:List Nat):∀k,q8 (.int .i64) (BI f g l k)
 |0=>fun p hp=>by cases hp
 |k+1=>by
  unfold BI
  cases l[k]? with
  |none=>exact Hj f g l k
  |some x=>exact JV (by rfl) (Hj f g l k)
def Hk(f:Nat→Int)(l:List Nat)(k:Nat)(b:Int):Option Nat:=(l.take k).reverse.find? fun x=>decide (f x=b)
def El(f:Nat→Int)(l:List Nat)(k:Nat)(b:Int):Bool:=(Hk f l k b).isSome
def Ke(f g:Nat→Int)(l:List Nat)(k:Nat)(b:Int):Int:=((Hk f l k b).map g).getD 0
theorem QO(f g:Nat→Int)(l:List Nat)(b:Int):∀k,n8 (BI f g l k) (.i .i64 b)=(Hk f l k b).map fun x=>.i (g x)
 |0=>by simp[BI,n8,Hk]
 |k+1=>by
  have ih:=QO f g l b k
  unfold Hk at ih ⊢
  cases h:l[k]? with
  |none =>
   rw[BI,h,List.take_add_one,h]
   simpa using ih
  |some x =>
   rw[Hi h,I3 h,List.reverse_append,QN]
   simp only[List.reverse_cons,List.reverse_nil,List.nil_append,List.cons_append,List.find?_cons,Key.i.injEq,true_and]
   by_cases e:f x=b
   ·simp[e]
   ·simp only[e,if_false,decide_false]
    exact ih
theorem iO(f g:Nat→Int)(l:List Nat)(k:Nat)(b:Int):AV.tup [x5 (BI f g l k) (.i .i64 b) (Z6 (.int .i64 0)),.b (n8 (BI f g l k) (.i .i64 b)).isSome]=.tup [.i (Ke f g l k b),.b (El f l k b)]:=by
 unfold x5 Ke El
 rw[QO]
 cases Hk f l k b<;>rfl
theorem iP{f:Nat→Int}{l:List Nat}{k:Nat}{b:Int}(h:El f l k b=false):∀x∈l.take k,f x≠b:=by
 intro x hx e
 unfold El Hk at h
 rw[Option.isSome_eq_false_iff,Option.isNone_iff_eq_none,List.find?_eq_none]at h
 exact h x (List.mem_reverse.2 hx) (by simp[e])
theorem TM{f g:Nat→Int}{l:List Nat}{k:Nat}{b:Int}(h:El f l k b=true):∃x∈l.take k,f x=b∧Ke f g l k b=g x:=by
 unfold El at h
 unfold Ke
 obtain⟨x,hx⟩:=Option.isSome_iff_exists.1 h
 refine⟨x,?_,?_,by rw[hx];rfl⟩
 ·exact List.mem_reverse.1 (List.mem_of_find?_eq_some hx)
 ·simpa using List.find?_some hx
theorem Ct.step{f g:Nat→Int}{l:List Nat}{k x:Nat}(h:Ct f g (l.take k))(hx:l[k]?=some x)(hs:El f l k (f x)=true→Ke f g l k (f x)=g x):Ct f g (l.take (k+1)):=by
 have key:∀y∈l.take k,f y=f x→g y=g x:=by
  intro y hy e
  cases hb:El f l k (f x)with
  |false=>exact absurd e (iP hb y hy)
  |true =>
   obtain⟨z,hz,e1,e2⟩:=TM (g:=g) hb
   rw[hs hb]at e2
   rw[e2]
   exact h y hy z hz (e.trans e1.symm)
 rw[I3 hx]
 intro a ha b hb e
 rcases List.mem_append.1 ha with h1|h1<;>rcases List.mem_append.1 hb with h2|h2
 ·exact h a h1 b h2 e
 ·rw[List.mem_singleton]at h2;rw[h2]at e ⊢;exact key a h1 e
 ·rw[List.mem_singleton]at h1;rw[h1]at e ⊢;exact(key b h2 e.symm).symm
 ·rw[List.mem_singleton]at h1 h2;rw[h1,h2]
theorem Ct.not{f g:Nat→Int}{l:List Nat}{k x:Nat}(hx:l[k]?=some x)(hs:El f l k (f x)=true)(hv:Ke f g l k (f x)≠g x):¬Ct f g l:=by
 intro h
 obtain⟨z,hz,e1,e2⟩:=TM (g:=g) hs
 rw[e2]at hv
 exact hv (h z (List.mem_of_mem_take hz) x (List.mem_of_getElem? hx) e1)
def GY(a:B1)(x:D4)(level:Int):Prop :=
 if level=0 then x.opt=false∧¬(x.low<a.lo∧a.lo≤x.high)∧¬(x.low≤a.hi∧a.hi<x.high)
 else ((x.low<a.lo∧a.lo≤x.high)→a.lo.tmod (A9 x level)=0)∧((x.low≤a.hi∧a.hi<x.high)→(a.hi+1).tmod (A9 x level)=0)
instance (a:B1)(x:D4)(level:Int):Decidable (GY a x level):=by unfold GY;infer_instance
def X4(s:A4)(a:B1)(level:Int):Bool :=
 if a.op=2 then decide (Ct (fun x=>M6 (C1 s (B4 s a.col)).1 (C1 s (B4 s a.col)).2 x level) (fun x=>R3 s a x) (J3 s a.col))
 else if a.op=4 then decide (0<level)else decide (GY a (B4 s a.col) level)
theorem QP{s:A4}{a:B1}{level:Int}{x:D4}{lx:CL}(h2:a.op=2)(hx:s.cols[a.col.toNat]?=some x)(hl:s.lists[x.lst.toNat]?=some lx):X4 s a level=decide (Ct (fun v=>M6 lx.1 lx.2 v level) (fun v=>R3 s a v) (H6 lx.1 lx.2 (C3 lx.1 lx.2-1))):=by
 unfold X4 J3
 rw[if_pos h2,B7 hx,I7 hl]
theorem MA{s:A4}{a:B1}{level:Int}(h4:a.op=4):X4 s a level=decide (0<level):=by
 unfold X4
 rw[if_neg (by omega),if_pos h4]
theorem MC{s:A4}{a:B1}{level:Int}{x:D4}(h3:a.op=3)(hx:s.cols[a.col.toNat]?=some x):X4 s a level=decide (GY a x level):=by
 unfold X4
 rw[if_neg (by omega),if_neg (by omega),B7 hx]
end Go.Proofs.YtjkbhaaobhgkdabGreatDoor
