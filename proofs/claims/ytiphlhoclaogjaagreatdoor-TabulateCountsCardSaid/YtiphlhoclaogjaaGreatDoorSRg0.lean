/- Chapter 16: what is known of a right expression. -/
import Derived.Test.YtiphlhoclaogjaaGreatDoorSF1
import Derived.Test.YtiphlhoclaogjaaGreatDoorSB8
set_option linter.unusedVariables false
set_option linter.unnecessarySimpa false
set_option linter.unusedSimpArgs false
set_option maxHeartbeats 64000000
namespace Go.Proofs.YtiphlhoclaogjaaGreatDoor
open Go Go.Av
attribute [local irreducible] C7 B2 D3 C9 DQ D0 C8 St.le A3 B9
set_option maxRecDepth 100000
structure Jl(s:A4)(e:G8):Prop where
 op:1≤e.op∧e.op≤14
 unu:Ly e
 par:Jh s e=true
 cnd:Hw e.op→K7 s e.cnd=0
 evt:Hx e.op→K7 s e.evt=0
 pair:Cq e.op→e.kids.length=2
 kid:∀k∈e.kids,PD k.op∧CQ s k=true
theorem ap{s:A4}{e:G8}(h:CQ s e=true):Jl s e:=by
 rw[WU]at h
 simp only[Bool.and_eq_true,Bool.not_eq_true',YJ]at h
 obtain⟨⟨⟨⟨⟨⟨h1,h2⟩,h3⟩,h4⟩,h5⟩,h6⟩,h7⟩:=h
 refine⟨of_decide_eq_true h1,of_decide_eq_true h2,h3,fun hc=>?_,fun hc=>?_,fun hc=>?_,fun k hk=>?_⟩
 ·rw[decide_eq_false (fun hn=>hn hc),Bool.false_or]at h4;exact of_decide_eq_true h4
 ·rw[decide_eq_false (fun hn=>hn hc),Bool.false_or]at h5;exact of_decide_eq_true h5
 ·rw[decide_eq_false (fun hn=>hn hc),Bool.false_or]at h6;exact of_decide_eq_true h6
 ·have:=List.any_eq_false.1 h7 k hk
  simp only[Lz,Bool.or_eq_true,not_or,Bool.not_eq_true',Bool.not_eq_false]at this
  exact⟨of_decide_eq_true this.1,this.2⟩
theorem KY{s:A4}{col kind:Int}(h:j6 s col kind=true):0≤col∧col<s.cols.length∧∃c,s.cols[col.toNat]?=some c∧c.kind=kind:=by
 obtain⟨h0,h1,h2⟩:0≤col∧col<s.cols.length∧(C0 s col).kind=kind:=by simpa [j6]using h
 have hc:s.cols[col.toNat]?=some (s.cols[col.toNat]'(by omega)):=List.getElem?_eq_getElem (by omega)
 exact⟨h0,h1,_,hc,by rw[C1 hc]at h2;exact h2⟩
theorem Jl.col{s:A4}{e:G8}(h:Jl s e)(ho:Dx e.op):(e.op=10∧e.col=-1)∨j6 s e.col 3=true:=by
 have hp:=h.par
 have oU:=h.op
 simp only[Dx]at ho
 unfold Jh at hp
 rw[if_neg (by omega),if_neg (by omega)]at hp
 by_cases h4:e.op=4∨e.op=5∨e.op=14
 ·rw[if_pos h4]at hp;exact .inr hp
 rw[if_neg h4]at hp
 by_cases qv:e.op=10
 ·rw[if_pos qv]at hp
  simp only[Bool.and_eq_true,Bool.or_eq_true]at hp
  rcases hp.2 with h|h
  ·exact .inl ⟨qv,of_decide_eq_true h⟩
  ·exact .inr h
 rw[if_neg qv]at hp
 by_cases uS:e.op=11
 ·rw[if_pos uS]at hp
  simp only[Bool.and_eq_true]at hp
  exact .inr hp.1
 rw[if_neg uS]at hp
 by_cases h12:e.op=12
 ·rw[if_pos h12]at hp
  simp only[Bool.and_eq_true]at hp
  exact .inr hp.1
 rw[if_neg h12,if_pos (by omega)]at hp
 simp only[Bool.and_eq_true]at hp
 exact .inr hp.1
theorem Jl.lens{s:A4}{e:G8}(h:Jl s e):e.dims.length≤3∧e.cols.length≤3∧e.kids.length≤2:=by
 obtain⟨_,_,_,h4,h5,_,_,h8⟩:=h.unu
 have hp:=h.par
 unfold Jh at hp
 refine⟨?_,?_,?_⟩
 ·rcases h5 with h5|h5
  ·have qv:e.op=10:=h5
   rw[if_neg (by omega),if_neg (by omega),if_neg (by omega),if_pos qv]at hp
   simp only[Bool.and_eq_true]at hp
   have:=of_decide_eq_true hp.1
   unfold Q8 at this
   split at this
   ·cases this
   ·omega
  ·omega
 ·rcases h4 with h4|h4
  ·have uS:e.op=11:=h4
   rw[if_neg (by omega),if_neg (by omega),if_neg (by omega),if_neg (by omega),if_pos uS]at hp
   simp only[Bool.and_eq_true]at hp
   have:=of_decide_eq_true hp.2
   unfold Z7 at this
   split at this
   ·cases this
   ·omega
  ·omega
 ·rcases h8 with h8|h8
  ·have:=h.pair h8;omega
  ·omega
end Go.Proofs.YtiphlhoclaogjaaGreatDoor
