/- Chapter 16: what is known of a right expression. -/
import Derived.Test.YtjkbhaaobhgkdabGreatDoorRF1
import Derived.Test.YtjkbhaaobhgkdabGreatDoorRB8
set_option linter.unusedVariables false
set_option linter.unnecessarySimpa false
set_option linter.unusedSimpArgs false
set_option maxHeartbeats 64000000
namespace Go.Proofs.YtjkbhaaobhgkdabGreatDoor
open Go Go.Av
attribute [local irreducible] D0 B0 D2 C7 DQ D1 C8 St.le A3 B6
set_option maxRecDepth 100000
structure Dg(s:A4)(e:G0):Prop where
 op:1≤e.op∧e.op≤14
 unu:ML e
 par:Gd s e=true
 cnd:Hx e.op→J6 s e.cnd=0
 evt:Hy e.op→J6 s e.evt=0
 pair:Cg e.op→e.kids.length=2
 kid:∀k∈e.kids,PJ k.op∧AP s k=true
theorem Qm{s:A4}{e:G0}(h:AP s e=true):Dg s e:=by
 rw[Wt]at h
 simp only[Bool.and_eq_true,Bool.not_eq_true',Yn]at h
 obtain⟨⟨⟨⟨⟨⟨h1,h2⟩,h3⟩,h4⟩,h5⟩,h6⟩,h7⟩:=h
 refine⟨of_decide_eq_true h1,of_decide_eq_true h2,h3,fun hc=>?_,fun hc=>?_,fun hc=>?_,fun k hk=>?_⟩
 ·rw[decide_eq_false (fun hn=>hn hc),Bool.false_or]at h4;exact of_decide_eq_true h4
 ·rw[decide_eq_false (fun hn=>hn hc),Bool.false_or]at h5;exact of_decide_eq_true h5
 ·rw[decide_eq_false (fun hn=>hn hc),Bool.false_or]at h6;exact of_decide_eq_true h6
 ·have:=List.any_eq_false.1 h7 k hk
  simp only[MM,Bool.or_eq_true,not_or,Bool.not_eq_true',Bool.not_eq_false]at this
  exact⟨of_decide_eq_true this.1,this.2⟩
theorem CW{s:A4}{col kind:Int}(h:P1 s col kind=true):0≤col∧col<s.cols.length∧∃c,s.cols[col.toNat]?=some c∧c.kind=kind:=by
 obtain⟨h0,h1,h2⟩:0≤col∧col<s.cols.length∧(B4 s col).kind=kind:=by simpa [P1]using h
 have hc:s.cols[col.toNat]?=some (s.cols[col.toNat]'(by omega)):=List.getElem?_eq_getElem (by omega)
 exact⟨h0,h1,_,hc,by rw[B7 hc]at h2;exact h2⟩
theorem Dg.col{s:A4}{e:G0}(h:Dg s e)(ho:Bo e.op):(e.op=10∧e.col=-1)∨P1 s e.col 3=true:=by
 have hp:=h.par
 have pd:=h.op
 simp only[Bo]at ho
 unfold Gd at hp
 rw[if_neg (by omega),if_neg (by omega)]at hp
 by_cases h4:e.op=4∨e.op=5∨e.op=14
 ·rw[if_pos h4]at hp;exact .inr hp
 rw[if_neg h4]at hp
 by_cases ry:e.op=10
 ·rw[if_pos ry]at hp
  simp only[Bool.and_eq_true,Bool.or_eq_true]at hp
  rcases hp.2 with h|h
  ·exact .inl ⟨ry,of_decide_eq_true h⟩
  ·exact .inr h
 rw[if_neg ry]at hp
 by_cases um:e.op=11
 ·rw[if_pos um]at hp
  simp only[Bool.and_eq_true]at hp
  exact .inr hp.1
 rw[if_neg um]at hp
 by_cases h12:e.op=12
 ·rw[if_pos h12]at hp
  simp only[Bool.and_eq_true]at hp
  exact .inr hp.1
 rw[if_neg h12,if_pos (by omega)]at hp
 simp only[Bool.and_eq_true]at hp
 exact .inr hp.1
theorem Dg.lens{s:A4}{e:G0}(h:Dg s e):e.dims.length≤3∧e.cols.length≤3∧e.kids.length≤2:=by
 obtain⟨_,_,_,h4,h5,_,_,h8⟩:=h.unu
 have hp:=h.par
 unfold Gd at hp
 refine⟨?_,?_,?_⟩
 ·rcases h5 with h5|h5
  ·have ry:e.op=10:=h5
   rw[if_neg (by omega),if_neg (by omega),if_neg (by omega),if_pos ry]at hp
   simp only[Bool.and_eq_true]at hp
   have:=of_decide_eq_true hp.1
   unfold L0 at this
   split at this
   ·cases this
   ·omega
  ·omega
 ·rcases h4 with h4|h4
  ·have um:e.op=11:=h4
   rw[if_neg (by omega),if_neg (by omega),if_neg (by omega),if_neg (by omega),if_pos um]at hp
   simp only[Bool.and_eq_true]at hp
   have:=of_decide_eq_true hp.2
   unfold W2 at this
   split at this
   ·cases this
   ·omega
  ·omega
 ·rcases h8 with h8|h8
  ·have:=h.pair h8;omega
  ·omega
theorem Dg.trm{s:A4}{e:G0}(h:Dg s e):∀c∈e.cols,P1 s c 3=true:=by
 intro c hc
 have ox:=h.par
 have h4:=h.unu.2.2.2.1
 unfold Gd at ox
 have um:e.op=11:=by
  rcases h4 with h|h
  ·exact h
  ·rw[List.eq_nil_of_length_eq_zero h]at hc;cases hc
 rw[if_neg (by omega),if_neg (by omega),if_neg (by omega),if_neg (by omega),if_pos um]at ox
 simp only[Bool.and_eq_true]at ox
 have pg:=of_decide_eq_true ox.2
 unfold W2 at pg
 split at pg
 ·cases pg
 ·obtain⟨i,hi,he⟩:=List.getElem_of_mem hc
  have:=N5 pg i c (by rw[List.getElem?_eq_getElem hi,he])
  unfold V7 at this
  split at this
  ·cases this
  ·rename_i hb;simpa using hb
theorem Dg.dim{s:A4}{e:G0}(h:Dg s e):∀d∈e.dims,I4 s d=0:=by
 intro d hd
 have ox:=h.par
 have h5:=h.unu.2.2.2.2.1
 unfold Gd at ox
 have ry:e.op=10:=by
  rcases h5 with h|h
  ·exact h
  ·rw[List.eq_nil_of_length_eq_zero h]at hd;cases hd
 rw[if_neg (by omega),if_neg (by omega),if_neg (by omega),if_pos ry]at ox
 simp only[Bool.and_eq_true]at ox
 have pg:=of_decide_eq_true ox.1
 unfold L0 at pg
 split at pg
 ·cases pg
 ·obtain⟨i,hi,he⟩:=List.getElem_of_mem hd
  have:=N5 pg i d (by rw[List.getElem?_eq_getElem hi,he])
  unfold P9 at this
  split at this
  ·exact absurd this (by assumption)
  ·rename_i qE;exact Decidable.of_not_not qE
end Go.Proofs.YtjkbhaaobhgkdabGreatDoor
