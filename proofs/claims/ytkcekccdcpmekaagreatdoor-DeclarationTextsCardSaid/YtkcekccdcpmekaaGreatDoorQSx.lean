/- Chapter 1: the reference's levels, ancestors, codes of a level. Chapter 1: the reference's ancestors, codes of a level, codes with a name. -/
import Derived.Test.YtkcekccdcpmekaaGreatDoorQB4
import Derived.Test.YtkcekccdcpmekaaGreatDoorQE3
import Derived.Test.YtkcekccdcpmekaaGreatDoorQB8
set_option linter.unusedVariables false
set_option linter.unnecessarySimpa false
set_option linter.unusedSimpArgs false
set_option maxHeartbeats 64000000
namespace Go.Proofs.YtkcekccdcpmekaaGreatDoor
open Go Go.Av
attribute [local irreducible] E8 B5 E5 DQ E7 E9 St.le A4 A9
theorem RN:∀(ps:List (Bool×Nat)) (l:Int),lv l ps=true→∀(i j:Nat) d e,ps[i]?=some (true,d)→ps[j]?=some (true,e)→d=e∧(0≤l→(d:Int)=l)
 |[],l,_,i,j,d,e,h,_=>by simp at h
 |(lf,x)::r,l,hl,i,j,d,e,hi,hj=>by
  unfold lv at hl
  cases lf with
  |false =>
   simp only[Bool.false_eq_true,if_false]at hl
   cases i with
   |zero=>simp at hi
   |succ i=>cases j with
    |zero=>simp at hj
    |succ j=>exact RN r l hl i j d e (by simpa using hi) (by simpa using hj)
  |true =>
   simp only[if_true]at hl
   split at hl
   ·cases hl
   ·rename_i hx
    have first:∀(k:Nat) y,((true,x)::r)[k]?=some (true,y)→(y:Int)=x:=by
     intro k y hk
     cases k with
     |zero=>simp at hk;omega
     |succ k =>
      have lW:r[k]?=some (true,y):=by simpa using hk
      exact(RN r x hl k k y y lW lW).2 (by omega)
    have h1:=first i d hi
    have h2:=first j e hj
    exact⟨by omega,fun h0=>by omega⟩
theorem eG{nm:List UInt8}{cs:List Code}(h:chk nm cs=0):lv (-1) (BV cs)=true:=by
 unfold chk at h
 split at h
 ·cases h
 ·split at h
  ·cases h
  ·split at h
   ·cases h
   ·cases hs:scan [] cs with
    |some e =>
     rw[hs]at h
     have:∀(cs pre:List Code) e,scan pre cs=some e→e=3∨e=10∨e=6:=by
      intro cs
      induction cs with
      |nil=>intro pre e h;cases h
      |cons a r ih =>
       intro pre e h
       simp only[scan]at h
       split at h
       ·cases h;exact .inl rfl
       ·split at h
        ·cases h;exact .inr (.inl rfl)
        ·split at h
         ·cases h;exact .inr (.inr rfl)
         ·exact ih _ _ h
     have:=this _ _ _ hs
     simp only at h
     omega
    |none =>
     rw[hs]at h
     simp only at h
     split at h
     ·assumption
     ·cases h
theorem Oj{cs:List Code}{c:Int}:z6 cs c=true↔∀x∈cs,x.parent≠c:=by
 simp[z6,List.all_eq_true]
theorem Xr{cs:List Code}(hg:Good cs)(hn:0<cs.length):z6 cs (cs.length-1:Nat)=true:=by
 rw[Oj]
 intro x hx
 obtain⟨i,hi,rfl⟩:=List.getElem_of_mem hx
 rcases Nat.eq_zero_or_pos i with e|e
 ·subst e
  have:=hg.root _ (List.getElem?_eq_getElem hi)
  omega
 ·have:=hg.before i _ (List.getElem?_eq_getElem hi) e
  omega
theorem JM:∀(ds:List Nat) (a:Nat),(∃d∈a::ds,ds.foldl max a=d)∧∀d∈a::ds,d≤ds.foldl max a
 |[],a=>⟨⟨a,by simp,rfl⟩,fun d hd=>by simp at hd;subst hd;exact Nat.le_refl _⟩
 |x::r,a=>by
  obtain⟨⟨d,hd,he⟩,lC⟩:=JM r (max a x)
  refine⟨⟨d,?_,he⟩,fun y hy=>?_⟩
  ·rcases List.mem_cons.1 hd with h|h
   ·rcases Nat.le_total a x with h2|h2
    ·rw[Nat.max_eq_right h2]at h;simp[h]
    ·rw[Nat.max_eq_left h2]at h;simp[h]
   ·simp[h]
  ·have h1:=lC (max a x) (by simp)
   rcases List.mem_cons.1 hy with h|h
   ·subst h;show _≤List.foldl max (max y x) r;omega
   ·rcases List.mem_cons.1 h with h|h
    ·subst h;show _≤List.foldl max (max a y) r;omega
    ·exact lC y (by simp[h])
theorem eH{ds:List Nat}{i d:Nat}(h:ds[i]?=some d):d≤DJ ds:=(JM ds 0).2 d (by simp[List.mem_of_getElem? h])
theorem eI{ds:List Nat}(h:0<ds.length):∃i:Nat,ds[i]?=some (DJ ds):=by
 obtain⟨⟨d,hd,he⟩,lC⟩:=JM ds 0
 have he:DJ ds=d:=he
 rw[he]
 rcases List.mem_cons.1 hd with h2|h2
 ·subst h2
  refine⟨0,?_⟩
  have:=lC ds[0] (by simp)
  have h3:ds.foldl max 0=0:=he
  rw[List.getElem?_eq_getElem h]
  congr 1;omega
 ·obtain⟨i,hi,hh⟩:=List.getElem_of_mem h2
  exact⟨i,by rw[List.getElem?_eq_getElem hi,hh]⟩
theorem Xs{cs:List Code}(hg:Good cs){i:Nat}(hi:i<cs.length)(hd:dep cs i=DJ (V4 cs)):z6 cs i=true:=by
 rw[Oj]
 intro x hx e
 obtain⟨k,hk,rfl⟩:=List.getElem_of_mem hx
 have nf:0<k:=by
  rcases Nat.eq_zero_or_pos k with e2|e2
  ·subst e2
   have:=hg.root _ (List.getElem?_eq_getElem hk)
   omega
  ·exact e2
 obtain⟨h1,h2,h3⟩:=de hg.before (List.getElem?_eq_getElem hk) nf
 have:par cs k=i:=by omega
 rw[this]at h1
 have:=eH (Mg hk)
 omega
theorem Xt{nm:List UInt8}{cs:List Code}(h:chk nm cs=0){i:Nat}(hi:i<cs.length)(hl:z6 cs i=true):dep cs i=DJ (V4 cs):=by
 obtain⟨hg,hn,_⟩:=AK h
 obtain⟨m,hm⟩:=eI (ds:=V4 cs) (by rw[M9];exact hn)
 have pD:m<cs.length:=by rw[←M9 cs];exact(List.getElem?_eq_some_iff.1 hm).1
 have wH:=UA hm
 have uA:=Xs hg pD wH
 have p1:=FY (Mg hi)
 have p2:=FY (Mg pD)
 rw[hl]at p1
 rw[uA]at p2
 rw[←wH]
 exact(RN _ _ (eG h) _ _ _ _ p1 p2).1
theorem aR{nm:List UInt8}{cs:List Code}(h:chk nm cs=0):dep cs (cs.length-1)=DJ (V4 cs):=by
 obtain⟨hg,hn,_⟩:=AK h
 exact Xt h (by omega) (Xr hg hn)
theorem RO(nm:List UInt8)(cs:List Code)(kf:cs.length≤9223372036854775807):A4 Tryz.prog 100 [lA nm cs] (.i (H3 nm cs)):=by
 refine D0 Tryz.func100 13 fun ki E h0=>?_
 repeat'((first|refine A0 (GV _ _ kf) ?_ |refine S2 ?_|(refine T6 ?_ ?_<;>intro h<;>try exact V1 h)|intro el ke kg|intro el ke|exact T4|refine T5 ?_ ?_|intro ex)<;>try conv=>whnf)
 ·exact A3 rfl (congrArg AV.i (by rw[H3,if_neg h]))
 have hc:chk nm cs=0:=by omega
 have xt:=Gt hc
 obtain⟨hg,hn,_⟩:=AK hc
 have hd:=LI hg.before
 have hl:=aR hc
 have e:((cs.length:Int)-1)=((cs.length-1:Nat):Int):=by omega
 repeat'((first|refine A0 (args:=[lA nm cs,.i ((cs.length:Int)-1)]) (by rw[e];exact Mf _ _ _ _ hg kf (Mg (j:=cs.length-1) (by omega))) ?_ |refine S2 ?_|(refine T6 ?_ ?_<;>intro h<;>try exact V1 h)|intro el ke kg|intro el ke|exact T4|refine T5 ?_ ?_|intro ex)<;>try conv=>whnf)
 exact A3 rfl (congrArg AV.i (by rw[H3,if_pos hc,hl]))
theorem UO(c:Code)(nm:List UInt8):Va c nm=decide (c.name=nm):=rfl
theorem Vx(nm:List UInt8)(cs:List Code)(n:List UInt8)(kf:cs.length≤9223372036854775807):A4 Tryz.prog 199 [lA nm cs,.str n] (.i (z8 nm cs n)):=by
 refine D0 Tryz.func199 25 fun ki E h0=>?_
 repeat'((first|refine A0 (GV _ _ kf) ?_ |refine S2 ?_|(refine T6 ?_ ?_<;>intro h<;>try exact V1 h)|intro el ke kg|intro el ke|exact T4|refine T5 ?_ ?_|intro ex)<;>try conv=>whnf)
 case refine_1=>exact A3 rfl (congrArg AV.i (by rw[z8,if_neg h]))
 have hc:chk nm cs=0:=by omega
 have xt:=Gt hc
 rw[z8,if_pos hc]
 refine D5 (ι:=Nat) (fun k=>⟨[(1,.str n),(2,.ref 0 0),(5,.i k)],1,[(0,some (.box [.str nm,.sl 2 (cs.map cA)]))]⟩) (fun k=>k≤cs.length∧Dv cs n 0=Dv (cs.drop k) n k) (fun k=>cs.length-k) 0 ⟨Nat.zero_le _,rfl⟩ (B2 h0) (fun k hI=>?_)
 obtain⟨hk,hI⟩:=hI
 repeat'((first|refine S2 ?_|(refine T6 ?_ ?_<;>intro h<;>try exact V1 h)|intro el ke kg|intro el ke|exact T4|refine T5 ?_ ?_|intro ex)<;>try conv=>whnf)
 all_goals first
  |exact A3 rfl (congrArg AV.i (by rw[hI,Z8 ke,Dv,if_pos (by rw[UO];exact decide_eq_true h)]))
  |exact⟨k+1,⟨by omega,by rw[hI,Z8 ke,Dv,if_neg (by rw[UO];simpa using h)];rfl⟩,by omega,B2 h0⟩
  |exact A3 rfl (congrArg AV.i (by rw[hI,show k=cs.length by omega,List.drop_length];rfl))
end Go.Proofs.YtkcekccdcpmekaaGreatDoor
namespace Go.Proofs.YtkcekccdcpmekaaGreatDoor
open Go Go.Av
attribute [local irreducible] E8 B5 E5 E1 DQ E7 E9 St.le A4 A9
set_option maxRecDepth 100000
def Nh(s:A5)(column:Int):List Nat:=Y0 (E2 s (C7 s column)).1 (E2 s (C7 s column)).2 (H3 (E2 s (C7 s column)).1 (E2 s (C7 s column)).2-1)
theorem eJ{s:A5}(hr:C8 s=0){column:Int}(h1:1≤column)(h2:column<s.cols.length):0≤U6 s column:=by
 have hc:s.cols[column.toNat]?=some s.cols[column.toNat]:=List.getElem?_eq_getElem (by omega)
 have nw:=Oi hr h1 hc
 rw[U6,if_neg (by omega),D4 hc]
 generalize s.cols[column.toNat]=c at nw
 unfold CH
 rcases nw with nw|nw
 ·rw[if_pos nw.1]
  have hl:s.lists[c.lst.toNat]?=some (s.lists[c.lst.toNat]'(by omega)):=List.getElem?_eq_getElem (by omega)
  have hk:=(Q5 hr).2.2.1 _ (List.mem_of_getElem? hl)
  rw[M8 hl,H3,if_pos hk]
  omega
 ·rw[if_neg (by omega)];omega
end Go.Proofs.YtkcekccdcpmekaaGreatDoor
