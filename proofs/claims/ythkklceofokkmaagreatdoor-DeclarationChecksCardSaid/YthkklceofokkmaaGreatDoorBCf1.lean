/- Chapter 8: the text of a right declaration is read as it; lines. -/
import Derived.Test.YthkklceofokkmaaGreatDoorBQw5
import Derived.Test.YthkklceofokkmaaGreatDoorBQd0
import Derived.Test.YthkklceofokkmaaGreatDoorBXs
import Derived.Test.YthkklceofokkmaaGreatDoorBCm1
import Derived.Test.YthkklceofokkmaaGreatDoorBC1
import Derived.Test.YthkklceofokkmaaGreatDoorBB9
import Derived.Test.YthkklceofokkmaaGreatDoorBD2
set_option linter.unusedVariables false
set_option linter.unnecessarySimpa false
set_option linter.unusedSimpArgs false
namespace Go.Proofs.YthkklceofokkmaaGreatDoor
open Go Go.Av
attribute [local irreducible] E5 B7 E6 E7 DQ E8 F0 St.le B3 B5
set_option maxRecDepth 100000
theorem CY:DZ 10:=by unfold DZ;simp
theorem bd {s:B2} {q:D3} (h:Dq s q):Jq s q:=by
 obtain ⟨n1,n2⟩:=Gv h.name
 refine ⟨n1,n2,h.flt,?_⟩
 rcases h.kind with ⟨k,⟨a1,a2,a3⟩,b,c,d⟩ | ⟨k,b,⟨a1,a2,a3⟩,c,d⟩ | ⟨k,b,a,c,d⟩
 ·exact .inl ⟨k,⟨a1,a2,fun x hx=>bV (a3 x hx)⟩,b,c,Vo d⟩
 ·exact .inr (.inl ⟨k,b,⟨a1,a2,a3⟩,c,Vo d⟩)
 ·exact .inr (.inr ⟨k,b,a,c,d⟩)
theorem bf {s:B2} {d:F4} (h:AM s d):Yt s d :=
 ⟨Gv h.prj,Gv h.src,h.coh,Et (by have:=h.num;omega) (by have:=h.num;omega),Et (by have:=h.num;omega) (by have:=h.num;omega),Et (by have:=h.num;omega) (by have:=h.num;omega)⟩
theorem IK {s:B2} (hr:C8 s = 0) {q:D3} (h:C9 q.name = true):(K3 s q).all (B6 10) = true:=by
 have hd:∀ l:List Pk,(l.flatMap (d7 s)).all (B6 10) = true:=fun l=>by
  rw [List.all_flatMap,List.all_eq_true]
  intro d _
  unfold d7
  simp only [List.all_append,LR CY hr,Ij CY];rfl
 have ht:∀ l:List Int,(l.flatMap (p0 s)).all (B6 10) = true:=fun l=>by
  rw [List.all_flatMap,List.all_eq_true]
  intro d _
  unfold p0
  simp only [List.all_append,LR CY hr];rfl
 have hh:(Fj s q).all (B6 10) = true:=by
  unfold Fj
  split
  ·split <;> simp only [List.all_append,hd,Bl CY h,LR CY hr] <;> rfl
  ·split <;> simp only [List.all_append,ht,Bl CY h,LR CY hr,Ik CY hr] <;> rfl
 unfold K3
 rw [List.all_append,List.all_append,hh,Ik CY hr];rfl
theorem QZ {s:B2} {d:F4} (h:AM s d):∀ q ∈ d.qs,Dq s q:=fun q hq=>by
 obtain ⟨i,hi⟩:=List.mem_iff_getElem?.1 hq
 exact (Ih (h.qs i q hi).1).2
theorem NV {s:B2} {d:F4} (h:AM s d):∀ q ∈ d.qs,Jq s q ∧ (K3 s q).all (B6 10) = true:=fun q hq =>
 ⟨bd (QZ h q hq),IK h.sch (QZ h q hq).name⟩
theorem SS (s:B2):∀ l:List D3,l.length ≤ (G5 s l).length
 | []=>Nat.le_refl _
 | q :: l=>by
   have:=SS s l
   rw [Bc,List.length_append,List.length_cons,List.length_cons];omega
theorem bg {s:B2} {d:F4} (h:AM s d) (l:List D3) (hl:∀ q ∈ l,q ∈ d.qs) (k:Nat) (w:List UInt8):Y6 s (k + l.length + 4) zD 1 (N6 s d ++ T4 d ++ (G5 s l ++ w)) = Y6 s k ⟨d.prj,d.src,d.coh,d.part,d.of,d.seed,l⟩ (5 + l.length) w:=by
 rw [bb h.sch (bf h) (Bl CY h.prj) (Bl CY h.src),WE h.sch w l k _ 5 (Nat.le_refl _) fun q hq=>NV h q (hl q hq)]
 rfl
theorem MS {s:B2} {d:F4} (h:AM s d) (l:List D3) (hl:∀ q ∈ l,q ∈ d.qs) (w:List UInt8) (ht:(N6 s d ++ T4 d ++ (G5 s l ++ w)).length ≤ 20000):∃ k,l8 s (N6 s d ++ T4 d ++ (G5 s l ++ w)) = Y6 s (k + 1) ⟨d.prj,d.src,d.coh,d.part,d.of,d.seed,l⟩ (5 + l.length) w:=by
 have h1:=SS s l
 have h2:(N6 s d ++ T4 d ++ (G5 s l ++ w)).length = (N6 s d).length + (T4 d).length + ((G5 s l).length + w.length):=by simp only [List.length_append]
 have h3:4 ≤ (N6 s d).length:=by unfold N6;simp only [List.length_append,List.length_cons,List.length_nil];omega
 refine ⟨(N6 s d ++ T4 d ++ (G5 s l ++ w)).length - l.length - 4,?_⟩
 unfold l8
 rw [if_neg (by rw [h.sch];simp),if_neg (by omega),show (N6 s d ++ T4 d ++ (G5 s l ++ w)).length + 1 = ((N6 s d ++ T4 d ++ (G5 s l ++ w)).length - l.length - 4 + 1) + l.length + 4 by omega]
 exact bg h l hl _ w
theorem ZD {s:B2} {d:F4} (h:AM s d) (hl:(N7 s d).length ≤ 20000):l8 s (N7 s d) = (d,0,0):=by
 have e:N7 s d = N6 s d ++ T4 d ++ (G5 s d.qs ++ []):=by unfold N7;rw [List.append_nil]
 rw [e] at hl ⊢
 obtain ⟨k,hk⟩:=MS h d.qs (fun _ hq=>hq) [] hl
 rw [hk,Y6,if_pos rfl,if_neg (by omega)]
 have:=(BU s d).2 h
 rw [if_pos this]
theorem ZE {s:B2} {t:List UInt8} {d:F4} {n:Int} (h:l8 s t = (d,n,0)):Hr s d = (t,0):=by
 obtain ⟨_,h1,h2,_,_,h5⟩:=ZC h
 unfold Hr
 rw [if_pos h2, ← h5,if_neg (by omega)]
theorem ZF {s:B2} {d:F4} (h:AM s d) (hl:(N7 s d).length ≤ 20000):l8 s ((N7 s d).take ((N7 s d).length - 1)) = (zD,4 + (d.qs.length:Int),11):=by
 obtain ⟨l,q,hlq⟩:∃ l q,d.qs = l ++ [q]:=by
  rcases List.eq_nil_or_concat d.qs with g | ⟨l,q,g⟩
  ·have:=h.len.1;rw [g] at this;cases this
  ·exact ⟨l,q,by rw [g,List.concat_eq_append]⟩
 have e:(N7 s d).take ((N7 s d).length - 1) = N6 s d ++ T4 d ++ (G5 s l ++ K3 s q):=by
  have e0:N7 s d = N6 s d ++ T4 d ++ (G5 s l ++ K3 s q) ++ [10]:=by
   unfold N7
   rw [hlq,Io,Bc]
   unfold G5
   simp only [List.append_assoc,List.flatMap_nil]
  rw [e0,List.length_append,List.length_singleton,Nat.add_sub_cancel,List.take_left]
 have hq:q ∈ d.qs:=by rw [hlq];simp
 have hl2:(N6 s d ++ T4 d ++ (G5 s l ++ K3 s q)).length ≤ 20000:=by rw [← e,List.length_take];omega
 rw [e]
 obtain ⟨k,hk⟩:=MS h l (fun x hx=>by rw [hlq];simp [hx]) (K3 s q) hl2
 have h10:=(NV h q hq).2
 have hne:K3 s q ≠ []:=by
  unfold K3
  simp
 rw [hk,Y6,if_neg hne,if_pos (.inl (SK h10).2),hlq,List.length_append,List.length_singleton]
 refine Prod.ext rfl (Prod.ext ?_ rfl)
 show ((5 + l.length:Nat):Int) = 4 + ((l.length + 1:Nat):Int)
 omega
theorem WG {s:B2} {d:F4} (h:AM s d) {l:List D3} {q:D3} (hlq:d.qs = l ++ [q]) (hl:(N7 s d).length ≤ 20000):l8 s (N6 s d ++ T4 d ++ G5 s l) = if l = [] then (zD,0,1) else (⟨d.prj,d.src,d.coh,d.part,d.of,d.seed,l⟩,0,0):=by
 have hle:(N6 s d ++ T4 d ++ (G5 s l ++ [])).length ≤ 20000:=by
  unfold N7 at hl
  rw [hlq,Io] at hl
  simp only [List.length_append,List.length_nil] at hl ⊢
  omega
 obtain ⟨k,hk⟩:=MS h l (fun x hx=>by rw [hlq];simp [hx]) [] hle
 rw [List.append_nil] at hk
 rw [hk,Y6,if_pos rfl,if_neg (by omega)]
 by_cases g:l = []
 ·subst g
  have e:U8 s ⟨d.prj,d.src,d.coh,d.part,d.of,d.seed,[]⟩ = 1:=by
   have h1:=h.sch
   have h2:=h.coh
   have h3:=h.num
   unfold U8
   rw [if_neg (by omega),if_neg (by rw [h.prj,h.src];simp),if_neg (by simpa using h2),if_neg (by simp;omega),if_pos (.inl rfl)]
  rw [e,if_neg (by decide),if_pos rfl]
 ·have e:U8 s ⟨d.prj,d.src,d.coh,d.part,d.of,d.seed,l⟩ = 0:=by
   refine (BU s _).2 ⟨h.sch,h.prj,h.src,h.coh,h.num,?_,fun i x hi=>?_⟩
   ·have h1:=h.len
    rw [hlq,List.length_append,List.length_singleton] at h1
    have:=List.length_pos_iff.2 g
    dsimp only
    omega
   ·dsimp only at hi ⊢
    have hil:=(List.getElem?_eq_some_iff.1 hi).1
    have:=h.qs i x (by rw [hlq,List.getElem?_append_left hil];exact hi)
    rw [hlq,List.take_append_of_le_length (by omega)] at this
    exact this
  rw [e,if_pos rfl,if_neg g]
end Go.Proofs.YthkklceofokkmaaGreatDoor
namespace Go.Proofs.YthkklceofokkmaaGreatDoor
open Go Go.Av
attribute [local irreducible] E5 B7 E6 E7 DQ E8 F0 St.le B3 B5
set_option maxRecDepth 100000
def WH (q:D3):Prop:=I8 q.flt ≤ 7 ∧ I8 q.evt ≤ 3
theorem du:I8 zC = 1:=rfl
theorem bh {s:B2} (hd:F6 s) (l nm:List UInt8) (a:Nat):WH (FG l s nm a).1:=by
 have hk:=I0 l a (n:=3) (by omega)
 have hz:=du
 have hc:I8 (K6 l s (B9 l a 3).1 (B9 l a 3).2).1 ≤ 7:=by
  have h1:=(Co hd l (B9 l a 3).1 (B9 l a 3).2).2.1
  have h2:2 ^ ((B9 l a 3).1 + 1) ≤ 2 ^ 3:=Nat.pow_le_pow_right (by omega) (by omega)
  omega
 have hv:∀ b,I8 (K6 l s 1 b).1 ≤ 3:=fun b=>by
  have:=(Co hd l 1 b).2.1
  omega
 unfold FG
 dsimp only
 split
 ·exact ⟨hc,by show I8 zC ≤ 3;omega⟩
 ·split
  ·split
   ·exact ⟨hc,by show I8 zC ≤ 3;omega⟩
   ·exact ⟨hc,by show I8 zC ≤ 3;omega⟩
  ·split
   ·split
    ·exact ⟨hc,hv _⟩
    ·exact ⟨hc,by show I8 zC ≤ 3;omega⟩
   ·exact ⟨hc,by show I8 zC ≤ 3;omega⟩
theorem ST {s:B2} (hd:F6 s) (l:List UInt8):∀ (n:Nat) (x:List D3 × Nat),(∀ q ∈ x.1,WH q) → ∀ q ∈ (b7 l s n x).1,WH q
 | 0,x,h=>h
 | n + 1,x,h=>by
   rw [b7]
   refine ST hd l n _ fun q hq=>?_
   dsimp only at hq
   rcases List.mem_append.1 hq with hq | hq
   ·exact h q hq
   ·rw [List.mem_singleton.1 hq];exact bh hd l _ _
theorem Ju {s:B2} {c:A4} (h:H0 s c = 0):(D6 s c).length ≤ 100 * I8 c:=by
 obtain ⟨hr,h3,h4,h5⟩:=Dm h
 exact (Gf s hr c h5 (by omega)).2
theorem bi {s:B2} (hr:C8 s = 0) {q:D3} (h:Dq s q) (hs:WH q):(K3 s q).length ≤ 1200:=by
 have hn:=T9 h.name
 have hm:=Ap hr q.mea
 have hf:=Ju h.flt
 have hs1:=hs.1
 have hs2:=hs.2
 have hh:(Fj s q).length ≤ 400:=by
  unfold Fj
  rcases h.kind with ⟨k,⟨_,d2,d3⟩,_⟩ | ⟨k,_,⟨_,d2,_⟩,_⟩ | ⟨k,_,d2,_⟩
  ·have h1:=u7 (l:=q.dims) (f:=d7 s) fun d hd=>MF hr (d3 d hd)
   have h2:q.dims.length * 41 ≤ 3 * 41:=Nat.mul_le_mul_right _ d2
   rw [if_pos k]
   split <;> simp only [List.length_append,List.length_cons,List.length_nil] <;> omega
  ·have h1:=u7 (l:=q.trms) (f:=p0 s) fun d hd=>MG hr d
   have h2:q.trms.length * 17 ≤ 3 * 17:=Nat.mul_le_mul_right _ d2
   rw [if_neg (by omega),if_pos k]
   simp only [List.length_append,List.length_cons,List.length_nil]
   omega
  ·have h1:=Ju d2
   rw [if_neg (by omega),if_neg (by omega)]
   simp only [List.length_append,List.length_cons,List.length_nil]
   omega
 unfold K3
 simp only [List.length_append,List.length_cons,List.length_nil]
 omega
theorem bk {s:B2} (hd:F6 s) (l:List UInt8) (a:Nat):(∀ q ∈ (Q7 l s a).1.qs,WH q) ∧ I8 (Q7 l s a).1.coh ≤ 3:=by
 refine ⟨ST hd l _ _ (fun q hq=>by cases hq),?_⟩
 have hv:=(Co hd l 1 (B9 l a 3).2).2.1
 show I8 (L9 l s a).1.coh ≤ 3
 have hco:I8 (if ((B9 l (B9 l (K6 l s 1 (B9 l a 3).2).2 999).2 3).1:Int) = 3 - 1 then CX else (K6 l s 1 (B9 l a 3).2).1) ≤ 3:=by
  split
  ·show 1 ≤ 3;omega
  ·omega
 unfold L9
 dsimp only
 split
 ·exact hco
 ·exact hco
theorem Qa {s:B2} (hd:F6 s) (l:List UInt8) (a:Nat):AM s (Q7 l s a).1 ∧ (Q7 l s a).1.qs.length ≤ 3 ∧ (N7 s (Q7 l s a).1).length ≤ 5000:=by
 obtain ⟨h1,h2,h3⟩:=LM hd l a
 obtain ⟨s1,s2⟩:=bk hd l a
 generalize (Q7 l s a).1 = d at *
 have h:=(BU s d).1 h1
 refine ⟨h,h3,?_⟩
 have t1:=T9 h.prj
 have t2:=T9 h.src
 have t3:=Ju h.coh
 have t4:=Pw h
 have t5:(G5 s d.qs).length ≤ d.qs.length * 1201:=by
  unfold G5
  refine u7 fun q hq=>?_
  obtain ⟨i,hi⟩:=List.mem_iff_getElem?.1 hq
  have:=bi h.sch (Ih (h.qs i q hi).1).2 (s1 q hq)
  rw [List.length_append,List.length_singleton];omega
 have t6:d.qs.length * 1201 ≤ 3 * 1201:=Nat.mul_le_mul_right _ h3
 unfold N7 N6
 simp only [List.length_append,List.length_cons,List.length_nil]
 omega
end Go.Proofs.YthkklceofokkmaaGreatDoor
namespace Go.Proofs.YthkklceofokkmaaGreatDoor
open Go Go.Av
attribute [local irreducible] E5 B7 E6 E7 DQ E8 F0 St.le B3 B5
set_option maxRecDepth 100000
theorem As {s:B2} {c:A4} {e:Int} (h:K0 s c = e) (he:e ≠ 0):e = if K0 s c = 0 then Y4 s c.kids else K0 s c:=by rw [h,if_neg he]
set_option maxHeartbeats 8000000 in
theorem WI (s:B2) (hr:C8 s = 0) (c:A4):B3 Tryz.prog 76 [sA s,L8 c] (.i (j9 s c)):=by
 refine Q3 (p:=fun c=>B3 Tryz.prog 76 [sA s,L8 c] (.i (j9 s c))) (fun c ih=>?_) c
 have hin:=fun k=>ae s c.col k
 have hkn:=Lt c.op
 have hlst:∀ x,s.cols[c.col.toNat]? = some x → (C6 s c.col).kind = 2 → 0 ≤ x.lst ∧ x.lst < s.lists.length:=fun x hx h2=>by
  rw [E0 hx] at h2
  have:=Aa.lst hr (List.mem_of_getElem? hx) h2
  omega
 rw [T6,Dw]
 refine F7 Tryz.func76 185 fun hrd E h0=>?_
 have hlen:c.kids.length ≤ 9223372036854775807:=by
  have:=((hrd _ (List.mem_cons_of_mem _ (List.mem_cons_self ..))).agg (.sl 6 (c.kids.map P4)) (by simp)).sl
  simpa using this
 clear hrd
 repeat' ((first | (refine E3 1 ?_;refine F3 (id:=1) ⟨[(2, .ref 0 0),(3, .ref 1 0),(5, .i 0),(6, .ref 2 0)],3,[(0,some (.box (sL s))),(1,some (.box (Ax c))),(2,some (.box [.i c.op, .i 0, .i 0, .i 0, .i 0, .v (.slice none 0 0)]))]⟩ ?_ ?_) | (refine E3 6 ?_;refine F3 (id:=6) ⟨[(2, .ref 0 0),(3, .ref 1 0),(5, .i 0),(6, .ref 2 0)],3,[(0,some (.box (sL s))),(1,some (.box (Ax c))),(2,some (.box [.i c.op, .i c.col, .i c.code, .i 0, .i 0, .v (.slice none 0 0)]))]⟩ ?_ ?_) | (refine E3 8 ?_;refine F3 (id:=8) ⟨[(2, .ref 0 0),(3, .ref 1 0),(5, .i 0),(6, .ref 2 0)],3,[(0,some (.box (sL s))),(1,some (.box (Ax c))),(2,some (.box [.i c.op, .i c.col, .i 0, .i c.lo, .i c.hi, .v (.slice none 0 0)]))]⟩ ?_ ?_) | (refine EK (l:=⟨some 45,_,_,_,_,_⟩ :: _) [2,3,5,6] ?_;(try (conv=>whnf));refine A1 ?_) | (refine EK (l:=⟨some 78,_,_,_,_,_⟩ :: _) [2,3] ?_;(try (conv=>whnf));refine A1 ?_) | (refine EK (l:=⟨some 148,_,_,_,_,_⟩ :: _) [2,3] ?_;(try (conv=>whnf));refine A1 ?_) | refine B0 (hin _) ?_ | (refine Ce ?_ ?_ (fun lx hlx=>?_);(have:=hlst _ (by assumption) (by omega);omega);(have:=hlst _ (by assumption) (by omega);omega)) | (refine J2 ?_ ?_;kernel_rfl) |refine A1 ?_|refine S1 ?_|refine Z1 ?_|refine Z2 ?_|(refine And.intro ?_ ?_<;>intro h<;>try first|(exfalso;omega)|exact absurd rfl h)|refine Z3 ?_|refine Z4 ?_|intro el hel hbB|intro el hel|intro ex|refine Z5 ?_|(refine A8 ?_ ?_;exact ⟨by kernel_rfl,by decide⟩)|refine A7 ?_ ?_|exact A6|refine A3 ?_ ?_|exact A2|(refine A0 ?_ ?_ ?_;kernel_rfl;kernel_rfl)) <;> (try (conv=>whnf)))
 all_goals first
  | exact A5 h0 rfl ⟨rfl,rfl,rfl,rfl,trivial⟩ ⟨rfl,rfl,rfl,trivial⟩ rfl rfl rfl
  | exact A9 rfl (congrArg AV.i (As (dE (by omega)) (by decide)))
  | exact A9 rfl (congrArg AV.i (As (aY (by omega) (by omega)) (by decide)))
  | exact A9 rfl (congrArg AV.i (As (aZ (by omega) (by omega) (by assumption)) (by decide)))
  | exact A9 rfl (congrArg AV.i (As (aa (by omega) (by omega) (by assumption)) (by decide)))
  | exact A9 rfl (congrArg AV.i (As (ab (by omega) (by omega) (by assumption)) (by decide)))
  | exact A9 rfl (congrArg AV.i (As (XZ (by omega) (by omega) hel (by assumption)) (by decide)))
  | exact A9 rfl (congrArg AV.i (As (VS (by omega) (by omega) (by omega) (by omega)) (by decide)))
  | exact A9 rfl (congrArg AV.i (As (VS (by omega) (by omega) (by omega) (by rw [E0 hel,Q1 hlx];omega)) (by decide)))
  | exact A9 rfl (congrArg AV.i (As (dF (by omega) (by omega) (by omega) (by omega)) (by decide)))
  | (rw [if_pos (Ic (s:=s) (c:=c) (by omega) (by omega))];refine D8 (ι:=Nat) (fun k=>⟨[(2, .ref 0 0),(3, .ref 1 0),(7, .i k)],2,[(0,some (.box (sL s))),(1,some (.box (Ax c)))]⟩) (fun k=>k ≤ c.kids.length ∧ Y4 s c.kids = Y4 s (c.kids.drop k)) (fun k=>c.kids.length - k) 0 ⟨Nat.zero_le _,rfl⟩ (A5 h0 rfl ⟨rfl,rfl,rfl,trivial⟩ ⟨rfl,rfl,trivial⟩ rfl rfl rfl) (fun k hI=>?_))
  | (rw [if_pos (Ru (s:=s) (c:=c) (by omega) (by omega) (by omega) (by rw [E0 hel,Q1 hlx];omega))];refine D8 (ι:=Nat) (fun k=>⟨[(2, .ref 0 0),(3, .ref 1 0),(7, .i k)],2,[(0,some (.box (sL s))),(1,some (.box (Ax c)))]⟩) (fun k=>k ≤ c.kids.length ∧ Y4 s c.kids = Y4 s (c.kids.drop k)) (fun k=>c.kids.length - k) 0 ⟨Nat.zero_le _,rfl⟩ (A5 h0 rfl ⟨rfl,rfl,rfl,trivial⟩ ⟨rfl,rfl,trivial⟩ rfl rfl rfl) (fun k hI=>?_))
  | (rw [if_pos (Rv (s:=s) (c:=c) (by omega) (by omega) (by omega) (by omega))];refine D8 (ι:=Nat) (fun k=>⟨[(2, .ref 0 0),(3, .ref 1 0),(7, .i k)],2,[(0,some (.box (sL s))),(1,some (.box (Ax c)))]⟩) (fun k=>k ≤ c.kids.length ∧ Y4 s c.kids = Y4 s (c.kids.drop k)) (fun k=>c.kids.length - k) 0 ⟨Nat.zero_le _,rfl⟩ (A5 h0 rfl ⟨rfl,rfl,rfl,trivial⟩ ⟨rfl,rfl,trivial⟩ rfl rfl rfl) (fun k hI=>?_))
  | (rw [if_pos (Rw (s:=s) (c:=c) (by omega) (by omega) (by omega) hel (by assumption))];refine D8 (ι:=Nat) (fun k=>⟨[(2, .ref 0 0),(3, .ref 1 0),(7, .i k)],2,[(0,some (.box (sL s))),(1,some (.box (Ax c)))]⟩) (fun k=>k ≤ c.kids.length ∧ Y4 s c.kids = Y4 s (c.kids.drop k)) (fun k=>c.kids.length - k) 0 ⟨Nat.zero_le _,rfl⟩ (A5 h0 rfl ⟨rfl,rfl,rfl,trivial⟩ ⟨rfl,rfl,trivial⟩ rfl rfl rfl) (fun k hI=>?_))
 all_goals
  obtain ⟨hk,hI⟩:=hI
  clear hin hkn hlst
  repeat' ((first | (refine B0 (ih _ (List.mem_of_getElem? (by assumption))) ?_) | (refine J2 ?_ ?_;kernel_rfl) |refine A1 ?_|refine S1 ?_|refine Z1 ?_|refine Z2 ?_|(refine And.intro ?_ ?_<;>intro h<;>try first|(exfalso;omega)|exact absurd rfl h)|refine Z3 ?_|refine Z4 ?_|intro el hel hbB|intro el hel|intro ex|refine Z5 ?_|(refine A8 ?_ ?_;exact ⟨by kernel_rfl,by decide⟩)|refine A7 ?_ ?_|exact A6|refine A3 ?_ ?_|exact A2|(refine A0 ?_ ?_ ?_;kernel_rfl;kernel_rfl)) <;> (try (conv=>whnf)))
 all_goals first
  | exact A9 rfl (congrArg AV.i (by rw [hI,M9 (by assumption),Y4,if_neg (by assumption)]))
  | exact A9 rfl (congrArg AV.i (by rw [hI,AW (by assumption)];rfl))
  | exact ⟨k + 1,⟨by omega,by rw [hI,M9 (by assumption),Y4,if_pos (Decidable.of_not_not (by assumption))]⟩,by omega,A5 h0 rfl ⟨rfl,rfl,rfl,trivial⟩ ⟨rfl,rfl,trivial⟩ rfl rfl rfl⟩
end Go.Proofs.YthkklceofokkmaaGreatDoor
namespace Go.Proofs.YthkklceofokkmaaGreatDoor
open Go Go.Av
attribute [local irreducible] E5 B7 E6 E7 DQ E8 F0 St.le B3 B5
set_option maxRecDepth 100000
set_option maxHeartbeats 4000000 in
theorem EX (s:B2) (c:A4):B3 Tryz.prog 38 [sA s,L8 c] (.i (H0 s c)):=by
 have h1:=Af s
 have h2:=PM c 41 (by omega) (by omega)
 have h3:(I8 c:Int) ≤ 40 → B3 Tryz.prog 75 [L8 c] (.i (O8 c)):=fun h=>RG c (by have:=Rt c;omega)
 have h4:=fun hr=>WI s hr c
 have t1:=Xb c 41 (by omega)
 rw [T6] at *
 refine F7 Tryz.func38 20 fun hrd E h0=>?_
 clear hrd
 unfold H0
 repeat' ((first | refine B0 h1 ?_ | refine B0 h2 ?_ | refine B0 (h3 (by omega)) ?_ | refine B0 (h4 (Decidable.of_not_not (by assumption))) ?_ |refine A1 ?_|refine S1 ?_|refine Z1 ?_|refine Z2 ?_|(refine And.intro ?_ ?_<;>intro h<;>try first|(exfalso;omega)|exact absurd rfl h)|refine Z3 ?_|refine Z4 ?_|intro el hel hbB|intro el hel|intro ex|refine Z5 ?_|(refine A8 ?_ ?_;exact ⟨by kernel_rfl,by decide⟩)|refine A7 ?_ ?_|exact A6|refine A3 ?_ ?_|exact A2|(refine A0 ?_ ?_ ?_;kernel_rfl;kernel_rfl)) <;> (try (conv=>whnf)))
 all_goals first
  | exact A9 rfl (congrArg AV.i (by rw [if_neg (by assumption)]))
  | exact A9 rfl (congrArg AV.i (by rw [if_pos (Decidable.of_not_not (by assumption)),if_pos (by omega)]))
  | exact A9 rfl (congrArg AV.i (by rw [if_pos (Decidable.of_not_not (by assumption)),if_neg (by omega),if_pos (by omega)]))
  | exact A9 rfl (congrArg AV.i (by rw [if_pos (Decidable.of_not_not (by assumption)),if_neg (by omega),if_neg (by omega)]))
end Go.Proofs.YthkklceofokkmaaGreatDoor
namespace Go.Proofs.YthkklceofokkmaaGreatDoor
open Go Go.Av
attribute [local irreducible] E5 B7 E6 E7 DQ E8 F0 St.le B3 B5
set_option maxRecDepth 100000
set_option maxHeartbeats 4000000 in
theorem IL (c:A4):B3 Tryz.prog 53 [L8 c,L8 c] (.b true):=by
 refine Q3 (p:=fun c=>B3 Tryz.prog 53 [L8 c,L8 c] (.b true)) (fun c ih=>?_) c
 rw [T6]
 refine F7 Tryz.func53 67 fun hrd E h0=>?_
 have hlen:c.kids.length ≤ 9223372036854775807:=by
  have:=((hrd _ (List.mem_cons_self ..)).agg (.sl 6 (c.kids.map P4)) (by simp)).sl
  simpa using this
 clear hrd
 repeat' ((first | (refine J2 ?_ ?_;kernel_rfl) |refine A1 ?_|refine S1 ?_|refine Z1 ?_|refine Z2 ?_|(refine And.intro ?_ ?_<;>intro h<;>try first|(exfalso;omega)|exact absurd rfl h)|refine Z3 ?_|refine Z4 ?_|intro el hel hbB|intro el hel|intro ex|refine Z5 ?_|(refine A8 ?_ ?_;exact ⟨by kernel_rfl,by decide⟩)|refine A7 ?_ ?_|exact A6|refine A3 ?_ ?_|exact A2|(refine A0 ?_ ?_ ?_;kernel_rfl;kernel_rfl)) <;> (try (conv=>whnf)))
 all_goals first
  | (exfalso;omega)
  | skip
 refine D8 (ι:=Nat) (fun k=>⟨[(2, .ref 0 0),(3, .ref 1 0),(5, .i k)],2,[(0,some (.box (Ax c))),(1,some (.box (Ax c)))]⟩) (fun k=>k ≤ c.kids.length) (fun k=>c.kids.length - k) 0 (Nat.zero_le _)
  (A5 h0 rfl ⟨rfl,rfl,rfl,trivial⟩ ⟨rfl,rfl,trivial⟩ rfl rfl rfl) (fun k hk=>?_)
 repeat' ((first | (refine B0 (ih _ (List.mem_of_getElem? (by assumption))) ?_) | (refine J2 ?_ ?_;kernel_rfl) |refine A1 ?_|refine S1 ?_|refine Z1 ?_|refine Z2 ?_|(refine And.intro ?_ ?_<;>intro h<;>try first|(exfalso;omega)|exact absurd rfl h)|refine Z3 ?_|refine Z4 ?_|intro el hel hbB|intro el hel|intro ex|refine Z5 ?_|(refine A8 ?_ ?_;exact ⟨by kernel_rfl,by decide⟩)|refine A7 ?_ ?_|exact A6|refine A3 ?_ ?_|exact A2|(refine A0 ?_ ?_ ?_;kernel_rfl;kernel_rfl)) <;> (try (conv=>whnf)))
 all_goals first
  | exact A9 rfl rfl
  | exact ⟨k + 1,by omega,by omega,A5 h0 rfl ⟨rfl,rfl,rfl,trivial⟩ ⟨rfl,rfl,trivial⟩ rfl rfl rfl⟩
  | (exfalso;omega)
end Go.Proofs.YthkklceofokkmaaGreatDoor
namespace Go.Proofs.YthkklceofokkmaaGreatDoor
open Go Go.Av
attribute [local irreducible] E5 B7 E6 E7 DQ E8 F0 St.le B3 B5
set_option maxRecDepth 100000
theorem dv {p q:Pk} (h:p.col = q.col ∧ p.lev = q.lev):p = q:=by
 cases p;cases q
 dsimp only at h
 rw [Pk.mk.injEq];exact h
set_option maxHeartbeats 4000000 in
theorem MT (a b:List Pk):B3 Tryz.prog 99 [.sl 2 (a.map P8), .sl 2 (b.map P8)] (.b (decide (a = b))):=by
 refine F7 Tryz.func99 26 fun hrd E h0=>?_
 have hlen:a.length ≤ 9223372036854775807:=by have:=(hrd (.sl 2 (a.map P8)) (by simp)).sl;simpa using this
 have hlen2:b.length ≤ 9223372036854775807:=by have:=(hrd (.sl 2 (b.map P8)) (by simp)).sl;simpa using this
 clear hrd
 repeat' ((first|refine A1 ?_|refine S1 ?_|refine Z1 ?_|refine Z2 ?_|(refine And.intro ?_ ?_<;>intro h<;>try first|(exfalso;omega)|exact absurd rfl h)|refine Z3 ?_|refine Z4 ?_|intro el hel hbB|intro el hel|intro ex|refine Z5 ?_|(refine A8 ?_ ?_;exact ⟨by kernel_rfl,by decide⟩)|refine A7 ?_ ?_|exact A6|refine A3 ?_ ?_|exact A2|(refine A0 ?_ ?_ ?_;kernel_rfl;kernel_rfl)) <;> (try (conv=>whnf)))
 all_goals first
  | exact A9 rfl (congrArg AV.b (decide_eq_false (fun e=>by subst e;contradiction)).symm)
  | skip
 refine D8 (ι:=Nat) (fun k=>⟨[(0, .sl 2 (a.map P8)),(1, .sl 2 (b.map P8)),(5, .i k)],0,[]⟩) (fun k=>k ≤ a.length ∧ a.take k = b.take k) (fun k=>a.length - k) 0 ⟨Nat.zero_le _,rfl⟩
  (A5 h0 rfl ⟨rfl,rfl,rfl,trivial⟩ trivial rfl rfl rfl) (fun k hI=>?_)
 obtain ⟨hk,hI⟩:=hI
 by_cases hlt:k < a.length
 ·obtain ⟨p,hp⟩:∃ p,a[k]? = some p:=⟨_,List.getElem?_eq_getElem hlt⟩
  obtain ⟨q,hq⟩:∃ q,b[k]? = some q:=⟨_,List.getElem?_eq_getElem (by omega)⟩
  repeat' ((first | (refine B1 (x:=p) hp (by omega) ?_) | (refine B1 (x:=q) hq (by omega) ?_) | (refine J2 ?_ ?_;kernel_rfl) |refine A1 ?_|refine S1 ?_|refine Z1 ?_|refine Z2 ?_|(refine And.intro ?_ ?_<;>intro h<;>try first|(exfalso;omega)|exact absurd rfl h)|refine Z3 ?_|refine Z4 ?_|intro el hel hbB|intro el hel|intro ex|refine Z5 ?_|(refine A8 ?_ ?_;exact ⟨by kernel_rfl,by decide⟩)|refine A7 ?_ ?_|exact A6|refine A3 ?_ ?_|exact A2|(refine A0 ?_ ?_ ?_;kernel_rfl;kernel_rfl)) <;> (try (conv=>whnf)))
  all_goals first
   | (exfalso;omega)
   | exact ⟨k + 1,⟨by omega,by rw [IY hp,IY hq,hI,dv h]⟩,by omega,A5 h0 rfl ⟨rfl,rfl,rfl,trivial⟩ trivial rfl rfl rfl⟩
   | exact A9 rfl (congrArg AV.b (decide_eq_false (fun e=>by subst e;rw [hp] at hq;cases hq;exact h ⟨rfl,rfl⟩)).symm)
 ·repeat' ((first|refine A1 ?_|refine S1 ?_|refine Z1 ?_|refine Z2 ?_|(refine And.intro ?_ ?_<;>intro h<;>try first|(exfalso;omega)|exact absurd rfl h)|refine Z3 ?_|refine Z4 ?_|intro el hel hbB|intro el hel|intro ex|refine Z5 ?_|(refine A8 ?_ ?_;exact ⟨by kernel_rfl,by decide⟩)|refine A7 ?_ ?_|exact A6|refine A3 ?_ ?_|exact A2|(refine A0 ?_ ?_ ?_;kernel_rfl;kernel_rfl)) <;> (try (conv=>whnf)))
  all_goals first
   | (exfalso;omega)
   | exact A9 rfl (congrArg AV.b (decide_eq_true (by rw [List.take_of_length_le (by omega),List.take_of_length_le (by omega)] at hI;exact hI)).symm)
end Go.Proofs.YthkklceofokkmaaGreatDoor
