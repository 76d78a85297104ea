/- Chapter 17: the example of the chapter. -/
import Derived.Test.YthkklceofokkmaaGreatDoorBF6
import Derived.Test.YthkklceofokkmaaGreatDoorBCm1
import Derived.Test.YthkklceofokkmaaGreatDoorBC1
import Derived.Test.YthkklceofokkmaaGreatDoorBB12
import Derived.Test.YthkklceofokkmaaGreatDoorBB4
import Derived.Test.YthkklceofokkmaaGreatDoorBCf1
import Derived.Test.YthkklceofokkmaaGreatDoorBQw1
import Derived.Test.YthkklceofokkmaaGreatDoorBSj
import Derived.Test.YthkklceofokkmaaGreatDoorBB9
import Derived.Test.YthkklceofokkmaaGreatDoorBRp1
set_option linter.unusedVariables false
set_option linter.unnecessarySimpa false
set_option linter.unusedSimpArgs false
namespace Go.Proofs.YthkklceofokkmaaGreatDoor
open Go Go.Av
attribute [local irreducible] E5 B7 E6 E7 DQ E8 F0 St.le B3 B5
set_option maxRecDepth 100000
theorem UD (xs ys:List Int):B3 Tryz.prog 100 [.sl 1 (xs.map wA), .sl 1 (ys.map wA)] (.b (decide (xs = ys))):=by
 refine F7 Tryz.func100 26 fun hrd E h0=>?_
 have hlen:xs.length ≤ 9223372036854775807:=by
  have:=(hrd (.sl 1 (xs.map wA)) (by simp)).sl
  simpa using this
 have hlen2:ys.length ≤ 9223372036854775807:=by
  have:=(hrd (.sl 1 (ys.map wA)) (by simp)).sl
  simpa using this
 clear hrd
 repeat' ((first|refine A1 ?_|refine S1 ?_|refine Z1 ?_|refine Z2 ?_|(refine And.intro ?_ ?_<;>intro h<;>try first|(exfalso;omega)|exact absurd rfl h)|refine Z3 ?_|refine Z4 ?_|intro el hel hbB|intro el hel|intro ex|refine Z5 ?_|(refine A8 ?_ ?_;exact ⟨by kernel_rfl,by decide⟩)|refine A7 ?_ ?_|exact A6|refine A3 ?_ ?_|exact A2|(refine A0 ?_ ?_ ?_;kernel_rfl;kernel_rfl)) <;> (try (conv=>whnf)))
 ·exact A9 rfl (congrArg AV.b (by
   have:xs ≠ ys:=by intro e;subst e;omega
   simp [this]))
 have hl:xs.length = ys.length:=by omega
 refine D8 (ι:=Nat) (fun k=>⟨[(0, .sl 1 (xs.map wA)),(1, .sl 1 (ys.map wA)),(5, .i k)],0,[]⟩) (fun k=>k ≤ xs.length ∧ ys.take k = xs.take k) (fun k=>xs.length - k) 0 ⟨Nat.zero_le _,rfl⟩ (A5 h0 rfl ⟨rfl,rfl,rfl,trivial⟩ trivial rfl rfl rfl) (fun k hI=>?_)
 obtain ⟨hk,hI⟩:=hI
 by_cases hlt:k < xs.length
 ·obtain ⟨x,hx⟩:∃ x,xs[k]? = some x:=⟨_,List.getElem?_eq_getElem hlt⟩
  obtain ⟨y,hy⟩:∃ y,ys[k]? = some y:=⟨_,List.getElem?_eq_getElem (by omega)⟩
  repeat' ((first | (refine B1 (x:=x) hx (by omega) ?_) | (refine B1 (x:=y) hy (by omega) ?_) | (refine J2 ?_ ?_;kernel_rfl) |refine A1 ?_|refine S1 ?_|refine Z1 ?_|refine Z2 ?_|(refine And.intro ?_ ?_<;>intro h<;>try first|(exfalso;omega)|exact absurd rfl h)|refine Z3 ?_|refine Z4 ?_|intro el hel hbB|intro el hel|intro ex|refine Z5 ?_|(refine A8 ?_ ?_;exact ⟨by kernel_rfl,by decide⟩)|refine A7 ?_ ?_|exact A6|refine A3 ?_ ?_|exact A2|(refine A0 ?_ ?_ ?_;kernel_rfl;kernel_rfl)) <;> (try (conv=>whnf)))
  all_goals first
   | (exfalso;omega)
   | (refine A9 rfl (congrArg AV.b (decide_eq_false (fun e=>?_)).symm)
      subst e
      rw [hx] at hy
      cases hy
      omega)
   | exact ⟨k + 1,⟨by omega,by rw [IY hx,IY hy,hI];congr 2;omega⟩,by omega,A5 h0 rfl ⟨rfl,rfl,rfl,trivial⟩ trivial rfl rfl rfl⟩
 ·repeat' ((first|refine A1 ?_|refine S1 ?_|refine Z1 ?_|refine Z2 ?_|(refine And.intro ?_ ?_<;>intro h<;>try first|(exfalso;omega)|exact absurd rfl h)|refine Z3 ?_|refine Z4 ?_|intro el hel hbB|intro el hel|intro ex|refine Z5 ?_|(refine A8 ?_ ?_;exact ⟨by kernel_rfl,by decide⟩)|refine A7 ?_ ?_|exact A6|refine A3 ?_ ?_|exact A2|(refine A0 ?_ ?_ ?_;kernel_rfl;kernel_rfl)) <;> (try (conv=>whnf)))
  all_goals first
   | (exfalso;omega)
   | (refine A9 rfl (congrArg AV.b (decide_eq_true ?_).symm)
      rw [List.take_of_length_le (by omega),List.take_of_length_le (by omega)] at hI
      exact hI.symm)
def z7:A4:=.mk 0 0 0 0 0 []
def fx:A4:=.mk 1 0 0 0 0 []
def t7:O2:=.mk 10 0 [] (-1) [] [⟨1,1⟩] fx z7 []
def x7:O2:=.mk 6 0 [] 0 [] [] z7 z7 [.mk 2 0 [116] 0 [] [] z7 z7 [], .mk 1 0 [] 0 [] [] z7 z7 []]
end Go.Proofs.YthkklceofokkmaaGreatDoor
namespace Go.Proofs.YthkklceofokkmaaGreatDoor
open Go Go.Av
attribute [local irreducible] E5 B7 E6 E7 DQ E8 F0 St.le B3 B5
set_option maxRecDepth 100000
set_option maxHeartbeats 8000000 in
theorem UE (q:D3):B3 Tryz.prog 54 [W7 q,W7 q] (.b true):=by
 have h1:=(UD q.trms q.trms).congr (congrArg AV.b (decide_eq_true rfl))
 have h2:=(MT q.dims q.dims).congr (congrArg AV.b (decide_eq_true rfl))
 have h3:=IL q.flt
 have h4:=IL q.evt
 refine F7 Tryz.func54 52 fun hrd E h0=>?_
 clear hrd
 repeat' ((first | refine B0 h1 ?_ | refine B0 h2 ?_ | refine B0 h3 ?_ | refine B0 h4 ?_ | (refine J2 ?_ ?_;kernel_rfl) |refine A1 ?_|refine S1 ?_|refine Z1 ?_|refine Z2 ?_|(refine And.intro ?_ ?_<;>intro h<;>try first|(exfalso;omega)|exact absurd rfl h)|refine Z3 ?_|refine Z4 ?_|intro el hel hbB|intro el hel|intro ex|refine Z5 ?_|(refine A8 ?_ ?_;exact ⟨by kernel_rfl,by decide⟩)|refine A7 ?_ ?_|exact A6|refine A3 ?_ ?_|exact A2|(refine A0 ?_ ?_ ?_;kernel_rfl;kernel_rfl)) <;> (try (conv=>whnf)))
 all_goals first
  | exact A9 rfl rfl
  | (exfalso;omega)
set_option maxHeartbeats 8000000 in
theorem LV (d:F4):B3 Tryz.prog 20 [M5 d,M5 d] (.b true):=by
 have h1:=fun x:D3=>UE x
 have h3:=IL d.coh
 refine F7 Tryz.func20 61 fun hrd E h0=>?_
 have hlen:d.qs.length ≤ 9223372036854775807:=by
  have:=((hrd _ (List.mem_cons_self ..)).agg (.sl 17 (d.qs.map C4)) (by simp)).sl
  simpa using this
 clear hrd
 repeat' ((first | refine B0 h3 ?_ |refine A1 ?_|refine S1 ?_|refine Z1 ?_|refine Z2 ?_|(refine And.intro ?_ ?_<;>intro h<;>try first|(exfalso;omega)|exact absurd rfl h)|refine Z3 ?_|refine Z4 ?_|intro el hel hbB|intro el hel|intro ex|refine Z5 ?_|(refine A8 ?_ ?_;exact ⟨by kernel_rfl,by decide⟩)|refine A7 ?_ ?_|exact A6|refine A3 ?_ ?_|exact A2|(refine A0 ?_ ?_ ?_;kernel_rfl;kernel_rfl)) <;> (try (conv=>whnf)))
 all_goals first
  | (exfalso;omega)
  | skip
 refine D8 (ι:=Nat) (fun k=>⟨[(2, .iptr (k0 d)),(3, .iptr (k0 d)),(5, .i k)],0,[]⟩) (fun k=>k ≤ d.qs.length) (fun k=>d.qs.length - k) 0 (Nat.zero_le _)
  (A5 h0 rfl ⟨rfl,rfl,rfl,trivial⟩ trivial rfl rfl rfl) (fun k hk=>?_)
 by_cases hlt:k < d.qs.length
 ·obtain ⟨x,hx⟩:∃ x,d.qs[k]? = some x:=⟨_,List.getElem?_eq_getElem hlt⟩
  have h1:=h1 x
  repeat' ((first | (refine B1 (x:=x) hx (by omega) ?_) | refine B0 h1 ?_ | (refine J2 ?_ ?_;kernel_rfl) |refine A1 ?_|refine S1 ?_|refine Z1 ?_|refine Z2 ?_|(refine And.intro ?_ ?_<;>intro h<;>try first|(exfalso;omega)|exact absurd rfl h)|refine Z3 ?_|refine Z4 ?_|intro el hel hbB|intro el hel|intro ex|refine Z5 ?_|(refine A8 ?_ ?_;exact ⟨by kernel_rfl,by decide⟩)|refine A7 ?_ ?_|exact A6|refine A3 ?_ ?_|exact A2|(refine A0 ?_ ?_ ?_;kernel_rfl;kernel_rfl)) <;> (try (conv=>whnf)))
  all_goals first
   | exact ⟨k + 1,by omega,by omega,A5 h0 rfl ⟨rfl,rfl,rfl,trivial⟩ trivial rfl rfl rfl⟩
   | (exfalso;omega)
 ·repeat' ((first|refine A1 ?_|refine S1 ?_|refine Z1 ?_|refine Z2 ?_|(refine And.intro ?_ ?_<;>intro h<;>try first|(exfalso;omega)|exact absurd rfl h)|refine Z3 ?_|refine Z4 ?_|intro el hel hbB|intro el hel|intro ex|refine Z5 ?_|(refine A8 ?_ ?_;exact ⟨by kernel_rfl,by decide⟩)|refine A7 ?_ ?_|exact A6|refine A3 ?_ ?_|exact A2|(refine A0 ?_ ?_ ?_;kernel_rfl;kernel_rfl)) <;> (try (conv=>whnf)))
  all_goals first
   | exact A9 rfl rfl
   | (exfalso;omega)
end Go.Proofs.YthkklceofokkmaaGreatDoor
namespace Go.Proofs.YthkklceofokkmaaGreatDoor
open Go Go.Av
attribute [local irreducible] E5 B7 E6 E7 DQ E8 F0 St.le B3 B5
set_option maxRecDepth 100000
abbrev fC:List UInt8:=[32,10,40,41,47,45,48,49,50,55,97,100,101,107,108,109,110,111,112,113,114,115,116,117,118,119,120,121]
set_option maxHeartbeats 16000000 in
theorem UF (l:List UInt8) (at':Int) (b:UInt8) (hl:l.length ≤ maxLen):B3 Tryz.prog 4 [.sl 1 (l.map S6), .i at', .v (.int .u8 b.toNat)] (.b true):=by
 unfold maxLen at hl
 have hb:=b.toNat_lt
 have hL:(l.take 400).length ≤ 400:=List.length_take_le _ _
 have hnew:=Jh l (by omega)
 have hsch:=IA (l.take 400) 0 hL
 have hd:=Gc (l.take 400) 0
 generalize FF (l.take 400) 0 = s0 at *
 obtain ⟨s,a0⟩:=s0
 dsimp only at hsch hd
 generalize l.take 400 = t at *
 have hdcl:=NN t s hd hL a0
 obtain ⟨hok,_,hlen⟩:=Qa hd t a0
 generalize Q7 t s a0 = X at *
 obtain ⟨D,a1⟩:=X
 dsimp only at hdcl hok hlen
 have hz:U8 s D = 0:=(BU s D).2 hok
 have e1:B3 Tryz.prog 18 [sA s,M5 D] (.tup [.str (N7 s D), .i 0]):=(DF s D).congr (by rw [Hr,if_pos hz,if_neg (by omega)])
 have e2:B3 Tryz.prog 19 [sA s, .str (N7 s D)] (.tup [M5 D, .i 0, .i 0]):=(BE s (N7 s D)).congr (by rw [ZD hok (by omega)])
 have e3:=LV D
 have hgp:1 ≤ (N7 s D).length:=by
  unfold N7 N6
  simp only [List.length_append,List.length_cons,List.length_nil];omega
 clear hz hok hd
 generalize N7 s D = G at *
 have hmo:=PE at' G.length (by omega)
 have hml:=Fa (k:=at') (n:=G.length) (by omega)
 generalize GR at' G.length = k at *
 have h28:0 ≤ (b.toNat:Int).tmod 28 ∧ (b.toNat:Int).tmod 28 < 28:=by
  rw [Int.tmod_eq_emod_of_nonneg (by omega)];omega
 obtain ⟨c,hc⟩:∃ c,fC[((b.toNat:Int).tmod 28).toNat]? = some c:=⟨_,List.getElem?_eq_getElem (by show _ < 28;omega)⟩
 obtain ⟨gk,hgk⟩:∃ el,G[k.toNat]? = some el:=⟨_,List.getElem?_eq_getElem (by omega)⟩
 have hcl:(G.set k.toNat c).length = G.length:=List.length_set
 have e4:=BE s (G.set k.toNat c)
 have e5:(l8 s (G.set k.toNat c)).2.2 = 0 → B3 Tryz.prog 18 [sA s,M5 (l8 s (G.set k.toNat c)).1] (.tup [.str (G.set k.toNat c), .i 0]):=fun hg=>by
  refine (DF s _).congr ?_
  rw [ZE (s:=s) (t:=G.set k.toNat c) (d:=(l8 s (G.set k.toNat c)).1) (n:=(l8 s (G.set k.toNat c)).2.1) (by rw [← hg])]
 generalize l8 s (G.set k.toNat c) = Q at *
 obtain ⟨P1,n1,g1⟩:=Q
 dsimp only at e4 e5
 have ha:=FJ
 refine F7 Tryz.func4 97 fun hrd E h0=>?_
 clear hrd
 repeat' ((first | refine y8 [] [] hnew rfl rfl rfl rfl rfl trivial rfl rfl rfl rfl rfl ?_ | refine B0 e1 ?_ | refine B0 e2 ?_ | refine B0 e3 ?_ | refine B0 e4 ?_ | (refine B0 (e5 (by omega)) ?_) | refine B0 hmo ?_ | refine B0 ha ?_ | (refine Ak (x:=c) hc (by omega) ?_) | (refine B1 (x:=gk) hgk (by omega) ?_) | refine VC (l:=G) rfl rfl (by omega) ?_ | (refine E3 9 ?_;refine H6 (id:=9) (σ':=⟨[(1, .i at'),(2, .v (.int .u8 b.toNat)),(8, .iptr (sL s)),(15, .row 4 0 G.length)],5,[(4,some (.row (U5 + 5) 1 0 (G.map S6)))]⟩) (A5 h0 rfl ⟨rfl,rfl,rfl,rfl,trivial⟩ ⟨⟨_,rfl⟩,trivial⟩ rfl rfl rfl) ?_;refine F3 (id:=9) ⟨[(8, .iptr (sL s)),(15, .sl 1 ((G.set k.toNat c).map S6))],0,[]⟩ ?_ ?_) |refine A1 ?_|refine S1 ?_|refine Z1 ?_|refine Z2 ?_|(refine And.intro ?_ ?_<;>intro h<;>try first|(exfalso;omega)|exact absurd rfl h)|refine Z3 ?_|refine Z4 ?_|intro el hel hbB|intro el hel|intro ex|refine Z5 ?_|(refine A8 ?_ ?_;exact ⟨by kernel_rfl,by decide⟩)|refine A7 ?_ ?_|exact A6|refine A3 ?_ ?_|exact A2|(refine A0 ?_ ?_ ?_;kernel_rfl;kernel_rfl) | refine nc [0] [0] hsch rfl rfl rfl ⟨rfl,trivial⟩ ?_ | refine nc [0] [0] hdcl rfl rfl rfl ⟨rfl,trivial⟩ ?_) <;> (try (conv=>whnf)))
 all_goals first
  | exact A5 h0 rfl ⟨rfl,congrArg (fun z=>some (AV.sl 1 z)) (by rw [List.map_set];rfl),trivial⟩ trivial rfl rfl rfl
  | exact A9 rfl rfl
  | (exfalso;omega)
theorem WJ (l:List AV) (h:Du Tryz.prog Tryz.f4.params.toList l):B3 Tryz.prog 4 l (.b true):=by
 obtain ⟨a1,r1,rfl,h1,a2,r2,rfl,h2,a3,r3,rfl,h3,rfl⟩:=h
 obtain ⟨l,hl,rfl⟩:=PD h1
 obtain ⟨n,_,rfl⟩:=ZZ h2
 obtain ⟨b,hb,rfl⟩:=ck Tryz.underlying5 h3
 have e:b = (UInt8.ofNat b).toNat:=by simp;omega
 rw [e]
 exact UF l n (UInt8.ofNat b) hl
end Go.Proofs.YthkklceofokkmaaGreatDoor
namespace Go.Proofs.YthkklceofokkmaaGreatDoor
open Go Go.Av
attribute [local irreducible] E5 B7 E6 E7 DQ E8 F0 St.le B3 B5
set_option maxRecDepth 100000
def O9 (b:UInt8):Bool:=decide (b.toNat < 128)
theorem ZG {l:List UInt8} (h:l.all J5 = true):l.all O9 = true:=by
 rw [List.all_eq_true] at h ⊢
 intro b hb
 have:=h b hb
 unfold J5 at this
 have:=of_decide_eq_true this
 unfold O9
 rw [decide_eq_true_iff]
 omega
theorem BF (a b:List UInt8):(a ++ b).all O9 = (a.all O9 && b.all O9):=List.all_append
theorem MU (n:Int):(Lib.itoa n).all O9 = true:=by
 unfold Lib.itoa
 by_cases h:n < 0
 ·rw [if_pos h,List.all_cons]
  obtain ⟨_,d2,_⟩:=u6 n.natAbs
  rw [ZG (by rw [List.all_eq_true] at d2 ⊢;exact fun c hc=>Ab (d2 c hc))]
  rfl
 ·rw [if_neg h]
  obtain ⟨_,d2,_⟩:=u6 n.toNat
  exact ZG (by rw [List.all_eq_true] at d2 ⊢;exact fun c hc=>Ab (d2 c hc))
theorem Fq {nm:List UInt8} (h:C9 nm = true):nm.all O9 = true:=ZG (CI h).1
theorem WK {s:B2} (hr:C8 s = 0) (k:Int):(R4 s k).all O9 = true:=by
 unfold R4 C6
 rw [List.getD_eq_getElem?_getD]
 cases hx:s.cols[k.toNat]? with
 | none=>rfl
 | some x=>exact Fq (j3 hr hx).1
theorem dz {s:B2} (hr:C8 s = 0) (i k:Int):(An s i k).all O9 = true:=by
 unfold An D7
 rw [List.getD_eq_getElem?_getD,List.getD_eq_getElem?_getD]
 cases hl:s.lists[(C6 s i).lst.toNat]? with
 | none=>rfl
 | some l =>
   rw [Option.getD_some]
   cases hx:l.2[k.toNat]? with
   | none=>rfl
   | some x=>exact Fq (Ge hr (List.mem_of_getElem? hl) hx)
theorem Qb:U4.all O9 = true ∧ P5.all O9 = true ∧ CW.all O9 = true ∧ m5.all O9 = true ∧ S9.all O9 = true ∧ d6.all O9 = true ∧ d9.all O9 = true ∧ CG.all O9 = true ∧ [(40:UInt8)].all O9 = true ∧ [(41:UInt8)].all O9 = true ∧ [(45:UInt8)].all O9 = true ∧ [(47:UInt8)].all O9 = true:=by
 decide
theorem Fs {s:B2} (hr:C8 s = 0) (x:A4):(D6 s x).all O9 = true:=by
 obtain ⟨q1,q2,q3,q4,q5,q6,q7,q8,q9,q10,_,_⟩:=Qb
 refine Q3 (p:=fun x=>(D6 s x).all O9 = true) (fun x ih=>?_) x
 have kid:∀ i:Nat,((x.kids.map (D6 s)).getD i []).all O9 = true:=fun i=>by
  rw [List.getD_eq_getElem?_getD,List.getElem?_map]
  cases hk:x.kids[i]? with
  | none=>rfl
  | some k=>exact ih k (List.mem_of_getElem? hk)
 rw [Fi]
 (repeat' split) <;> simp only [BF,WK hr,dz hr,MU,kid,q1,q2,q3,q4,q5,q6,q7,q8,q9,q10,Bool.and_true]
theorem Ft {s:B2} (hr:C8 s = 0) (k:Int):(H7 s k).all O9 = true:=by
 unfold H7
 split
 ·exact (Qb).2.2.2.2.2.2.2.2.2.2.1
 ·exact WK hr k
end Go.Proofs.YthkklceofokkmaaGreatDoor
namespace Go.Proofs.YthkklceofokkmaaGreatDoor
open Go Go.Av
attribute [local irreducible] E5 B7 E6 E7 DQ E8 F0 St.le B3 B5
set_option maxRecDepth 100000
def Dc (T:List UInt8):Nat → Nat
 | 0=>0
 | p + 1=>if T[p]? = some 10 then Dc T p + 1 else Dc T p
def EY (T:List UInt8):Nat → Nat
 | 0=>0
 | p + 1=>if T[p]? = some 10 ∧ p + 1 < T.length then p + 1 else EY T p
def CZ:List UInt8 → Nat
 | []=>0
 | b :: r=>(if b = 10 then 1 else 0) + CZ r
theorem Cs:∀ a b:List UInt8,CZ (a ++ b) = CZ a + CZ b
 | [],b=>by rw [List.nil_append,CZ,Nat.zero_add]
 | x :: r,b=>by rw [List.cons_append,CZ,CZ,Cs r b,Nat.add_assoc]
theorem Fu:∀ {a:List UInt8},a.all (B6 10) = true → CZ a = 0
 | [],_=>rfl
 | x :: r,h=>by
   rw [List.all_cons,Bool.and_eq_true] at h
   have hx:¬ x = 10:=by
    have:=h.1;unfold B6 at this;simpa using this
   rw [CZ,if_neg hx,Fu h.2]
theorem Qc (T:List UInt8):∀ p,p ≤ T.length → Dc T p = CZ (T.take p)
 | 0,_=>rfl
 | p + 1,h=>by
   have hp:T[p]? = some T[p]:=List.getElem?_eq_getElem (by omega)
   rw [Dc,Qc T p (by omega),List.take_add_one,hp,Cs]
   show _ = _ + CZ [T[p]]
   rw [CZ,CZ]
   by_cases h10:T[p] = 10
   ·rw [if_pos (by rw [h10]),if_pos h10]
   ·rw [if_neg (by intro e;exact h10 (Option.some.inj e)),if_neg h10]
    simp
theorem SU {A M:List UInt8} (hA:A = [] ∨ ∃ A',A = A' ++ [10]) (hM:M.all (B6 10) = true):∀ p,p ≤ M.length + 1 → EY (A ++ (M ++ [10])) (A.length + p) = A.length
 | 0,_=>by
   rcases hA with rfl | ⟨A',rfl⟩
   ·rfl
   ·rw [Nat.add_zero,List.length_append,List.length_singleton,EY,if_pos]
    refine ⟨?_,by simp⟩
    rw [List.append_assoc,List.getElem?_append_right (Nat.le_refl _),Nat.sub_self];rfl
 | p + 1,h=>by
   rw [← Nat.add_assoc,EY,if_neg,SU hA hM p (by omega)]
   rintro ⟨h1,h2⟩
   rw [List.length_append,List.length_append,List.length_singleton] at h2
   have hp:p < M.length:=by omega
   rw [List.getElem?_append_right (by omega),Nat.add_sub_cancel_left,List.getElem?_append_left hp] at h1
   have hm:=List.mem_of_getElem? h1
   rw [List.all_eq_true] at hM
   have:=hM _ hm
   unfold B6 at this
   simp at this
end Go.Proofs.YthkklceofokkmaaGreatDoor
namespace Go.Proofs.YthkklceofokkmaaGreatDoor
open Go Go.Av
attribute [local irreducible] E5 B7 E6 E7 DQ E8 F0 St.le B3 B5
set_option maxRecDepth 100000
theorem Ip {α:Type} {f:α → List UInt8}:∀ {l:List α},(∀ x ∈ l,(f x).all O9 = true) → (l.flatMap f).all O9 = true
 | [],_=>rfl
 | x :: r,h=>by
   rw [List.flatMap_cons,BF,h x (by simp),Ip fun y hy=>h y (by simp [hy])];rfl
theorem eA {s:B2} (hr:C8 s = 0) (d:Pk):(d7 s d).all O9 = true:=by
 unfold d7
 simp only [BF,Ft hr,MU,Bool.and_true];rfl
theorem eC {s:B2} (hr:C8 s = 0) (c:Int):(p0 s c).all O9 = true:=by
 unfold p0
 simp only [BF,Ft hr,Bool.and_true];rfl
theorem bm {s:B2} (hr:C8 s = 0) {q:D3} (h:C9 q.name = true):(K3 s q).all O9 = true:=by
 have h1:=Fq h
 have h2:(q.dims.flatMap (d7 s)).all O9 = true:=Ip fun d _=>eA hr d
 have h3:(q.trms.flatMap (p0 s)).all O9 = true:=Ip fun d _=>eC hr d
 unfold K3 Fj
 split
 ·split
  ·simp only [BF,Ft hr,Fs hr,h1,h2,Bool.and_true];rfl
  ·simp only [BF,Ft hr,Fs hr,h1,h2,Bool.and_true];rfl
 ·split
  ·simp only [BF,Ft hr,Fs hr,h1,h3,Bool.and_true];rfl
  ·simp only [BF,Ft hr,Fs hr,h1,Bool.and_true];rfl
theorem eD {s:B2} (hr:C8 s = 0) {l:List D3} (h:∀ q ∈ l,C9 q.name = true):(G5 s l).all O9 = true:=by
 unfold G5
 exact Ip fun q hq=>by rw [BF,bm hr (h q hq)];rfl
theorem SV {s:B2} (hr:C8 s = 0):∀ {l:List D3},(∀ q ∈ l,C9 q.name = true) → CZ (G5 s l) = l.length
 | [],_=>rfl
 | q :: r,h=>by
   rw [Bc,Cs,Fu (IK hr (h q (by simp))),CZ,if_pos rfl,SV hr fun y hy=>h y (by simp [hy]),List.length_cons]
   omega
theorem bn {s:B2} {d:F4} (h:AM s d):CZ (N6 s d) = 3:=by
 have h1:=Fu (Bl CY h.prj)
 have h2:=Fu (Bl CY h.src)
 have h3:=Fu (Ik CY h.sch d.coh)
 unfold N6
 simp only [Cs,h1,h2,h3];rfl
theorem bo (d:F4):CZ (T4 d) = 1:=by
 have h1:∀ n,CZ (Lib.itoa n) = 0:=fun n=>Fu (Ij CY n)
 unfold T4
 simp only [Cs,h1];rfl
theorem bp (s:B2) (d:F4) (l:List D3):∃ A',N6 s d ++ T4 d ++ G5 s l = A' ++ [10]:=by
 rcases List.eq_nil_or_concat l with rfl | ⟨l',x,rfl⟩
 ·refine ⟨N6 s d ++ (EU ++ Lib.itoa d.part ++ Y9 ++ Lib.itoa d.of ++ CJ ++ Lib.itoa d.seed),?_⟩
  unfold T4 G5
  simp only [List.flatMap_nil,List.append_nil,List.append_assoc]
 ·refine ⟨N6 s d ++ T4 d ++ (G5 s l' ++ K3 s x),?_⟩
  rw [List.concat_eq_append,Io,Bc]
  unfold G5
  simp only [List.flatMap_nil,List.append_assoc]
theorem UG {s:B2} {d:F4} (h:AM s d) (hl:(N7 s d).length ≤ 5000):∃ (T:List UInt8) (l:List D3) (q:D3) (E:Nat),T = N7 s d ∧ d.qs = l ++ [q] ∧ T.length ≤ 5000 ∧ 1 ≤ T.length ∧ T.all O9 = true ∧ Dc T T.length = 4 + d.qs.length ∧ EY T T.length = E ∧ E ≤ T.length ∧
  l8 s (T.take E) = (if l = [] then (zD,0,1) else (⟨d.prj,d.src,d.coh,d.part,d.of,d.seed,l⟩,0,0)) ∧ l8 s (T.take (T.length - 1)) = (zD,4 + (d.qs.length:Int),11):=by
 obtain ⟨l,q,hlq⟩:∃ l q,d.qs = l ++ [q]:=by
  rcases List.eq_nil_or_concat d.qs with g | ⟨l,q,g⟩
  ·have:=h.len.1;rw [g] at this;cases this
  ·exact ⟨l,q,by rw [g,List.concat_eq_append]⟩
 have hn:∀ x ∈ d.qs,C9 x.name = true:=fun x hx=>(QZ h x hx).name
 have hq:C9 q.name = true:=hn q (by rw [hlq];simp)
 have hT:N7 s d = (N6 s d ++ T4 d ++ G5 s l) ++ (K3 s q ++ [10]):=by
  unfold N7
  rw [hlq,Io,Bc]
  unfold G5
  simp only [List.flatMap_nil,List.append_assoc]
 have hlen:(N7 s d).length = (N6 s d ++ T4 d ++ G5 s l).length + ((K3 s q).length + 1):=by rw [hT];simp only [List.length_append,List.length_singleton]
 refine ⟨N7 s d,l,q,(N6 s d ++ T4 d ++ G5 s l).length,rfl,hlq,hl,by omega,?_,?_,?_,by omega,?_,ZF h (by omega)⟩
 ·have h1:=Fq h.prj
  have h2:=Fq h.src
  have h3:=Fs h.sch d.coh
  have h4:=eD h.sch hn
  unfold N7 N6 T4
  simp only [BF,MU,h1,h2,h3,h4,Bool.and_true];rfl
 ·rw [Qc _ _ (Nat.le_refl _),List.take_length]
  unfold N7
  rw [Cs,Cs,bn h,bo,SV h.sch hn]
 ·rw [hlen,hT]
  exact SU (.inr (bp s d l)) (IK h.sch hq) _ (Nat.le_refl _)
 ·rw [hT,List.take_left]
  exact WG h hlq (by omega)
end Go.Proofs.YthkklceofokkmaaGreatDoor
