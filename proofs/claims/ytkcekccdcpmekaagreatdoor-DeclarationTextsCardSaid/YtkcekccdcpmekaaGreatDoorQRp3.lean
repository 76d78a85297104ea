/- Chapter 5: the reference's words and numbers. -/
import Derived.Test.YtkcekccdcpmekaaGreatDoorQXl
import Derived.Test.YtkcekccdcpmekaaGreatDoorQCm1
import Derived.Test.YtkcekccdcpmekaaGreatDoorQC1
import Derived.Test.YtkcekccdcpmekaaGreatDoorQB10
set_option linter.unusedVariables false
set_option linter.unnecessarySimpa false
set_option linter.unusedSimpArgs false
set_option maxHeartbeats 64000000
namespace Go.Proofs.YtkcekccdcpmekaaGreatDoor
open Go Go.Av
attribute [local irreducible] E8 B5 E5 E1 DQ E7 E9 St.le A4 A9
set_option maxRecDepth 100000
theorem fL(w t:List UInt8):(A8 w t).2=w.isPrefixOf t:=by
 unfold A8
 split
 ·rename_i h;exact h.symm
 ·rename_i h;exact(eq_false_of_ne_true h).symm
theorem L5(t w:List UInt8)(ht:t.length≤9223372036854775807)(hw:w.length≤9223372036854775807):A4 Tryz.prog 92 [.str t,.str w] (.b (A8 w t).2):=by
 have hp:=DM t w ht hw
 rw[fL]
 refine D0 Tryz.func92 8 fun ki E h0=>?_
 clear ki
 repeat'((first|refine A0 hp ?_ |refine S2 ?_|(refine T6 ?_ ?_<;>intro h<;>try exact V1 h)|intro el ke kg|intro el ke|exact T4|refine T5 ?_ ?_|intro ex)<;>try conv=>whnf)
 all_goals exact A3 rfl rfl
theorem Ld(t w:List UInt8)(ht:t.length≤9223372036854775807)(hw:w.length≤9223372036854775807):A4 Tryz.prog 137 [.str t,.str w] (.str (A8 w t).1):=by
 have hp:=DM t w ht hw
 have hq:=LL (w:=w) (t:=t)
 unfold A8
 refine D0 Tryz.func137 13 fun ki E h0=>?_
 clear ki
 by_cases h:w.isPrefixOf t=true
 ·rw[if_pos h]
  rw[h]at hp
  have hq:=hq.1 h
  repeat'((first|refine A0 hp ?_ |refine S2 ?_|(refine T6 ?_ ?_<;>intro h<;>try exact V1 h)|intro el ke kg|intro el ke|exact T4|refine T5 ?_ ?_|intro ex)<;>try conv=>whnf)
  all_goals first
   |exact A3 rfl (congrArg AV.str (by simp))
 ·have h2:w.isPrefixOf t=false:=eq_false_of_ne_true h
  rw[if_neg h]
  rw[h2]at hp
  repeat'((first|refine A0 hp ?_ |refine S2 ?_|(refine T6 ?_ ?_<;>intro h<;>try exact V1 h)|intro el ke kg|intro el ke|exact T4|refine T5 ?_ ?_|intro ex)<;>try conv=>whnf)
  all_goals first
   |exact A3 rfl rfl
theorem BX(t w:List UInt8)(ht:t.length≤9223372036854775807)(hw:w.length≤9223372036854775807):A4 Tryz.prog 91 [.str t,.str w] (.str (A8 w t).1):=by
 have hp:=Ld t w ht hw
 refine D0 Tryz.func91 8 fun ki E h0=>?_
 clear ki
 repeat'((first|refine A0 hp ?_ |refine S2 ?_|(refine T6 ?_ ?_<;>intro h<;>try exact V1 h)|intro el ke kg|intro el ke|exact T4|refine T5 ?_ ?_|intro ex)<;>try conv=>whnf)
 all_goals exact A3 rfl rfl
def Jh(t:List UInt8)(n:Nat):Prop:=n≤t.length∧∀i b,i<n→t[i]?=some b→J9 b=true
theorem Jh.step{t:List UInt8}{n:Nat}{b:UInt8}(h:Jh t n)(hb:t[n]?=some b)(hw:J9 b=true):Jh t (n+1):=by
 refine⟨by have:=(List.getElem?_eq_some_iff.1 hb).1;omega,fun i c hi hc=>?_⟩
 by_cases e:i=n
 ·subst e;rw[hb]at hc;cases hc;exact hw
 ·exact h.2 i c (by omega) hc
theorem Jh.ends{t:List UInt8}{n:Nat}{b:UInt8}(h:Jh t n)(hb:t[n]?=some b)(hw:J9 b=false):t.takeWhile J9=t.take n :=
 (Fa (fun i c hi hc=>h.2 i c hi hc) h.1 (fun c hc=>by rw[hb]at hc;cases hc;exact hw)).1
theorem Jh.all{t:List UInt8}{n:Nat}(h:Jh t n)(hn:¬(n:Int)<t.length):t.takeWhile J9=t.take n :=
 (Fa (fun i c hi hc=>h.2 i c hi hc) h.1 (fun c hc=>by have:=(List.getElem?_eq_some_iff.1 hc).1;omega)).1
theorem Yf{b:UInt8}(h:¬(b.toNat≠32∧b.toNat≠40∧b.toNat≠41)):J9 b=false:=decide_eq_false h
theorem Da(t:List UInt8)(ht:t.length≤9223372036854775806):A4 Tryz.prog 185 [.str t] (.str (t.takeWhile J9)):=by
 refine D0 Tryz.func185 31 fun ki E h0=>?_
 clear ki
 repeat'((first|refine S2 ?_|(refine T6 ?_ ?_<;>intro h<;>try exact V1 h)|intro el ke kg|intro el ke|exact T4|refine T5 ?_ ?_|intro ex)<;>try conv=>whnf)
 refine D5 (ι:=Nat) (fun n=>⟨[(0,.str t),(3,.i n)],0,[]⟩) (fun n=>Jh t n) (fun n=>t.length-n) 0 ⟨Nat.zero_le _,fun i b hi=>absurd hi (Nat.not_lt_zero _)⟩ (B2 h0) (fun n hI=>?_)
 have hn:=hI.1
 by_cases kj:n<t.length
 ·obtain⟨b,hb⟩:∃b,t[n]?=some b:=⟨_,List.getElem?_eq_getElem kj⟩
  by_cases hw:b.toNat≠32∧b.toNat≠40∧b.toNat≠41
  ·repeat'((first|(refine o8 (x:=b) hb (by omega) ?_) |refine S2 ?_|(refine T6 ?_ ?_<;>intro h<;>try exact V1 h)|intro el ke kg|intro el ke|exact T4|refine T5 ?_ ?_|intro ex)<;>try conv=>whnf)
   all_goals first
    |exact⟨n+1,hI.step hb (decide_eq_true hw),by omega,B2 h0⟩
    |(exfalso;omega)
  ·have e1:=hI.ends hb (Yf hw)
   rw[e1]
   repeat'((first|(refine o8 (x:=b) hb (by omega) ?_) |refine S2 ?_|(refine T6 ?_ ?_<;>intro h<;>try exact V1 h)|intro el ke kg|intro el ke|exact T4|refine T5 ?_ ?_|intro ex)<;>try conv=>whnf)
   all_goals first
    |(exfalso;omega)
    |exact A3 rfl (congrArg AV.str (by simp))
 ·have e1:=hI.all (by omega)
  rw[e1]
  repeat'((first|refine S2 ?_|(refine T6 ?_ ?_<;>intro h<;>try exact V1 h)|intro el ke kg|intro el ke|exact T4|refine T5 ?_ ?_|intro ex)<;>try conv=>whnf)
  all_goals first
   |(exfalso;omega)
   |exact A3 rfl (congrArg AV.str (by simp))
theorem Yg{b:UInt8}(h1:48≤b.toNat)(h2:b.toNat≤57):x5 b=true:=decide_eq_true ⟨h1,h2⟩
theorem fM{d:List UInt8}{k:Nat}{b:UInt8}(h:(d.take k).all x5=true)(hb:d[k]?=some b)(hd:x5 b=true):(d.take (k+1)).all x5=true:=by
 rw[GE hb,List.all_append,h]
 simp[hd]
theorem iq{d:List UInt8}{k:Nat}{b:UInt8}(hb:d[k]?=some b)(hd:x5 b=false):¬d.all x5=true:=fun h=>by
 rw[List.all_eq_true]at h
 rw[h b (List.mem_of_getElem? hb)]at hd
 cases hd
theorem bi:∀n:Fin 10,IntKind.i64.wrap (IntKind.u8.wrap (((48+n.val:Nat):Int)-48))=((n.val:Nat):Int):=by decide +kernel
theorem fN{b:Nat}(h1:48≤b)(h2:b≤57):IntKind.i64.wrap (IntKind.u8.wrap ((b:Int)-48))=((b-48:Nat):Int):=by
 have:=bi ⟨b-48,by omega⟩
 rwa[show 48+(⟨b-48,by omega⟩:Fin 10).val=b by show 48+(b-48)=b;omega]at this
theorem An(z:List UInt8)(hz:z.length≤9223372036854775806):A4 Tryz.prog 140 [.str z] (.tup [.i (I5 z).1,.b (I5 z).2]):=by
 have r1:=BX z [45] (by omega) (by decide)
 have kf:=K2 [45] z
 unfold I5
 generalize (A8 [45] z).1=d at *
 have py:∀l:List UInt8,l.all x5=true→l.length≤15→(BP l:Int)<1000000000000000:=fun l h hl=>by
  have h1:=eO h
  have h2:10 ^ l.length≤10 ^ 15:=Nat.pow_le_pow_right (by decide) hl
  omega
 by_cases h1:d.length<1∨15<d.length
 ·rw[if_pos h1]
  refine D0 Tryz.func140 53 fun ki E h0=>?_
  clear ki
  repeat'((first|refine A0 r1 ?_ |refine S2 ?_|(refine T6 ?_ ?_<;>intro h<;>try exact V1 h)|intro el ke kg|intro el ke|exact T4|refine T5 ?_ ?_|intro ex)<;>try conv=>whnf)
  all_goals first
   |exact O3 rfl rfl rfl
   |(exfalso;omega)
 rw[if_neg h1]
 have ri:=fun (n:Int) (h:-1000000000000000<n) (h2:n<1000000000000000)=>P3 n (by omega) (by omega)
 refine D0 Tryz.func140 53 fun ki E h0=>?_
 clear ki
 repeat'((first|refine A0 r1 ?_ |refine S2 ?_|(refine T6 ?_ ?_<;>intro h<;>try exact V1 h)|intro el ke kg|intro el ke|exact T4|refine T5 ?_ ?_|intro ex)<;>try conv=>whnf)
 all_goals first
  |(exfalso;omega)
  |skip
 refine D5 (ι:=Nat) (fun k=>⟨[(0,.str z),(4,.str d),(5,.i (BP (d.take k))),(6,.i k)],0,[]⟩) (fun k=>k≤d.length∧(d.take k).all x5=true) (fun k=>d.length-k) 0 ⟨Nat.zero_le _,rfl⟩ (B2 h0) (fun k hI=>?_)
 obtain⟨hk,hI⟩:=hI
 have hb:=py _ hI (by rw[List.length_take];omega)
 by_cases kj:k<d.length
 ·obtain⟨b,oE⟩:∃b,d[k]?=some b:=⟨_,List.getElem?_eq_getElem kj⟩
  have li:BP (d.take (k+1))=10*BP (d.take k)+(b.toNat-48):=by rw[GE oE,JU]
  by_cases hd:48≤b.toNat∧b.toNat≤57
  ·have nR:=fM hI oE (Yg hd.1 hd.2)
   clear py ri
   generalize BP (d.take k)=n at *
   have sM:=fN hd.1 hd.2
   repeat'(first|((first|(refine o8 (x:=b) oE (by omega) ?_) |refine S2 ?_|(refine T6 ?_ ?_<;>intro h<;>try exact V1 h)|intro el ke kg|intro el ke|exact T4|refine T5 ?_ ?_|intro ex)<;>try conv=>whnf)|rw[sM])
   all_goals first
    |exact⟨k+1,⟨by omega,nR⟩,by omega,B0 h0 rfl ⟨rfl,rfl,congrArg (fun z:Int=>some (AV.i z)) (by rw[li];omega),rfl,trivial⟩ trivial rfl rfl rfl⟩
    |(exfalso;omega)
  ·have lG:=iq oE (decide_eq_false hd)
   rw[if_neg lG]
   repeat'((first|(refine o8 (x:=b) oE (by omega) ?_) |refine S2 ?_|(refine T6 ?_ ?_<;>intro h<;>try exact V1 h)|intro el ke kg|intro el ke|exact T4|refine T5 ?_ ?_|intro ex)<;>try conv=>whnf)
   all_goals first
    |exact O3 rfl rfl rfl
    |(exfalso;omega)
 ·obtain rfl:k=d.length:=by omega
  rw[List.take_length]at *
  rw[if_pos hI]
  have r2:=ri (BP d) (by omega) (by omega)
  have r3:=ri (-(BP d:Int)) (by omega) (by omega)
  clear py ri
  generalize BP d=n at *
  repeat'((first|refine A0 r2 ?_|refine A0 r3 ?_ |refine S2 ?_|(refine T6 ?_ ?_<;>intro h<;>try exact V1 h)|intro el ke kg|intro el ke|exact T4|refine T5 ?_ ?_|intro ex)<;>try conv=>whnf)
  all_goals first
   |(rw[if_pos (by omega)];exact O3 rfl rfl rfl)
   |(rw[if_neg (by omega)];exact O3 rfl rfl rfl)
   |(exfalso;omega)
theorem CE{s:A5}{c:A1}{e:Int}(h:L0 s c=e)(he:e≠0):e=if L0 s c=0 then q9 s c.kids else L0 s c:=by rw[h,if_neg he]
theorem Yh(s:A5)(hr:C8 s=0)(c:A1):A4 Tryz.prog 116 [sA s,G9 c] (.i (j7 s c)):=by
 refine T8 (p:=fun c=>A4 Tryz.prog 116 [sA s,G9 c] (.i (j7 s c))) (fun c ih=>?_) c
 have oc:=fun k=>UJ s c.col k
 have xa:=Gw c.op
 have oK:∀x,s.cols[c.col.toNat]?=some x→(C7 s c.col).kind=2→0≤x.lst∧x.lst<s.lists.length:=fun x hx h2=>by
  rw[D4 hx]at h2
  have:=AA.lst hr (List.mem_of_getElem? hx) h2
  omega
 rw[T7,FI]
 refine D0 Tryz.func116 185 fun ki E h0=>?_
 have kf:c.kids.length≤9223372036854775807:=by
  have:=((ki _ (List.mem_cons_of_mem _ (List.mem_cons_self ..))).agg (.sl 6 (c.kids.map I9)) (by simp)).sl
  simpa using this
 clear ki
 repeat'((first|(refine B6 1 ?_;refine C5 (id:=1) ⟨[(2,.ref 0 0),(3,.ref 1 0),(5,.i 0),(6,.ref 2 0)],3,[(0,some (.box (sL s))),(1,some (.box (CJ c))),(2,some (.box [.i c.op,.i 0,.i 0,.i 0,.i 0,.v (.slice none 0 0)]))]⟩ ?_ ?_)|(refine B6 6 ?_;refine C5 (id:=6) ⟨[(2,.ref 0 0),(3,.ref 1 0),(5,.i 0),(6,.ref 2 0)],3,[(0,some (.box (sL s))),(1,some (.box (CJ c))),(2,some (.box [.i c.op,.i c.col,.i c.code,.i 0,.i 0,.v (.slice none 0 0)]))]⟩ ?_ ?_)|(refine B6 8 ?_;refine C5 (id:=8) ⟨[(2,.ref 0 0),(3,.ref 1 0),(5,.i 0),(6,.ref 2 0)],3,[(0,some (.box (sL s))),(1,some (.box (CJ c))),(2,some (.box [.i c.op,.i c.col,.i 0,.i c.lo,.i c.hi,.v (.slice none 0 0)]))]⟩ ?_ ?_)|(refine FV (l:=⟨some 45,_,_,_,_,_⟩::_) [2,3,5,6] ?_;(try (conv=>whnf));refine Gk ?_)|(refine FV (l:=⟨some 78,_,_,_,_,_⟩::_) [2,3] ?_;(try (conv=>whnf));refine Gk ?_)|(refine FV (l:=⟨some 148,_,_,_,_,_⟩::_) [2,3] ?_;(try (conv=>whnf));refine Gk ?_)|refine A0 (oc _) ?_|(refine Do ?_ ?_ (fun lx lr=>?_);(have:=oK _ (by assumption) (by omega);omega);(have:=oK _ (by assumption) (by omega);omega))|(refine I6 ?_ ?_;kernel_rfl) |refine S2 ?_|(refine T6 ?_ ?_<;>intro h<;>try exact V1 h)|intro el ke kg|intro el ke|exact T4|refine T5 ?_ ?_|intro ex)<;>try conv=>whnf)
 all_goals first
  |exact B0 h0 rfl ⟨rfl,rfl,rfl,rfl,trivial⟩ ⟨rfl,rfl,rfl,trivial⟩ rfl rfl rfl
  |exact A3 rfl (congrArg AV.i (CE (gq (by omega)) (by decide)))
  |exact A3 rfl (congrArg AV.i (CE (dt (by omega) (by omega)) (by decide)))
  |exact A3 rfl (congrArg AV.i (CE (du (by omega) (by omega) (by assumption)) (by decide)))
  |exact A3 rfl (congrArg AV.i (CE (dv (by omega) (by omega) (by assumption)) (by decide)))
  |exact A3 rfl (congrArg AV.i (CE (dz (by omega) (by omega) (by assumption)) (by decide)))
  |exact A3 rfl (congrArg AV.i (CE (aG (by omega) (by omega) ke (by assumption)) (by decide)))
  |exact A3 rfl (congrArg AV.i (CE (Xk (by omega) (by omega) (by omega) (by omega)) (by decide)))
  |exact A3 rfl (congrArg AV.i (CE (Xk (by omega) (by omega) (by omega) (by rw[D4 ke,M8 lr];omega)) (by decide)))
  |exact A3 rfl (congrArg AV.i (CE (gr (by omega) (by omega) (by omega) (by omega)) (by decide)))
  |(rw[if_pos (KA (s:=s) (c:=c) (by omega) (by omega))];refine D5 (ι:=Nat) (fun k=>⟨[(2,.ref 0 0),(3,.ref 1 0),(7,.i k)],2,[(0,some (.box (sL s))),(1,some (.box (CJ c)))]⟩) (fun k=>k≤c.kids.length∧q9 s c.kids=q9 s (c.kids.drop k)) (fun k=>c.kids.length-k) 0 ⟨Nat.zero_le _,rfl⟩ (B2 h0) (fun k hI=>?_))
  |(rw[if_pos (UG (s:=s) (c:=c) (by omega) (by omega) (by omega) (by rw[D4 ke,M8 lr];omega))];refine D5 (ι:=Nat) (fun k=>⟨[(2,.ref 0 0),(3,.ref 1 0),(7,.i k)],2,[(0,some (.box (sL s))),(1,some (.box (CJ c)))]⟩) (fun k=>k≤c.kids.length∧q9 s c.kids=q9 s (c.kids.drop k)) (fun k=>c.kids.length-k) 0 ⟨Nat.zero_le _,rfl⟩ (B2 h0) (fun k hI=>?_))
  |(rw[if_pos (UH (s:=s) (c:=c) (by omega) (by omega) (by omega) (by omega))];refine D5 (ι:=Nat) (fun k=>⟨[(2,.ref 0 0),(3,.ref 1 0),(7,.i k)],2,[(0,some (.box (sL s))),(1,some (.box (CJ c)))]⟩) (fun k=>k≤c.kids.length∧q9 s c.kids=q9 s (c.kids.drop k)) (fun k=>c.kids.length-k) 0 ⟨Nat.zero_le _,rfl⟩ (B2 h0) (fun k hI=>?_))
  |(rw[if_pos (UI (s:=s) (c:=c) (by omega) (by omega) (by omega) ke (by assumption))];refine D5 (ι:=Nat) (fun k=>⟨[(2,.ref 0 0),(3,.ref 1 0),(7,.i k)],2,[(0,some (.box (sL s))),(1,some (.box (CJ c)))]⟩) (fun k=>k≤c.kids.length∧q9 s c.kids=q9 s (c.kids.drop k)) (fun k=>c.kids.length-k) 0 ⟨Nat.zero_le _,rfl⟩ (B2 h0) (fun k hI=>?_))
 all_goals
  obtain⟨hk,hI⟩:=hI
  clear oc xa oK
  repeat'((first|(refine A0 (ih _ (List.mem_of_getElem? (by assumption))) ?_)|(refine I6 ?_ ?_;kernel_rfl) |refine S2 ?_|(refine T6 ?_ ?_<;>intro h<;>try exact V1 h)|intro el ke kg|intro el ke|exact T4|refine T5 ?_ ?_|intro ex)<;>try conv=>whnf)
 all_goals first
  |exact A3 rfl (congrArg AV.i (by rw[hI,O6 (by assumption),q9,if_neg (by assumption)]))
  |exact A3 rfl (congrArg AV.i (by rw[hI,Bh (by assumption)];rfl))
  |exact⟨k+1,⟨by omega,by rw[hI,O6 (by assumption),q9,if_pos (Decidable.of_not_not (by assumption))]⟩,by omega,B2 h0⟩
theorem Bs(s:A5)(c:A1):A4 Tryz.prog 75 [sA s,G9 c] (.i (G6 s c)):=by
 have h1:=v7 s
 have h2:=RF c 41 (by omega) (by omega)
 have h3:(J0 c:Int)≤40→A4 Tryz.prog 115 [G9 c] (.i (Q2 c)):=fun h=>TJ c (by have:=UF c;omega)
 have h4:=fun hr=>Yh s hr c
 have t1:=aI c 41 (by omega)
 rw[T7]at *
 refine D0 Tryz.func75 20 fun ki E h0=>?_
 clear ki
 unfold G6
 repeat'((first|refine A0 h1 ?_|refine A0 h2 ?_|refine A0 (h3 (by omega)) ?_|refine A0 (h4 (Decidable.of_not_not (by assumption))) ?_ |refine S2 ?_|(refine T6 ?_ ?_<;>intro h<;>try exact V1 h)|intro el ke kg|intro el ke|exact T4|refine T5 ?_ ?_|intro ex)<;>try conv=>whnf)
 all_goals first
  |exact A3 rfl (congrArg AV.i (by rw[if_neg (by assumption)]))
  |exact A3 rfl (congrArg AV.i (by rw[if_pos (Decidable.of_not_not (by assumption)),if_pos (by omega)]))
  |exact A3 rfl (congrArg AV.i (by rw[if_pos (Decidable.of_not_not (by assumption)),if_neg (by omega),if_pos (by omega)]))
  |exact A3 rfl (congrArg AV.i (by rw[if_pos (Decidable.of_not_not (by assumption)),if_neg (by omega),if_neg (by omega)]))
theorem V0{P:Program}{t T i u v sz τ:Nat}{l:List AV}{a b c r:AV}{σ:St}[tv:K1 P T true sz](h:Go.Av.look σ.sl t=some (.ref i 0))(hb:A7 σ.hp i=some (.bx τ l))(hl:Nat.beq l.length sz=true)(na:NL (.agg (Cp σ.hp [] l)) a)(h2:(Go.Av.look σ.sl u).map (L8 σ.hp [])=some b)(h3:(Go.Av.look σ.sl v).map (L8 σ.hp [])=some c)(e:.tup [a,b,c]=r):E7 P #[.cell t T,.tmp u,.tmp v] r .ret σ :=
 K0 (rs:=[.cell t T,.tmp u,.tmp v]) (vs:=[a,b,c]) rfl ⟨⟨i,τ,l,sz,h,hb,tv,Nat.eq_of_beq_eq_true hl,na⟩,⟨b,h2,.refl _⟩,⟨c,h3,.refl _⟩,trivial⟩ e
theorem U8(t:List UInt8)(n:Int):(t.take ((t.length:Nat):Int).toNat).drop n.toNat=t.drop n.toNat:=by simp
theorem HG(p:UInt8→Bool)(t:List UInt8)(n:Nat)(h:n=(t.takeWhile p).length):t.drop n=t.dropWhile p:=by
 subst h
 conv=>lhs;arg 2;rw[←List.takeWhile_append_dropWhile (p:=p) (l:=t)]
 rw[List.drop_left]
theorem AR{w t:List UInt8}(h:(A8 w t).2=true):(A8 w t).1=t.drop w.length∧w.length≤t.length:=by
 have e:=N4 h
 refine⟨?_,?_⟩
 ·conv=>rhs;rw[e]
  rw[List.drop_left]
 ·have:=congrArg List.length e
  rw[List.length_append]at this
  omega
abbrev AY:List AV:=[.i 0,.i 0,.i 0,.i 0,.i 0,.v (.slice none 0 0)]
theorem TX(s:A5)(hr:C8 s=0)(t:List UInt8)(ht:t.length≤140737488355328):A4 Tryz.prog 186 [sA s,.str t] (.tup [G9 (FA s t).1,.str (FA s t).2.1,.b (FA s t).2.2]):=by
 have r1:=Da t (by omega)
 have r2:=BM s (t.takeWhile J9)
 have lz:=fun h=>(GI (s:=s) (n:=t.takeWhile J9) h).2
 have hd:=HG J9 t ((((t.takeWhile J9).length:Nat):Int).toNat) (by omega)
 have wP:=J7 J9 t
 have rN:=P7 J9 t
 unfold FA
 generalize t.takeWhile J9=nm at *
 generalize F0 s nm=col at *
 by_cases hc:col<0
 ·rw[if_pos hc]
  refine D0 Tryz.func186 120 fun ki E h0=>?_
  clear ki
  repeat'((first|refine A0 r1 ?_|refine A0 r2 ?_ |refine S2 ?_|(refine T6 ?_ ?_<;>intro h<;>try exact V1 h)|intro el ke kg|intro el ke|exact T4|refine T5 ?_ ?_|intro ex)<;>try conv=>whnf)
  all_goals first
   |exact V0 rfl rfl rfl (I4 0 0 0 0 0) rfl rfl rfl
   |(exfalso;omega)
 rw[if_neg hc]
 have ku:=lz (by omega)
 clear lz
 obtain⟨x,hx⟩:∃x,s.cols[col.toNat]?=some x:=⟨_,List.getElem?_eq_getElem (by omega)⟩
 generalize t.dropWhile J9=v at *
 have p1:=L5 v S0 (by omega) (by decide)
 have p2:=L5 v K3 (by omega) (by decide)
 have p3:=L5 v I3 (by omega) (by decide)
 have p4:A4 Tryz.prog 153 [sA s,.i col,.i 2] (.b (decide (x.kind=2))):=(UJ s col 2).congr (congrArg AV.b (by unfold u5;rw[D4 hx,decide_eq_decide];omega))
 unfold CY
 by_cases hM:(A8 S0 v).2=true
 ·rw[if_pos hM]
  obtain⟨e1,e2⟩:=AR hM
  rw[hM]at p1
  rw[e1]
  have e3:v.drop (Int.toNat 8)=v.drop S0.length:=rfl
  have e2:8≤v.length:=e2
  generalize v.drop S0.length=u at *
  clear p2 p3 p4
  refine D0 Tryz.func186 120 fun ki E h0=>?_
  clear ki
  repeat'(first|((first|refine A0 r1 ?_|refine A0 r2 ?_|refine A0 p1 ?_|(refine B6 9 ?_;refine C5 (id:=9) ⟨[(4,.ref 1 0),(5,.str u),(6,.b true)],3,[(1,some (.box [.i 4,.i col,.i 0,.i 0,.i 0,.v (.slice none 0 0)]))]⟩ ?_ ?_) |refine S2 ?_|(refine T6 ?_ ?_<;>intro h<;>try exact V1 h)|intro el ke kg|intro el ke|exact T4|refine T5 ?_ ?_|intro ex)<;>try conv=>whnf)|rw[U8]|rw[hd])
  all_goals first
   |exact B0 h0 rfl ⟨rfl,congrArg (fun z=>some (AV.str z)) (by first|exact e3|rw[U8,e3]),rfl,trivial⟩ ⟨rfl,trivial⟩ rfl rfl rfl
   |exact V0 rfl rfl rfl (I4 4 col 0 0 0) rfl rfl rfl
   |(exfalso;omega)
 rw[if_neg hM]
 rw[show (A8 S0 v).2=false from eq_false_of_ne_true hM]at p1
 by_cases hU:(A8 K3 v).2=true∧(C7 s col).kind=2
 ·rw[if_pos hU]
  obtain⟨wn,uh⟩:=hU
  rw[D4 hx]at uh ⊢
  have hl:=AA.lst hr (List.mem_of_getElem? hx) uh
  obtain⟨lx,lr⟩:∃l,s.lists[x.lst.toNat]?=some l:=⟨_,List.getElem?_eq_getElem (by omega)⟩
  rw[M8 lr]
  have mz:chk lx.1 lx.2=0:=(Q5 hr).2.2.1 _ (List.mem_of_getElem? lr)
  have hg:=Gt mz
  obtain⟨e1,e2⟩:=AR wn
  rw[wn]at p2
  rw[uh]at p4
  rw[e1]
  have e3:v.drop (Int.toNat 7)=v.drop K3.length:=rfl
  have e2:7≤v.length:=e2
  have vX:(v.drop K3.length).length≤v.length:=by simp
  have e4:=fun (n:Nat)=>show (v.drop K3.length).drop n=v.drop (Int.toNat (7+(n:Int))) by
   rw[List.drop_drop];rfl
  generalize v.drop K3.length=u at *
  have r3:=Da u (by omega)
  have r4:=Vx lx.1 lx.2 (u.takeWhile J9) (by omega)
  have e5:=HG J9 u (u.takeWhile J9).length rfl
  have e6:=P7 J9 u
  rw[e4]at e5
  generalize u.takeWhile J9=cw at *
  generalize u.dropWhile J9=rest at *
  generalize z8 lx.1 lx.2 cw=code at *
  have e7:cw.length+7≤v.length:=by
   have:=congrArg List.length e3
   rw[List.length_drop]at this
   have h7:(Int.toNat 7)=7:=rfl
   omega
  clear p3 e4
  refine D0 Tryz.func186 120 fun ki E h0=>?_
  clear ki
  repeat'(first|((first|refine A0 r1 ?_|refine A0 r2 ?_|refine A0 p1 ?_|refine A0 p2 ?_|refine A0 p4 ?_|refine A0 r3 ?_|refine A0 r4 ?_|(refine A2 (x:=x) hx (by omega) ?_)|(refine A2 (x:=lx) lr (by omega) ?_)|(refine B6 12 ?_;refine F5 (id:=12) (σ':=⟨[(2,.iptr (sL s)),(4,.ref 1 0),(8,.i col),(9,.str v),(10,.ref 2 0),(11,.str cw)],3,[(1,some (.box AY)),(2,some (.box [.i 0,.i col,.i 0,.i 0,.i 0,.v (.slice none 0 0)]))]⟩) (B2 h0) ?_;refine C5 (id:=12) ⟨[(4,.ref 1 0),(9,.str v),(10,.ref 2 0),(11,.str cw)],3,[(1,some (.box AY)),(2,some (.box [.i 2,.i col,.i code,.i 0,.i 0,.v (.slice none 0 0)]))]⟩ ?_ ?_)|(refine B6 13 ?_;refine C5 (id:=13) ⟨[(4,.ref 1 0),(5,.str rest),(6,.b (decide (0≤code)))],3,[(1,some (.box [.i 2,.i col,.i code,.i 0,.i 0,.v (.slice none 0 0)]))]⟩ ?_ ?_) |refine S2 ?_|(refine T6 ?_ ?_<;>intro h<;>try exact V1 h)|intro el ke kg|intro el ke|exact T4|refine T5 ?_ ?_|intro ex)<;>try conv=>whnf)|rw[U8]|rw[hd]|rw[e3])
  all_goals first
   |exact B0 h0 rfl ⟨rfl,rfl,rfl,rfl,trivial⟩ ⟨rfl,rfl,trivial⟩ rfl rfl rfl
   |exact B0 h0 rfl ⟨rfl,congrArg (fun z=>some (AV.str z)) (by first|exact e5|rw[U8,e5]),rfl,trivial⟩ ⟨rfl,trivial⟩ rfl rfl rfl
   |exact V0 rfl rfl rfl (I4 2 col code 0 0) rfl rfl rfl
   |(exfalso;omega)
 rw[if_neg hU]
 rw[D4 hx]at hU
 generalize (A8 K3 v).2=b2 at *
 by_cases hF:(A8 I3 v).2=true
 ·rw[if_pos hF]
  obtain⟨e1,e2⟩:=AR hF
  rw[hF]at p3
  rw[e1]
  have e3:v.drop (Int.toNat 6)=v.drop I3.length:=rfl
  have e2:6≤v.length:=e2
  have vX:(v.drop I3.length).length≤v.length:=by simp
  have e4:=fun (n:Nat)=>show (v.drop I3.length).drop n=v.drop (Int.toNat (6+(n:Int))) by
   rw[List.drop_drop];rfl
  generalize v.drop I3.length=u at *
  have r3:=Da u (by omega)
  have e5:=HG J9 u (u.takeWhile J9).length rfl
  have e6:=P7 J9 u
  have e9:=J7 J9 u
  rw[e4]at e5
  generalize u.takeWhile J9=lw at *
  generalize u.dropWhile J9=y at *
  have e7:lw.length+6≤v.length:=by
   have:=congrArg List.length e3
   rw[List.length_drop]at this
   have h7:(Int.toNat 6)=6:=rfl
   omega
  clear e4
  have p5:=L5 y e8 (by omega) (by decide)
  by_cases hT:(A8 e8 y).2=true
  ·rw[if_pos hT]
   obtain⟨f1,f2⟩:=AR hT
   rw[hT]at p5
   rw[f1]
   have f3:y.drop (Int.toNat 4)=y.drop e8.length:=rfl
   have f2:4≤y.length:=f2
   have wj:(y.drop e8.length).length≤y.length:=by simp
   have f4:=fun (n:Nat)=>show (y.drop e8.length).drop n=y.drop (Int.toNat (4+(n:Int))) by
    rw[List.drop_drop];rfl
   generalize y.drop e8.length=z at *
   have r5:=Da z (by omega)
   have f5:=HG J9 z (z.takeWhile J9).length rfl
   have f6:=P7 J9 z
   rw[f4]at f5
   generalize z.takeWhile J9=hw at *
   generalize z.dropWhile J9=rest at *
   have f7:hw.length+4≤y.length:=by
    have:=congrArg List.length f3
    rw[List.length_drop]at this
    have h7:(Int.toNat 4)=4:=rfl
    omega
   clear f4
   have n1:=An lw (by omega)
   have n2:=An hw (by omega)
   generalize I5 lw=q1 at *
   generalize I5 hw=q2 at *
   obtain⟨lo,o1⟩:=q1
   obtain⟨hi,o2⟩:=q2
   dsimp only at *
   obtain⟨ob,xA⟩:∃b,(o1 && o2)=b:=⟨_,rfl⟩
   rw[xA]
   refine D0 Tryz.func186 120 fun ki E h0=>?_
   clear ki
   repeat'(first|((first|refine A0 r1 ?_|refine A0 r2 ?_|refine A0 p1 ?_|refine A0 p2 ?_|refine A0 p4 ?_|refine A0 p3 ?_|refine A0 p5 ?_|refine A0 r3 ?_|refine A0 r5 ?_|refine A0 n1 ?_|refine A0 n2 ?_|(refine B6 23 ?_;refine F5 (id:=23) (σ':=⟨[(4,.ref 1 0),(9,.str y),(10,.iptr [.i 3,.i col,.i 0,.i lo,.i hi,.v (.slice none 0 0)]),(13,.str hw),(15,.b o1),(17,.b o2)],3,[(1,some (.box AY))]⟩) (B2 h0) ?_;refine Bg (id:=23) ⟨[(4,.ref 1 0),(5,.str rest),(6,.b ob)],3,[(1,some (.box [.i 3,.i col,.i 0,.i lo,.i hi,.v (.slice none 0 0)]))]⟩ ?_ ?_) |refine S2 ?_|(refine T6 ?_ ?_<;>intro h<;>try exact V1 h)|intro el ke kg|intro el ke|exact T4|refine T5 ?_ ?_|intro ex)<;>try conv=>whnf)|rw[U8]|rw[hd]|rw[e3]|rw[e5]|rw[f3])
   all_goals first
    |exact B0 h0 rfl ⟨rfl,congrArg (fun z=>some (AV.str z)) (by first|exact f5|rw[U8,f5]),congrArg (fun z=>some (AV.b z)) (by simp_all),trivial⟩ ⟨rfl,trivial⟩ rfl rfl rfl
    |exact V0 rfl rfl rfl (I4 3 col 0 lo hi) rfl rfl rfl
    |(exfalso;simp_all;done)
  ·rw[if_neg hT]
   rw[show (A8 e8 y).2=false from eq_false_of_ne_true hT]at p5
   refine D0 Tryz.func186 120 fun ki E h0=>?_
   clear ki
   repeat'(first|((first|refine A0 r1 ?_|refine A0 r2 ?_|refine A0 p1 ?_|refine A0 p2 ?_|refine A0 p4 ?_|refine A0 p3 ?_|refine A0 p5 ?_|refine A0 r3 ?_ |refine S2 ?_|(refine T6 ?_ ?_<;>intro h<;>try exact V1 h)|intro el ke kg|intro el ke|exact T4|refine T5 ?_ ?_|intro ex)<;>try conv=>whnf)|rw[U8]|rw[hd]|rw[e3]|rw[e5])
   all_goals first
    |exact V0 rfl rfl rfl (I4 0 col 0 0 0) rfl rfl rfl
    |(exfalso;simp_all;done)
 rw[if_neg hF]
 rw[show (A8 I3 v).2=false from eq_false_of_ne_true hF]at p3
 refine D0 Tryz.func186 120 fun ki E h0=>?_
 clear ki
 repeat'(first|((first|refine A0 r1 ?_|refine A0 r2 ?_|refine A0 p1 ?_|refine A0 p2 ?_|refine A0 p4 ?_|refine A0 p3 ?_ |refine S2 ?_|(refine T6 ?_ ?_<;>intro h<;>try exact V1 h)|intro el ke kg|intro el ke|exact T4|refine T5 ?_ ?_|intro ex)<;>try conv=>whnf)|rw[U8]|rw[hd])
 all_goals first
  |exact V0 rfl rfl rfl (I4 0 col 0 0 0) rfl rfl rfl
  |(exfalso;simp_all;done)
end Go.Proofs.YtkcekccdcpmekaaGreatDoor
