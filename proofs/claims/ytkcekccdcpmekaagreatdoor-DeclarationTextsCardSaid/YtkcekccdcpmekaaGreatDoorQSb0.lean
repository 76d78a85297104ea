/- Chapter 8: the program's reader of declarations: Parse. -/
import Derived.Test.YtkcekccdcpmekaaGreatDoorQQr5
import Derived.Test.YtkcekccdcpmekaaGreatDoorQQn1
import Derived.Test.YtkcekccdcpmekaaGreatDoorQE3
import Derived.Lib.Builder
import Derived.Lib.UnsafeStr
import Derived.Test.YtkcekccdcpmekaaGreatDoorQAvTy
import Derived.Test.YtkcekccdcpmekaaGreatDoorQSh
set_option linter.unusedVariables false
set_option linter.unnecessarySimpa false
set_option linter.unusedSimpArgs false
set_option maxHeartbeats 64000000
namespace Go.Proofs.YtkcekccdcpmekaaGreatDoor
open Go Go.Av
attribute [local irreducible] E8 B5 E5 E1 DQ E7 E9 St.le A4 A9
set_option maxRecDepth 100000
theorem AE:NL (.agg [.str [],.str [],.i 0,.i 0,.i 0,.i 0,.i 0,A6,.i 0,.i 0,.i 0,A6]) (R3 zD):=HA ⟨.refl _,.refl _,.refl _,.refl _,.refl _,.refl _,.refl _,.nil 6,.refl _,.refl _,.refl _,.nil 17,trivial⟩
theorem em(s:A5)(d:G0)(n:Nat)(t:List UInt8):(Fl s d n t).1.qs.length≤d.qs.length+1:=by
 unfold Fl R5 Fk LX
 repeat' split
 all_goals first
  |exact Nat.le_succ _
  |(rw[List.length_append,List.length_singleton];exact Nat.le_refl _)
abbrev iR(s:A5)(d:G0)(n:Nat):Hp:=[(0,some (.box (DW s d))),(1,some (.row D7 17 0 (d.qs.map C0))),(2,some (.box [.ref 0 0])),(3,some (.box [.i n]))]
theorem TU(s:A5)(d:G0)(n:Nat)(hn:1≤n∧n≤4)(t:List UInt8)(ht:t.length≤20000):A9 Tryz.prog 45 4 (iR s d n) [.str t,.ref 2 0,.ref 3 0] 4 (iR s (R5 s d n t).1 n) (.b (R5 s d n t).2):=by
 have h1:=TQ s d n hn t ht
 generalize R5 s d n t=R at *
 obtain⟨d2,b⟩:=R
 dsimp only at h1 ⊢
 refine G4 Tryz.func45 9 fun E h0=>?_
 repeat'((first|refine S2 ?_|(refine T6 ?_ ?_<;>intro h<;>try exact V1 h)|intro el ke kg|intro el ke|exact T4|refine T5 ?_ ?_|intro ex|refine nc [0,1] [0,0] h1 rfl rfl rfl ⟨rfl,rfl,trivial⟩ ?_)<;>try conv=>whnf)
 all_goals first
  |exact D9 (B2 h0)
theorem jd(w:List UInt8):Lib.cut w [10]=(w.takeWhile (B3 10),(w.dropWhile (B3 10)).drop 1,decide (w.dropWhile (B3 10)≠[])):=KE 10 w
theorem Kr(s:A5)(t0:List UInt8):A4 Tryz.prog 15 [sA s,.str t0] (.tup [R3 (JZ s t0).1,.i (JZ s t0).2.1,.i (JZ s t0).2.2]):=by
 have h1:=BJ s
 unfold JZ
 by_cases hr:¬C8 s=0
 ·rw[if_pos hr]
  generalize C8 s=e at *
  dsimp only
  refine D0 Tryz.func15 72 fun ki E h0=>?_
  clear ki
  repeat'((first|refine A0 h1 ?_ |refine S2 ?_|(refine T6 ?_ ?_<;>intro h<;>try exact V1 h)|intro el ke kg|intro el ke|exact T4|refine T5 ?_ ?_|intro ex)<;>try conv=>whnf)
  all_goals first
   |(exfalso;omega)
   |exact K0 (rs:=[.cell 4 P9,.tmp 5,.tmp 6]) (vs:=[_,_,_]) rfl ⟨H0 rfl rfl rfl AE,⟨_,rfl,.refl _⟩,⟨_,rfl,.refl _⟩,trivial⟩ rfl
 have sN:C8 s=0:=Decidable.of_not_not hr
 rw[if_neg hr]
 rw[sN]at h1
 by_cases hl:20000<t0.length
 ·rw[if_pos hl]
  dsimp only
  refine D0 Tryz.func15 72 fun ki E h0=>?_
  clear ki
  repeat'((first|refine A0 h1 ?_ |refine S2 ?_|(refine T6 ?_ ?_<;>intro h<;>try exact V1 h)|intro el ke kg|intro el ke|exact T4|refine T5 ?_ ?_|intro ex)<;>try conv=>whnf)
  all_goals first
   |(exfalso;omega)
   |exact K0 (rs:=[.cell 4 P9,.tmp 5,.tmp 6]) (vs:=[_,_,_]) rfl ⟨H0 rfl rfl rfl AE,⟨_,rfl,.refl _⟩,⟨_,rfl,.refl _⟩,trivial⟩ rfl
 rw[if_neg hl]
 generalize hZ:LY s (t0.length+1) zD 1 t0=Z
 obtain⟨Z1,Z2,Z3⟩:=Z
 dsimp only
 refine D0 Tryz.func15 72 fun ki E h0=>?_
 clear ki
 repeat'((first|refine A0 h1 ?_ |refine S2 ?_|(refine T6 ?_ ?_<;>intro h<;>try exact V1 h)|intro el ke kg|intro el ke|exact T4|refine T5 ?_ ?_|intro ex)<;>try conv=>whnf)
 all_goals first
  |(exfalso;omega)
  |skip
 clear h1
 refine D5 (ι:=G0×Nat×List UInt8×Nat) (fun x=>⟨[(1,.str x.2.2.1),(2,.iptr (sL s)),(4,.ref 1 0),(8,.ref 3 0),(9,.ref 4 0)],6,[(1,some (.box [.str [],.str [],.i 0,.i 0,.i 0,.i 0,.i 0,A6,.i 0,.i 0,.i 0,A6])),(2,some (.box [.sl 2 (s.lists.map R0),.sl 7 (s.cols.map M7),.str x.1.prj,.str x.1.src,.i x.1.coh.op,.i x.1.coh.col,.i x.1.coh.code,.i x.1.coh.lo,.i x.1.coh.hi,.sl 6 (x.1.coh.kids.map C3),.i x.1.part,.i x.1.of,.i x.1.seed,.row 5 0 x.1.qs.length])),(3,some (.box [.ref 2 0])),(4,some (.box [.i x.2.1])),(5,some (.row D7 17 0 (x.1.qs.map C0)))]⟩) (fun x=>x.2.2.1.length<x.2.2.2∧1≤x.2.1∧x.2.1+x.2.2.1.length≤20001∧x.1.qs.length≤x.2.1∧LY s x.2.2.2 x.1 x.2.1 x.2.2.1=(Z1,Z2,Z3)) (fun x=>x.2.2.1.length) (zD,1,t0,t0.length+1) ⟨by dsimp only;omega,by dsimp only;omega,by dsimp only;omega,by dsimp only[zD];exact Nat.zero_le _,hZ⟩
  (by refine B4 (U9 2 13 (e:=D7) (sz:=17) rfl rfl) ?_;refine B4 (a8 2 [.sl 2 (s.lists.map R0),.sl 7 (s.cols.map M7),.str [],.str [],.i 0,.i 0,.i 0,.i 0,.i 0,.sl 6 ([]:List (List AV)),.i 0,.i 0,.i 0,.row 5 0 0] rfl ⟨.refl _,.refl _,.refl _,.refl _,.refl _,.refl _,.refl _,.refl _,.refl _,.nil 6,.refl _,.refl _,.refl _,.refl _,trivial⟩) ?_;exact B0 h0 rfl ⟨rfl,rfl,rfl,rfl,rfl,trivial⟩ ⟨rfl,rfl,rfl,rfl,⟨0,rfl⟩,trivial⟩ rfl rfl rfl) (fun x hI=>?_)
 obtain⟨d,n,t,f⟩:=x
 obtain⟨i1,i2,i3,i4,i5⟩:=hI
 dsimp only at i1 i2 i3 i4 i5 ⊢
 clear hZ
 obtain⟨f,rfl⟩:∃g,f=g+1:=⟨f-1,by omega⟩
 rw[LY]at i5
 by_cases np:t=[]
 ·rw[if_pos np]at i5
  subst np
  have h1:=Gb s d
  by_cases pE:n≤4
  ·rw[if_pos pE]at i5
   cases i5
   clear h1
   repeat'((first|(refine C5 (id:=18) ⟨[(4,.ref 1 0),(5,.i n),(6,.i 11)],6,[(1,some (.box [.str [],.str [],.i 0,.i 0,.i 0,.i 0,.i 0,A6,.i 0,.i 0,.i 0,A6]))]⟩ ?_ ?_) |refine S2 ?_|(refine T6 ?_ ?_<;>intro h<;>try exact V1 h)|intro el ke kg|intro el ke|exact T4|refine T5 ?_ ?_|intro ex)<;>try conv=>whnf)
   all_goals first
    |(exfalso;omega)
    |exact B0 h0 rfl ⟨rfl,rfl,rfl,trivial⟩ ⟨rfl,trivial⟩ rfl rfl rfl
    |exact K0 (rs:=[.cell 4 P9,.tmp 5,.tmp 6]) (vs:=[_,_,_]) rfl ⟨H0 rfl rfl rfl AE,⟨_,rfl,.refl _⟩,⟨_,rfl,.refl _⟩,trivial⟩ rfl
    |contradiction
  ·rw[if_neg pE]at i5
   by_cases hd:j8 s d=0
   ·rw[if_pos hd]at i5
    simp only[Prod.mk.injEq]at i5
    obtain⟨rfl,rfl,rfl⟩:=i5
    rw[hd]at h1
    repeat'((first|(refine B6 19 ?_;refine F5 (id:=19) (σ':=⟨[(2,.iptr (sL s)),(4,.ref 1 0),(8,.ref 3 0)],6,[(1,some (.box [.str [],.str [],.i 0,.i 0,.i 0,.i 0,.i 0,A6,.i 0,.i 0,.i 0,A6])),(3,some (.box [.iptr [.sl 2 (s.lists.map R0),.sl 7 (s.cols.map M7),.str d.prj,.str d.src,.i d.coh.op,.i d.coh.col,.i d.coh.code,.i d.coh.lo,.i d.coh.hi,.sl 6 (d.coh.kids.map C3),.i d.part,.i d.of,.i d.seed,.sl 17 (d.qs.map C0)]]))]⟩) (B4 (B0 (σ':=⟨[(2,.iptr (sL s)),(4,.ref 1 0),(8,.ref 3 0)],6,[(1,some (.box [.str [],.str [],.i 0,.i 0,.i 0,.i 0,.i 0,A6,.i 0,.i 0,.i 0,A6])),(2,some (.box [.sl 2 (s.lists.map R0),.sl 7 (s.cols.map M7),.str d.prj,.str d.src,.i d.coh.op,.i d.coh.col,.i d.coh.code,.i d.coh.lo,.i d.coh.hi,.sl 6 (d.coh.kids.map C3),.i d.part,.i d.of,.i d.seed,.sl 17 (d.qs.map C0)])),(3,some (.box [.ref 2 0]))]⟩) h0 rfl ⟨rfl,rfl,rfl,trivial⟩ ⟨rfl,rfl,rfl,trivial⟩ rfl rfl rfl) (B2 h0)) ?_;refine C5 (id:=19) ⟨[(2,.iptr (sL s)),(4,.ref 1 0),(8,.ref 3 0),(14,.i 0)],6,[(1,some (.box [.str [],.str [],.i 0,.i 0,.i 0,.i 0,.i 0,A6,.i 0,.i 0,.i 0,A6])),(3,some (.box [.iptr [.sl 2 (s.lists.map R0),.sl 7 (s.cols.map M7),.str d.prj,.str d.src,.i d.coh.op,.i d.coh.col,.i d.coh.code,.i d.coh.lo,.i d.coh.hi,.sl 6 (d.coh.kids.map C3),.i d.part,.i d.of,.i d.seed,.sl 17 (d.qs.map C0)]]))]⟩ ?_ ?_)|refine A0 h1 ?_ |refine S2 ?_|(refine T6 ?_ ?_<;>intro h<;>try exact V1 h)|intro el ke kg|intro el ke|exact T4|refine T5 ?_ ?_|intro ex)<;>try conv=>whnf)
    all_goals first
     |(exfalso;omega)
     |exact B0 h0 rfl ⟨rfl,rfl,rfl,rfl,trivial⟩ ⟨rfl,rfl,trivial⟩ rfl rfl rfl
     |exact K0 (rs:=[.cell 4 P9,.tmp 5,.tmp 6]) (vs:=[_,_,_]) rfl ⟨H0 rfl rfl rfl (.refl _),⟨_,rfl,.refl _⟩,⟨_,rfl,.refl _⟩,trivial⟩ rfl
     |contradiction
   ·rw[if_neg hd]at i5
    cases i5
    generalize j8 s d=e at *
    repeat'((first|(refine B6 19 ?_;refine F5 (id:=19) (σ':=⟨[(2,.iptr (sL s)),(4,.ref 1 0),(8,.ref 3 0)],6,[(1,some (.box [.str [],.str [],.i 0,.i 0,.i 0,.i 0,.i 0,A6,.i 0,.i 0,.i 0,A6])),(3,some (.box [.iptr [.sl 2 (s.lists.map R0),.sl 7 (s.cols.map M7),.str d.prj,.str d.src,.i d.coh.op,.i d.coh.col,.i d.coh.code,.i d.coh.lo,.i d.coh.hi,.sl 6 (d.coh.kids.map C3),.i d.part,.i d.of,.i d.seed,.sl 17 (d.qs.map C0)]]))]⟩) (B4 (B0 (σ':=⟨[(2,.iptr (sL s)),(4,.ref 1 0),(8,.ref 3 0)],6,[(1,some (.box [.str [],.str [],.i 0,.i 0,.i 0,.i 0,.i 0,A6,.i 0,.i 0,.i 0,A6])),(2,some (.box [.sl 2 (s.lists.map R0),.sl 7 (s.cols.map M7),.str d.prj,.str d.src,.i d.coh.op,.i d.coh.col,.i d.coh.code,.i d.coh.lo,.i d.coh.hi,.sl 6 (d.coh.kids.map C3),.i d.part,.i d.of,.i d.seed,.sl 17 (d.qs.map C0)])),(3,some (.box [.ref 2 0]))]⟩) h0 rfl ⟨rfl,rfl,rfl,trivial⟩ ⟨rfl,rfl,rfl,trivial⟩ rfl rfl rfl) (B2 h0)) ?_;refine C5 (id:=19) ⟨[(2,.iptr (sL s)),(4,.ref 1 0),(8,.ref 3 0),(14,.i e)],6,[(1,some (.box [.str [],.str [],.i 0,.i 0,.i 0,.i 0,.i 0,A6,.i 0,.i 0,.i 0,A6])),(3,some (.box [.iptr [.sl 2 (s.lists.map R0),.sl 7 (s.cols.map M7),.str d.prj,.str d.src,.i d.coh.op,.i d.coh.col,.i d.coh.code,.i d.coh.lo,.i d.coh.hi,.sl 6 (d.coh.kids.map C3),.i d.part,.i d.of,.i d.seed,.sl 17 (d.qs.map C0)]]))]⟩ ?_ ?_)|refine A0 h1 ?_ |refine S2 ?_|(refine T6 ?_ ?_<;>intro h<;>try exact V1 h)|intro el ke kg|intro el ke|exact T4|refine T5 ?_ ?_|intro ex)<;>try conv=>whnf)
    all_goals first
     |(exfalso;omega)
     |exact B0 h0 rfl ⟨rfl,rfl,rfl,rfl,trivial⟩ ⟨rfl,rfl,trivial⟩ rfl rfl rfl
     |exact K0 (rs:=[.cell 4 P9,.tmp 5,.tmp 6]) (vs:=[_,_,_]) rfl ⟨H0 rfl rfl rfl AE,⟨_,rfl,.refl _⟩,⟨_,rfl,.refl _⟩,trivial⟩ rfl
     |contradiction
 rw[if_neg np]at i5
 have c1:=Ay t [10] (by omega)
 rw[jd]at c1
 have ue:=P7 (B3 10) t
 have uL:=J7 (B3 10) t
 have sc:((t.dropWhile (B3 10)).drop 1).length<t.length:=by
  rw[List.length_drop]
  have:0<t.length:=List.length_pos_iff.2 np
  omega
 have nB:=em s d n (t.takeWhile (B3 10))
 by_cases mF:t.dropWhile (B3 10)=[]
 ·rw[if_pos (.inl mF)]at i5
  cases i5
  rw[mF]at c1
  rw[show decide (¬([]:List UInt8)=[])=false from rfl]at c1
  generalize t.takeWhile (B3 10)=l at *
  repeat'((first|(refine C5 (id:=15) ⟨[(4,.ref 1 0),(5,.i n),(6,.i 11)],6,[(1,some (.box [.str [],.str [],.i 0,.i 0,.i 0,.i 0,.i 0,A6,.i 0,.i 0,.i 0,A6]))]⟩ ?_ ?_)|refine A0 c1 ?_ |refine S2 ?_|(refine T6 ?_ ?_<;>intro h<;>try exact V1 h)|intro el ke kg|intro el ke|exact T4|refine T5 ?_ ?_|intro ex|refine FS rfl rfl ?_|refine FR rfl rfl ?_)<;>try conv=>whnf)
  all_goals first
   |(exfalso;omega)
   |exact B0 h0 rfl ⟨rfl,rfl,rfl,trivial⟩ ⟨rfl,trivial⟩ rfl rfl rfl
   |exact K0 (rs:=[.cell 4 P9,.tmp 5,.tmp 6]) (vs:=[_,_,_]) rfl ⟨H0 rfl rfl rfl AE,⟨_,rfl,.refl _⟩,⟨_,rfl,.refl _⟩,trivial⟩ rfl
   |contradiction
 have pO:decide (t.dropWhile (B3 10)≠[])=true:=decide_eq_true mF
 rw[pO]at c1
 unfold Fl at i5 nB
 generalize (t.dropWhile (B3 10)).drop 1=t2 at *
 by_cases pE:n≤4
 ·simp only[if_pos pE]at i5 nB
  have c2:=TU s d n ⟨i2,pE⟩ (t.takeWhile (B3 10)) (by omega)
  generalize t.takeWhile (B3 10)=l at *
  generalize R5 s d n l=R at *
  obtain⟨d2,b⟩:=R
  dsimp only at c2 i5 nB
  cases b with
  |false =>
   rw[if_pos (.inr rfl)]at i5
   cases i5
   repeat'((first|(refine C5 (id:=15) ⟨[(4,.ref 1 0),(5,.i n),(6,.i 11)],6,[(1,some (.box [.str [],.str [],.i 0,.i 0,.i 0,.i 0,.i 0,A6,.i 0,.i 0,.i 0,A6]))]⟩ ?_ ?_)|refine A0 c1 ?_ |refine S2 ?_|(refine T6 ?_ ?_<;>intro h<;>try exact V1 h)|intro el ke kg|intro el ke|exact T4|refine T5 ?_ ?_|intro ex|refine FS rfl rfl ?_|refine FR rfl rfl ?_|(refine⟨?_⟩;refine Tr [2,5,3,4] [0,0,0,0] c2 rfl rfl rfl rfl rfl rfl ⟨rfl,rfl,rfl,rfl,trivial⟩ rfl rfl rfl rfl rfl ?_))<;>try conv=>whnf)
   all_goals first
    |(exfalso;omega)
    |exact B0 h0 rfl ⟨rfl,rfl,rfl,trivial⟩ ⟨rfl,trivial⟩ rfl rfl rfl
    |exact K0 (rs:=[.cell 4 P9,.tmp 5,.tmp 6]) (vs:=[_,_,_]) rfl ⟨H0 rfl rfl rfl AE,⟨_,rfl,.refl _⟩,⟨_,rfl,.refl _⟩,trivial⟩ rfl
    |contradiction
  |true =>
   rw[if_neg (by rintro (h|h);(exact mF h);cases h)]at i5
   clear pO mF
   have vW:(n:Int)≤20001:=by omega
   have hA:t2.length<f:=by omega
   have hB:1≤n+1:=by omega
   have hC:n+1+t2.length≤20001:=by omega
   have hD:d2.qs.length≤n+1:=by omega
   have hE:(((n+1:Nat):Int))=(n:Int)+1:=by omega
   repeat'((first|refine A0 c1 ?_|(refine E0 ?_ ?_;(clear i5 nB c1;constructor<;>omega)) |refine S2 ?_|(refine T6 ?_ ?_<;>intro h<;>try exact V1 h)|intro el ke kg|intro el ke|exact T4|refine T5 ?_ ?_|intro ex|refine FS rfl rfl ?_|refine FR rfl rfl ?_|(refine⟨?_⟩;refine Tr [2,5,3,4] [0,0,0,0] c2 rfl rfl rfl rfl rfl rfl ⟨rfl,rfl,rfl,rfl,trivial⟩ rfl rfl rfl rfl rfl ?_))<;>try conv=>whnf)
   all_goals first
    |(exfalso;omega)
    |exact⟨(d2,n+1,t2,f),⟨hA,hB,hC,hD,i5⟩,sc,B0 h0 rfl ⟨rfl,rfl,rfl,rfl,rfl,trivial⟩ ⟨rfl,rfl,rfl,congrArg (fun z:Int=>G1.box [.i z]) hE,⟨_,rfl⟩,trivial⟩ rfl rfl rfl⟩
    |contradiction
 ·simp only[if_neg pE]at i5 nB
  have c2:=Nw s sN d (t.takeWhile (B3 10)) (by omega) (by omega)
  generalize t.takeWhile (B3 10)=l at *
  generalize Fk s d l=R at *
  obtain⟨d2,b⟩:=R
  dsimp only at c2 i5 nB
  cases b with
  |false =>
   rw[if_pos (.inr rfl)]at i5
   cases i5
   repeat'((first|(refine C5 (id:=15) ⟨[(4,.ref 1 0),(5,.i n),(6,.i 11)],6,[(1,some (.box [.str [],.str [],.i 0,.i 0,.i 0,.i 0,.i 0,A6,.i 0,.i 0,.i 0,A6]))]⟩ ?_ ?_)|refine A0 c1 ?_ |refine S2 ?_|(refine T6 ?_ ?_<;>intro h<;>try exact V1 h)|intro el ke kg|intro el ke|exact T4|refine T5 ?_ ?_|intro ex|refine FS rfl rfl ?_|refine FR rfl rfl ?_|(refine⟨?_⟩;refine Ts [2,5] [0,0] c2 rfl rfl rfl rfl rfl rfl ⟨rfl,rfl,trivial⟩ rfl rfl rfl rfl rfl ?_))<;>try conv=>whnf)
   all_goals first
    |(exfalso;omega)
    |exact B0 h0 rfl ⟨rfl,rfl,rfl,trivial⟩ ⟨rfl,trivial⟩ rfl rfl rfl
    |exact K0 (rs:=[.cell 4 P9,.tmp 5,.tmp 6]) (vs:=[_,_,_]) rfl ⟨H0 rfl rfl rfl AE,⟨_,rfl,.refl _⟩,⟨_,rfl,.refl _⟩,trivial⟩ rfl
    |contradiction
  |true =>
   rw[if_neg (by rintro (h|h);(exact mF h);cases h)]at i5
   clear pO mF
   have vW:(n:Int)≤20001:=by omega
   have hA:t2.length<f:=by omega
   have hB:1≤n+1:=by omega
   have hC:n+1+t2.length≤20001:=by omega
   have hD:d2.qs.length≤n+1:=by omega
   have hE:(((n+1:Nat):Int))=(n:Int)+1:=by omega
   repeat'((first|refine A0 c1 ?_|(refine E0 ?_ ?_;(clear i5 nB c1;constructor<;>omega)) |refine S2 ?_|(refine T6 ?_ ?_<;>intro h<;>try exact V1 h)|intro el ke kg|intro el ke|exact T4|refine T5 ?_ ?_|intro ex|refine FS rfl rfl ?_|refine FR rfl rfl ?_|(refine⟨?_⟩;refine Ts [2,5] [0,0] c2 rfl rfl rfl rfl rfl rfl ⟨rfl,rfl,trivial⟩ rfl rfl rfl rfl rfl ?_))<;>try conv=>whnf)
   all_goals first
    |(exfalso;omega)
    |exact⟨(d2,n+1,t2,f),⟨hA,hB,hC,hD,i5⟩,sc,B0 h0 rfl ⟨rfl,rfl,rfl,rfl,rfl,trivial⟩ ⟨rfl,rfl,rfl,congrArg (fun z:Int=>G1.box [.i z]) hE,⟨_,rfl⟩,trivial⟩ rfl rfl rfl⟩
    |contradiction
end Go.Proofs.YtkcekccdcpmekaaGreatDoor
namespace Go.Av
open Go Go.RowKit
section
variable {P:Program} {E:Env} {n:Nat} {ops:Array Oper} {rest:List Oper} {σ:St} {K:St→Prop} {d:Nat} {ty:TypeId} {pos:String} {after:Array Edge} {x y:Operand} {L:List AV}
theorem EO{T:TypeId}{l:List Value}[tz:K4 P T l](hd:Nat.blt d n=true)
  (k:B5 P E n ops rest ((σ.new (.bx (T+1) (l.map w8))).put d (.ref σ.nx 0)) K):B5 P E n ops (⟨some d,.alloc T,ty,pos,after,none⟩::rest) σ K :=
 Cb hd (fun θ a w h=>by
  obtain⟨i,z,h1,h2,h3⟩:=tz.out
  refine⟨.pointer (some ⟨w.heap.size,0,none⟩),.pointer (some ⟨w.heap.size,0,none⟩),w.alloc (.cells l.toArray T),by simp[execOp,Instr.alloc,newVar,Sem.run_bind,y0 h1 h2,h3,HQ],Y4 _ _,QC,fun le=>?_⟩
  refine⟨⟨w.heap.size,l.toArray,⟨T,.inr rfl⟩,by simp[cx,G8],heap_alloc_new w _,by simp,fun j u z hu hz=>?_⟩,.ref _ _ _ (by simp[cx,St.new]) (by simp[cx,G8])⟩
  simp at hu hz
  obtain⟨v,hv,rfl⟩:=hu
  rw[hz]at hv
  cases hv
  exact .im (Gf _)) k
theorem YZ{i ver len e:Nat}{T:Nat}{l:List (List AV)}(hx:H1 σ x=some (.row i ver len))(hb:A7 σ.hp i=some (.row e 1 ver l))(h0:l≠[])(hd:Nat.blt d n=true)
  (k:B5 P E n ops rest (σ.put d (.elt i ver 0 0)) K):n6 P E n ops ⟨some d,.call ⟨.builtin .unsafeSliceData,⟨[x]⟩,⟨[T]⟩⟩,ty,pos,after,none⟩ rest L σ K :=
 ⟨IQ (F9 fun _ _ _ θ a w h=>by
  obtain⟨hl,hv,ld⟩:=BE (h.rel hx) hb
  obtain⟨xs,ko,_⟩:=h.row hb
  rcases ko.2 with ⟨_,hn⟩|⟨g,cap,kz,hθ,_,_,hc,_⟩
  ·exact absurd (List.eq_nil_of_length_eq_zero hn) h0
  ·have kq:0<l.length:=List.length_pos_iff.2 h0
   refine⟨.pointer (some ⟨g,0,none⟩),?_,.elt i ver 0 0 _ ld fun e2 ol v2 l2 lk=>?_⟩
   ·rw[Z6,hv,show (kx E θ σ.nx σ.hp w).θ i=θ i from rfl,hθ]
    simp[builtin,Lib.run_unsafeSliceData_row w _ _ _ _ _ (by omega:cap≠0),Sem.run_bind,Sem.run_pure]
   ·have:A7 σ.hp i=some (.row e2 ol v2 l2):=lk
    rw[hb]at this
    cases this
    exact⟨Nat.le_refl _,fun _=>⟨g,_,cap,hθ,by simp⟩⟩) hd k⟩
theorem bG{i ver e m:Nat}{T T2:Nat}{s:List UInt8}(hx:H1 σ x=some (.elt i ver 0 0))(hy:H1 σ y=some (.i m))(hb:A7 σ.hp i=some (.row e 1 ver (Q9 s)))(hm:s.length=m)(h0:s≠[])(lb:e<Q0)
  (ht:P.underlying T=some (.pointer e)) (hc:P.cellsOf e=1) (hd:Nat.blt d n=true)
  (k:B5 P E n ops rest ((σ.set i (.row e 1 (ver+1) [])).put d (.str s)) K):n6 P E n ops ⟨some d,.call ⟨.builtin .unsafeString,⟨[x,y]⟩,⟨[T,T2]⟩⟩,ty,pos,after,none⟩ rest L σ K:=by
 refine⟨?_⟩
 intro a w ⟨θ,hs⟩
 subst hm
 have h:=hs.evT
 obtain⟨g,m,cap,hθ,hv,ld⟩:=Cn (h.rel hx) hb
 have qg:=(h.rel hy).val
 obtain⟨xs,oM,_,hr⟩:=h.row hb
 have ko:=oM.row lb
 rcases ko.2 with ⟨hn,_⟩|⟨g',nX,kz,mN,_,hg,oD,nH,qm,po⟩
 ·rw[show (kx E θ σ.nx σ.hp w).θ i=θ i from rfl]at *
  rw[hn]at hθ;cases hθ
 ·have lV:θ i=.slice (some ⟨g,0,none⟩) m cap:=hθ
  rw[lV]at mN
  cases mN
  have sD:(Q9 s).length=s.length:=by simp[Q9]
  have lU:∀(j:Nat) z,s[j]?=some z→w.cell? ((⟨g,0,none⟩:Addr).add j)=some (.int .u8 z.toNat):=by
   intro j z hz
   obtain⟨y',ni,ly⟩:=hr j [.v (.int .u8 z.toNat)] (by simp[Q9,hz]) 0 _ rfl
   cases ly
   have lK:=ko
   rw[lV]at lK
   exact lK.cells (g:=g) rfl j _ (by simpa using ni)
  have pN:s.length≤kz.size:=by rw[qm];omega
  have lN:=Lib.run_unsafeString_row (P:=P) w T T2 ty e ht hc g kz.size (by simp[World.shape?,hg]) s h0 pN (by unfold maxLen at nH;omega) lU
  have hex:(execOp a.eval ⟨some d,.call ⟨.builtin .unsafeString,#[x,y],#[T,T2]⟩,ty,pos,after,none⟩).run P w=.ok (.value (.string ⟨s.toArray⟩)) (w.freeze ⟨g,0,none⟩ s.length):=by
   rw[Ac,hv,qg]
   simp only[Nat.zero_mul,Nat.add_zero]
   simp[builtin,lN,Sem.run_bind,Sem.run_pure]
  unfold wpList
  rw[if_pos (by simp[Region.wanted])]
  left
  have kj:g<w.heap.size:=(Array.getElem?_eq_some_iff.1 hg).1
  have hf:=Lib.below_freeze (B:=g) (Below.refl g w) (p:=⟨g,0,none⟩) (Nat.le_refl _) s.length
  have wU:∀k,k≠g→(w.freeze ⟨g,0,none⟩ s.length).heap[k]?=w.heap[k]?:=by
   intro k hk
   unfold World.freeze
   split
   ·rfl
   ·simp only[Array.getElem?_modify]
    rw[if_neg (fun e=>hk e.symm)]
  simp only[Oper.wp,hex,Oper.upon]
  have qI:=hs.turn (hkp:=fun _ _ _ _ h hk _=>by cases h;rw[Pn lb]at hk;cases hk) (hne:=fun h=>by rw[n9 (Bt lb)]at h;cases h) (b':=.row e 1 (ver+1) []) (v':=.slice none 0 0) (w':=w.freeze ⟨g,0,none⟩ s.length) hb hf.os hf.tape hf.output hf.size (fun k _ hne=>wU k fun e=>hne (by rw[lV,e];rfl)) (fun k hk=>by cases hk)
   ⟨⟨_,_,_,lV⟩,e,ver,_,rfl,.inl (Nat.lt_succ_self _)⟩ (fun le=>⟨[],⟨by simp,.inl ⟨by simp[cx,G8],rfl⟩⟩,(fun el ke=>by cases ke),(fun k el hk=>by simp at hk),.lt (Bt lb)⟩)
  exact k _ _ ⟨_,qI.put (Nat.blt_eq▸hd) (.im (.str _))⟩
end
end Go.Av
namespace Go.Proofs.YtkcekccdcpmekaaGreatDoor
open Go Go.Av Go.RowKit Go.Shelf
set_option maxRecDepth 100000
abbrev bB:Nat:=84+1
abbrev eB:Nat:=5
abbrev SG:G1:=.bx bB [.v (.pointer none),.v (.slice none 0 0)]
abbrev Jd(ver len:Nat):G1:=.bx bB [.ref 0 0,.row 1 ver len]
theorem Lk.of{P:Program}{T:Nat}(h:(P.info? T).bind (·.zero)=some (.int .u8 0)):Lk P T:=by
 cases hi:P.info? T with
 |none=>simp[hi]at h
 |some i=>simp[hi]at h;exact⟨i,hi,h⟩
instance:Lk Tryz.prog 5:=Lk.of (by kernel_rfl)
theorem ck:Lays.n240 Tryz.prog Tryz.lays156_ren :=
 have L:=Tryz.lays156
 { mixed:=L.mixed,f240:=L.f240,f276:=L.f276,t0:=L.t0,a0:=L.a0,z0:=L.z0,v0:=L.v0,t4:=L.t4,a4:=L.a4,z4:=L.z4,v4:=L.v4,t9:=L.t9,a9:=L.a9,z9:=L.z9,v9:=L.v9,t20:=L.t20,a20:=L.a20,z20:=L.z20,v20:=L.v20,t70:=L.t70,a70:=L.a70,z70:=L.z70,v70:=L.v70,t72:=L.t72,a72:=L.a72,z72:=L.z72,v72:=L.v72,t164:=L.t164,a164:=L.a164,z164:=L.z164,v164:=L.v164 }
theorem en(t s:List UInt8):Q9 (t++s)=Q9 t++Q9 s:=List.map_append
theorem Mw{i:Nat}{x b:G1}(h:A7 [(0,some x)] i=some b):i=0∧b=x:=by
 rw[J3]at h
 split at h
 ·rename_i e;cases h;exact⟨e.symm,rfl⟩
 ·cases h
theorem bH:A9 Tryz.prog 71 1 [(0,some SG)] [.ref 0 0] 1 [(0,some (.bx bB [.ref 0 0,.v (.slice none 0 0)]))] (.tup []):=by
 refine⟨⟨Tryz.f71,Tryz.func71,by kernel_rfl,by kernel_rfl⟩,fun X θ w vs hX mL hB hl hv=>?_⟩
 match vs,hl with
 |[v],_ =>
  obtain⟨b,hθ,rfl,_⟩:=X4 (hv 0 _ v rfl rfl)
  obtain⟨_,b',lL,⟨t,ht⟩,lV,hh,hsz,hr⟩:=hB.owns 0 _ rfl
  have mO:b'=b:=by
   have h1:θ 0=.pointer (some ⟨b',0,none⟩):=lV
   have h2:θ 0=.pointer (some ⟨b,0,none⟩):=hθ
   rw[h1]at h2;cases h2;rfl
  subst mO
  have qI:t=84:=by unfold bB at ht;omega
  subst qI
  have oB:lL.size=2:=hsz
  have h0:=(hr 0 _ lL[0] rfl (Array.getElem?_eq_getElem (by omega))).val
  have h1:=(hr 1 _ lL[1] rfl (Array.getElem?_eq_getElem (by omega))).val
  have vT:lL=#[.pointer none,.slice none 0 0]:=by
   apply Array.ext
   ·exact oB
   ·intro i hi lc
    match i,lc with
    |0,_=>exact h0
    |1,_=>exact h1
  subst vT
  have kj:b'<w.heap.size:=(Array.getElem?_eq_some_iff.1 hh).1
  refine Calls.mono (Any.Builder_copyCheck_fresh ck Tryz.Builder_Extra_156.toX72 b' w (by simp[World.cell?,hh]) (by simp[World.shape?,hh];rfl) (by simp[World.frozen?,hh])) ?_
  rintro e w' ⟨rfl,rfl⟩
  have xm:(w.setCell ⟨b',0,none⟩ (.pointer (some ⟨b',0,none⟩))).heap[b']?=some (.cells #[.pointer (some ⟨b',0,none⟩),.slice none 0 0] 84 (0,0)):=by
   simp[World.setCell,Array.getElem?_modify,hh]
  have hk:∀k,k≠b'→(w.setCell ⟨b',0,none⟩ (.pointer (some ⟨b',0,none⟩))).heap[k]?=w.heap[k]?:=fun k hk=>Below.heap_setCell _ _ _ _ (fun e=>hk e)
  have xg:θ 0=.pointer (some ⟨b',0,none⟩):=hθ
  refine⟨⟨_,θ,rfl,.tup [] [] rfl (fun j x y hx=>by cases hx),⟨fun i b hi=>?_,fun i j b1 b2 k hi hj _ _=>?_,fun i b k hi hk=>?_⟩,fun i b k hi hk=>?_,fun i _=>.inl rfl⟩,rfl,rfl,rfl,by simp[World.setCell],fun k lJ lG=>hk k fun e=>lG ⟨0,_,rfl,.inl (by rw[xg,e];rfl)⟩⟩
  ·obtain⟨rfl,rfl⟩:=Mw hi
   refine⟨Nat.one_pos,b',_,⟨84,.inr rfl⟩,hθ,xm,rfl,fun j x y hx hy=>?_⟩
   match j,hx,hy with
   |0,hx,hy=>cases hx;cases hy;exact .ref 0 0 b' Nat.one_pos hθ
   |1,hx,hy=>cases hx;cases hy;exact .im (.v _)
  ·rw[(Mw hi).1,(Mw hj).1]
  ·obtain⟨rfl,rfl⟩:=Mw hi
   exact hB.fresh 0 _ k rfl (hk.elim .inl fun h=>absurd h.1 Bool.false_ne_true)
  ·obtain⟨rfl,rfl⟩:=Mw hi
   exact .inl ⟨0,_,rfl,hk.elim .inl fun h=>absurd h.1 Bool.false_ne_true⟩
theorem eo(e len:Nat)(l:List (List AV)):A9 Tryz.prog 71 2 [(0,some (Jd 0 len)),(1,some (.row e 1 0 l))] [.ref 0 0] 2 [(0,some (Jd 0 len)),(1,some (.row e 1 0 l))] (.tup []):=by
 refine⟨⟨Tryz.f71,Tryz.func71,by kernel_rfl,by kernel_rfl⟩,fun X θ w vs hX mL hB hl hv=>?_⟩
 match vs,hl with
 |[v],_ =>
  obtain⟨b,hθ,rfl,_⟩:=X4 (hv 0 _ v rfl rfl)
  obtain⟨_,b',lL,⟨t,ht⟩,lV,hh,hsz,hr⟩:=hB.owns 0 _ rfl
  have mO:b'=b:=by
   have h1:θ 0=.pointer (some ⟨b',0,none⟩):=lV
   have h2:θ 0=.pointer (some ⟨b,0,none⟩):=hθ
   rw[h1]at h2;cases h2;rfl
  subst mO
  have oB:lL.size=2:=hsz
  obtain⟨b2,xR,h0,_⟩:=X4 (hr 0 _ lL[0] rfl (Array.getElem?_eq_getElem (by omega)))
  have mO:b2=b':=by
   have h1:θ 0=.pointer (some ⟨b',0,none⟩):=lV
   have h2:θ 0=.pointer (some ⟨b2,0,none⟩):=xR
   rw[h1]at h2;cases h2;rfl
  subst mO
  refine Calls.mono (Any.Builder_copyCheck_used ck Tryz.Builder_Extra_156.toX72 b2 w (by simp[World.cell?,hh,h0,Array.getElem?_eq_getElem (show 0<lL.size by omega)])) ?_
  rintro e w' ⟨rfl,rfl⟩
  exact⟨⟨_,θ,rfl,.tup [] [] rfl (fun j x y hx=>by cases hx),hB,fun i b k hi hk=>.inl ⟨i,b,hi,hk⟩,fun i _=>.inl rfl⟩,rfl,rfl,rfl,Nat.le_refl _,fun k _ _=>rfl⟩
end Go.Proofs.YtkcekccdcpmekaaGreatDoor
