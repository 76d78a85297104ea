/- Chapter 8: the reference's reader: the line of a question. -/
import Derived.Test.YtkcekccdcpmekaaGreatDoorQQs5
import Derived.Test.YtkcekccdcpmekaaGreatDoorQSj
import Derived.Test.YtkcekccdcpmekaaGreatDoorQXl
set_option linter.unusedVariables false
set_option linter.unnecessarySimpa false
set_option linter.unusedSimpArgs false
set_option maxHeartbeats 64000000
namespace Go.Proofs.YtkcekccdcpmekaaGreatDoor
open Go Go.Av
attribute [local irreducible] E8 B5 E5 E1 DQ E7 E9 St.le A4 A9
set_option maxRecDepth 100000
theorem cn:NL (.agg [.str [],.i 0,.i 0,.i 0,.i 0,.i 0,.i 0,A6,A6,.i 0,A6,.i 0,.i 0,.i 0,.i 0,.i 0,A6]) (O9 zQ):=HA ⟨.refl _,.refl _,.refl _,.refl _,.refl _,.refl _,.refl _,.nil 6,.nil 2,.refl _,.nil 1,.refl _,.refl _,.refl _,.refl _,.refl _,.nil 6,trivial⟩
theorem Yk(s:A5)(t:List UInt8)(hl:t.length≤20000)(hi:F4 t<0):A4 Tryz.prog 96 [sA s,.str t] (.tup [O9 zQ,.b false]):=by
 have c1:A4 Tryz.prog 48 [.str t,.str D6] (.i (F4 t)):=Y9 t D6 (by omega)
 generalize F4 t=a at *
 refine D0 Tryz.func96 163 fun ki E h0=>?_
 clear ki
 repeat'((first|refine A0 c1 ?_ |refine S2 ?_|(refine T6 ?_ ?_<;>intro h<;>try exact V1 h)|intro el ke kg|intro el ke|exact T4|refine T5 ?_ ?_|intro ex)<;>try conv=>whnf)
 all_goals first
  |(exfalso;omega)
  |exact K0 (rs:=[.cell 4 D7,.tmp 5]) (vs:=[_,_]) rfl ⟨H0 rfl rfl rfl cn,⟨_,rfl,.refl _⟩,trivial⟩ rfl
theorem bq(s:A5)(t:List UInt8)(hl:t.length≤20000)(hi:0≤F4 t)(nI:¬(O5 s t).2=0∨(B7 t).length<4):A4 Tryz.prog 96 [sA s,.str t] (.tup [O9 zQ,.b false]):=by
 have lc:=(b7 (t:=t) hi).2
 have c1:A4 Tryz.prog 48 [.str t,.str D6] (.i (F4 t)):=Y9 t D6 (by omega)
 have nA:(F4 t).toNat≤t.length:=lc
 clear lc
 have c2:A4 Tryz.prog 80 [.str (List.drop ((0:Nat):Int).toNat (List.take (F4 t).toNat t)),.str [32]] (.sl 1 ((B7 t).map F6)):=P4 (t.take (F4 t).toNat) [32] (by rw[List.length_take];omega) (by simp)
 have mZ:(t.take (F4 t).toNat).length≤20000:=by rw[List.length_take];omega
 have lX:∀w∈B7 t,w.length≤20000:=fun w hw=>Nat.le_trans (l9 hw) mZ
 have oT:(B7 t).length≤20001:=Nat.le_trans (l6 [32] _ _) (by omega)
 have lC:=(s7 32 (t.take (F4 t).toNat)).2
 have lD:List.drop (F4 t+7).toNat (List.take ((t.length:Nat):Int).toNat t)=t.drop ((F4 t).toNat+7):=by
  rw[Int.toNat_natCast,List.take_length,show (F4 t+7).toNat=(F4 t).toNat+7 by omega]
 have h7:F4 t+7≤t.length:=by
  have e:=congrArg List.length (b7 (t:=t) hi).1
  rw[List.length_append,List.length_append,List.length_take]at e
  have h3:D6.length=7:=rfl
  have h4:F4 t=Lib.index t D6:=rfl
  omega
 have c3:=AU s (t.drop ((F4 t).toNat+7)) (by rw[List.length_drop];omega)
 have mS:K5 s (t.drop ((F4 t).toNat+7))=O5 s t:=rfl
 rw[mS]at c3
 rw[←lD]at c3
 clear lD mS lC mZ lX
 generalize O5 s t=C at *
 obtain⟨f,fe⟩:=C
 dsimp only at *
 generalize B7 t=ws at *
 generalize F4 t=a at *
 refine D0 Tryz.func96 163 fun ki E h0=>?_
 clear ki
 repeat'((first|refine A0 c1 ?_|refine A0 c2 ?_|refine A0 c3 ?_|(refine B6 5 ?_;refine C5 (id:=5) ⟨[(1,.str t),(2,.iptr (sL s)),(4,.ref 1 0),(6,.i a),(7,.sl 1 (ws.map F6)),(8,.iptr [.i f.op,.i f.col,.i f.code,.i f.lo,.i f.hi,.sl 6 (f.kids.map C3)]),(9,.i fe)],2,[(1,some (.box [.str [],.i 0,.i 0,.i 0,.i 0,.i 0,.i 0,A6,A6,.i 0,A6,.i 0,.i 0,.i 0,.i 0,.i 0,A6]))]⟩ ?_ ?_) |refine S2 ?_|(refine T6 ?_ ?_<;>intro h<;>try exact V1 h)|intro el ke kg|intro el ke|exact T4|refine T5 ?_ ?_|intro ex)<;>try conv=>whnf)
 all_goals first
  |(exfalso;omega)
  |exact B0 h0 rfl ⟨rfl,rfl,rfl,rfl,rfl,rfl,rfl,trivial⟩ ⟨rfl,trivial⟩ rfl rfl rfl
  |exact K0 (rs:=[.cell 4 D7,.tmp 5]) (vs:=[_,_]) rfl ⟨H0 rfl rfl rfl cn,⟨_,rfl,.refl _⟩,trivial⟩ rfl
theorem br(s:A5)(t:List UInt8)(hl:t.length≤20000)(hi:0≤F4 t)(nh:(O5 s t).2=0)(h4:4≤(B7 t).length)(k0:B1 (B7 t) 0=AP)(k2:B1 (B7 t) 2=AW):A4 Tryz.prog 96 [sA s,.str t] (.tup [O9 (L7 s t).1,.b (L7 s t).2]):=by
 have lc:=(b7 (t:=t) hi).2
 have c1:A4 Tryz.prog 48 [.str t,.str D6] (.i (F4 t)):=Y9 t D6 (by omega)
 have nA:(F4 t).toNat≤t.length:=lc
 clear lc
 have c2:A4 Tryz.prog 80 [.str (List.drop ((0:Nat):Int).toNat (List.take (F4 t).toNat t)),.str [32]] (.sl 1 ((B7 t).map F6)):=P4 (t.take (F4 t).toNat) [32] (by rw[List.length_take];omega) (by simp)
 have mZ:(t.take (F4 t).toNat).length≤20000:=by rw[List.length_take];omega
 have lX:∀w∈B7 t,w.length≤20000:=fun w hw=>Nat.le_trans (l9 hw) mZ
 have oT:(B7 t).length≤20001:=Nat.le_trans (l6 [32] _ _) (by omega)
 have lC:=(s7 32 (t.take (F4 t).toNat)).2
 have lD:List.drop (F4 t+7).toNat (List.take ((t.length:Nat):Int).toNat t)=t.drop ((F4 t).toNat+7):=by
  rw[Int.toNat_natCast,List.take_length,show (F4 t+7).toNat=(F4 t).toNat+7 by omega]
 have h7:F4 t+7≤t.length:=by
  have e:=congrArg List.length (b7 (t:=t) hi).1
  rw[List.length_append,List.length_append,List.length_take]at e
  have h3:D6.length=7:=rfl
  have h4:F4 t=Lib.index t D6:=rfl
  omega
 have c3:=AU s (t.drop ((F4 t).toNat+7)) (by rw[List.length_drop];omega)
 have mS:K5 s (t.drop ((F4 t).toNat+7))=O5 s t:=rfl
 rw[mS]at c3
 rw[←lD]at c3
 have g0:=E4 (ws:=B7 t) (i:=0) (by omega)
 have g1:=E4 (ws:=B7 t) (i:=1) (by omega)
 have g2:=E4 (ws:=B7 t) (i:=2) (by omega)
 have g3:=E4 (ws:=B7 t) (i:=3) (by omega)
 have g4:5<(B7 t).length→(B7 t)[4]?=some (B1 (B7 t) 4):=fun h=>E4 (by omega)
 have hR:L7 s t=r9 s ⟨B1 (B7 t) 1,1,(O5 s t).1,[],0,[],zX⟩ ((B7 t).drop 3):=by
  unfold L7
  rw[if_neg (by omega),if_neg (by rintro (g|g);exact g nh;omega),if_pos ⟨k0,k2⟩]
 rw[hR]
 clear hR
 have mR:List.drop (3:Int).toNat (List.take ((((B7 t).map F6).length:Nat):Int).toNat ((B7 t).map F6))=((B7 t).drop 3).map F6:=by
  rw[Int.toNat_natCast,show (3:Int).toNat=3 from rfl,List.take_length,List.map_drop]
 have ct:=TZ s (B1 (B7 t) 1) (O5 s t).1 ((B7 t).drop 3) (by rw[List.length_drop];omega) (fun w hw=>lX w (List.mem_of_mem_drop hw))
 generalize r9 s ⟨B1 (B7 t) 1,1,(O5 s t).1,[],0,[],zX⟩ ((B7 t).drop 3)=R at *
 rw[←mR]at ct
 clear mR lX
 obtain⟨X,B⟩:=R
 dsimp only at ct
 clear lD mS lC mZ
 generalize B1 (B7 t) 1=nm at *
 generalize B1 (B7 t) 3=w3 at *
 generalize nO:B1 (B7 t) 0=w0 at *
 generalize rp:B1 (B7 t) 2=w2 at *
 generalize sF:B1 (B7 t) 4=w4 at *
 generalize O5 s t=C at *
 obtain⟨f,fe⟩:=C
 dsimp only at *
 generalize B7 t=ws at *
 generalize F4 t=a at *
 subst nO rp;rw[k0]at g0;rw[k2]at g2
 refine D0 Tryz.func96 163 fun ki E h0=>?_
 clear ki
 repeat'((first|refine A0 c1 ?_|refine A0 c2 ?_|refine A0 c3 ?_|(refine B6 5 ?_;refine C5 (id:=5) ⟨[(1,.str t),(2,.iptr (sL s)),(4,.ref 1 0),(6,.i a),(7,.sl 1 (ws.map F6)),(8,.iptr [.i f.op,.i f.col,.i f.code,.i f.lo,.i f.hi,.sl 6 (f.kids.map C3)]),(9,.i fe)],2,[(1,some (.box [.str [],.i 0,.i 0,.i 0,.i 0,.i 0,.i 0,A6,A6,.i 0,A6,.i 0,.i 0,.i 0,.i 0,.i 0,A6]))]⟩ ?_ ?_)|(refine B6 8 ?_;refine F5 (id:=8) (σ':=⟨[(1,.str t),(2,.iptr (sL s)),(4,.ref 1 0),(7,.sl 1 (ws.map F6)),(8,.iptr [.i f.op,.i f.col,.i f.code,.i f.lo,.i f.hi,.sl 6 (f.kids.map C3)])],2,[(1,some (.box [.str [],.i 0,.i 0,.i 0,.i 0,.i 0,.i 0,A6,A6,.i 0,A6,.i 0,.i 0,.i 0,.i 0,.i 0,A6]))]⟩) (B2 h0) ?_;refine C5 (id:=8) ⟨[(1,.str t),(2,.iptr (sL s)),(4,.ref 1 0),(7,.sl 1 (ws.map F6)),(10,.ref 2 0)],3,[(1,some (.box [.str [],.i 0,.i 0,.i 0,.i 0,.i 0,.i 0,A6,A6,.i 0,A6,.i 0,.i 0,.i 0,.i 0,.i 0,A6])),(2,some (.box [.str nm,.i 0,.i f.op,.i f.col,.i f.code,.i f.lo,.i f.hi,.sl 6 (f.kids.map C3),A6,.i 0,A6,.i 0,.i 0,.i 0,.i 0,.i 0,A6]))]⟩ ?_ ?_)|refine A0 ct ?_|(refine B6 11 ?_;refine C5 (id:=11) ⟨[(4,.ref 1 0),(5,.b B)],2,[(1,some (.box (C0 X)))]⟩ ?_ ?_)|(refine A2 (x:=w0) g0 (by omega) ?_)|(refine A2 (x:=nm) g1 (by omega) ?_)|(refine A2 (x:=w2) g2 (by omega) ?_)|(refine A2 (x:=w3) g3 (by omega) ?_)|(refine A2 (x:=w4) (g4 (by omega)) (by omega) ?_) |refine S2 ?_|(refine T6 ?_ ?_<;>intro h<;>try exact V1 h)|intro el ke kg|intro el ke|exact T4|refine T5 ?_ ?_|intro ex)<;>try conv=>whnf)
 all_goals first
  |(exfalso;omega)
  |exact B0 h0 rfl ⟨rfl,rfl,rfl,rfl,rfl,rfl,rfl,trivial⟩ ⟨rfl,trivial⟩ rfl rfl rfl
  |exact B0 h0 rfl ⟨rfl,rfl,rfl,rfl,rfl,trivial⟩ ⟨rfl,rfl,trivial⟩ rfl rfl rfl
  |exact B0 h0 rfl ⟨rfl,rfl,trivial⟩ ⟨rfl,trivial⟩ rfl rfl rfl
  |exact K0 (rs:=[.cell 4 D7,.tmp 5]) (vs:=[_,_]) rfl ⟨H0 rfl rfl rfl (.refl _),⟨_,rfl,.refl _⟩,trivial⟩ rfl
  |(exfalso;simp_all;done)
theorem bu(s:A5)(t:List UInt8)(hl:t.length≤20000)(hi:0≤F4 t)(nh:(O5 s t).2=0)(h4:4≤(B7 t).length)(k0:B1 (B7 t) 0=W8)(k2:B1 (B7 t) 2=N8)(k5:5<(B7 t).length)(k4:B1 (B7 t) 4=DS):A4 Tryz.prog 96 [sA s,.str t] (.tup [O9 (L7 s t).1,.b (L7 s t).2]):=by
 have lc:=(b7 (t:=t) hi).2
 have c1:A4 Tryz.prog 48 [.str t,.str D6] (.i (F4 t)):=Y9 t D6 (by omega)
 have nA:(F4 t).toNat≤t.length:=lc
 clear lc
 have c2:A4 Tryz.prog 80 [.str (List.drop ((0:Nat):Int).toNat (List.take (F4 t).toNat t)),.str [32]] (.sl 1 ((B7 t).map F6)):=P4 (t.take (F4 t).toNat) [32] (by rw[List.length_take];omega) (by simp)
 have mZ:(t.take (F4 t).toNat).length≤20000:=by rw[List.length_take];omega
 have lX:∀w∈B7 t,w.length≤20000:=fun w hw=>Nat.le_trans (l9 hw) mZ
 have oT:(B7 t).length≤20001:=Nat.le_trans (l6 [32] _ _) (by omega)
 have lC:=(s7 32 (t.take (F4 t).toNat)).2
 have lD:List.drop (F4 t+7).toNat (List.take ((t.length:Nat):Int).toNat t)=t.drop ((F4 t).toNat+7):=by
  rw[Int.toNat_natCast,List.take_length,show (F4 t+7).toNat=(F4 t).toNat+7 by omega]
 have h7:F4 t+7≤t.length:=by
  have e:=congrArg List.length (b7 (t:=t) hi).1
  rw[List.length_append,List.length_append,List.length_take]at e
  have h3:D6.length=7:=rfl
  have h4:F4 t=Lib.index t D6:=rfl
  omega
 have c3:=AU s (t.drop ((F4 t).toNat+7)) (by rw[List.length_drop];omega)
 have mS:K5 s (t.drop ((F4 t).toNat+7))=O5 s t:=rfl
 rw[mS]at c3
 rw[←lD]at c3
 have g0:=E4 (ws:=B7 t) (i:=0) (by omega)
 have g1:=E4 (ws:=B7 t) (i:=1) (by omega)
 have g2:=E4 (ws:=B7 t) (i:=2) (by omega)
 have g3:=E4 (ws:=B7 t) (i:=3) (by omega)
 have g4:5<(B7 t).length→(B7 t)[4]?=some (B1 (B7 t) 4):=fun h=>E4 (by omega)
 have hR:L7 s t=(⟨B1 (B7 t) 1,2,(O5 s t).1,[],F0 s (B1 (B7 t) 3),(G5 s ((B7 t).drop 5)).1,zX⟩,(G5 s ((B7 t).drop 5)).2 && decide (0≤F0 s (B1 (B7 t) 3)∧(G5 s ((B7 t).drop 5)).1.length≤3)):=by
  unfold L7
  rw[if_neg (by omega),if_neg (by rintro (g|g);exact g nh;omega),if_neg (fun g=>absurd (k0.symm.trans g.1) (by decide)),if_pos ⟨k0,k2,k5,k4⟩]
 rw[hR]
 clear hR
 have mR:List.drop (5:Int).toNat (List.take ((((B7 t).map F6).length:Nat):Int).toNat ((B7 t).map F6))=((B7 t).drop 5).map F6:=by
  rw[Int.toNat_natCast,show (5:Int).toNat=5 from rfl,List.take_length,List.map_drop]
 have ct:=PT s ((B7 t).drop 5) (by rw[List.length_drop];omega)
 have cf:=BM s (B1 (B7 t) 3)
 have ku:(G5 s ((B7 t).drop 5)).1.length≤30000:=by
  have h1:∀l:List (List UInt8),(G5 s l).1.length≤l.length:=fun l=>by
   unfold G5
   split
   ·simp
   ·rename_i hb
    rw[Fm (by simpa using hb)];exact Nat.le_refl _
  have:=h1 ((B7 t).drop 5)
  rw[List.length_drop]at this
  omega
 generalize G5 s ((B7 t).drop 5)=R at *
 rw[←mR]at ct
 clear mR lX
 obtain⟨C1,C2⟩:=R
 dsimp only at ct ku ⊢
 generalize F0 s (B1 (B7 t) 3)=c at *
 clear lD mS lC mZ
 generalize B1 (B7 t) 1=nm at *
 generalize B1 (B7 t) 3=w3 at *
 generalize nO:B1 (B7 t) 0=w0 at *
 generalize rp:B1 (B7 t) 2=w2 at *
 generalize sF:B1 (B7 t) 4=w4 at *
 generalize O5 s t=C at *
 obtain⟨f,fe⟩:=C
 dsimp only at *
 generalize B7 t=ws at *
 generalize F4 t=a at *
 subst nO rp sF;rw[k0]at g0;rw[k2]at g2;rw[k4]at g4
 refine D0 Tryz.func96 163 fun ki E h0=>?_
 clear ki
 repeat'((first|refine A0 c1 ?_|refine A0 c2 ?_|refine A0 c3 ?_|(refine B6 5 ?_;refine C5 (id:=5) ⟨[(1,.str t),(2,.iptr (sL s)),(4,.ref 1 0),(6,.i a),(7,.sl 1 (ws.map F6)),(8,.iptr [.i f.op,.i f.col,.i f.code,.i f.lo,.i f.hi,.sl 6 (f.kids.map C3)]),(9,.i fe)],2,[(1,some (.box [.str [],.i 0,.i 0,.i 0,.i 0,.i 0,.i 0,A6,A6,.i 0,A6,.i 0,.i 0,.i 0,.i 0,.i 0,A6]))]⟩ ?_ ?_)|(refine B6 8 ?_;refine F5 (id:=8) (σ':=⟨[(1,.str t),(2,.iptr (sL s)),(4,.ref 1 0),(7,.sl 1 (ws.map F6)),(8,.iptr [.i f.op,.i f.col,.i f.code,.i f.lo,.i f.hi,.sl 6 (f.kids.map C3)])],2,[(1,some (.box [.str [],.i 0,.i 0,.i 0,.i 0,.i 0,.i 0,A6,A6,.i 0,A6,.i 0,.i 0,.i 0,.i 0,.i 0,A6]))]⟩) (B2 h0) ?_;refine C5 (id:=8) ⟨[(1,.str t),(2,.iptr (sL s)),(4,.ref 1 0),(7,.sl 1 (ws.map F6)),(10,.ref 2 0)],3,[(1,some (.box [.str [],.i 0,.i 0,.i 0,.i 0,.i 0,.i 0,A6,A6,.i 0,A6,.i 0,.i 0,.i 0,.i 0,.i 0,A6])),(2,some (.box [.str nm,.i 0,.i f.op,.i f.col,.i f.code,.i f.lo,.i f.hi,.sl 6 (f.kids.map C3),A6,.i 0,A6,.i 0,.i 0,.i 0,.i 0,.i 0,A6]))]⟩ ?_ ?_)|refine A0 ct ?_|refine A0 cf ?_|(refine B6 13 ?_;refine C5 (id:=13) ⟨[(2,.iptr (sL s)),(4,.ref 1 0),(7,.sl 1 (ws.map F6)),(10,.ref 2 0)],3,[(1,some (.box [.str [],.i 0,.i 0,.i 0,.i 0,.i 0,.i 0,A6,A6,.i 0,A6,.i 0,.i 0,.i 0,.i 0,.i 0,A6])),(2,some (.box [.str nm,.i 2,.i f.op,.i f.col,.i f.code,.i f.lo,.i f.hi,.sl 6 (f.kids.map C3),A6,.i c,A6,.i 0,.i 0,.i 0,.i 0,.i 0,A6]))]⟩ ?_ ?_)|(refine B6 14 ?_;refine C5 (id:=14) ⟨[(2,.iptr (sL s)),(4,.ref 1 0),(7,.sl 1 (ws.map F6)),(10,.ref 2 0),(11,.sl 1 (C1.map wA)),(12,.b C2)],3,[(1,some (.box [.str [],.i 0,.i 0,.i 0,.i 0,.i 0,.i 0,A6,A6,.i 0,A6,.i 0,.i 0,.i 0,.i 0,.i 0,A6])),(2,some (.box [.str nm,.i 2,.i f.op,.i f.col,.i f.code,.i f.lo,.i f.hi,.sl 6 (f.kids.map C3),A6,.i c,A6,.i 0,.i 0,.i 0,.i 0,.i 0,A6]))]⟩ ?_ ?_)|(refine A2 (x:=w0) g0 (by omega) ?_)|(refine A2 (x:=nm) g1 (by omega) ?_)|(refine A2 (x:=w2) g2 (by omega) ?_)|(refine A2 (x:=w3) g3 (by omega) ?_)|(refine A2 (x:=w4) (g4 (by omega)) (by omega) ?_) |refine S2 ?_|(refine T6 ?_ ?_<;>intro h<;>try exact V1 h)|intro el ke kg|intro el ke|exact T4|refine T5 ?_ ?_|intro ex)<;>try conv=>whnf)
 all_goals first
  |(exfalso;omega)
  |exact B0 h0 rfl ⟨rfl,rfl,rfl,rfl,rfl,rfl,rfl,trivial⟩ ⟨rfl,trivial⟩ rfl rfl rfl
  |exact B0 h0 rfl ⟨rfl,rfl,rfl,rfl,rfl,trivial⟩ ⟨rfl,rfl,trivial⟩ rfl rfl rfl
  |exact B0 h0 rfl ⟨rfl,rfl,rfl,rfl,trivial⟩ ⟨rfl,rfl,trivial⟩ rfl rfl rfl
  |exact B0 h0 rfl ⟨rfl,rfl,rfl,rfl,rfl,rfl,trivial⟩ ⟨rfl,rfl,trivial⟩ rfl rfl rfl
  |exact K0 (rs:=[.cell 4 D7,.tmp 5]) (vs:=[_,_]) rfl ⟨H0 rfl rfl rfl (AD ⟨nm,2,f,[],c,C1,zX⟩ (.nil 2) (.refl _) (.nil 6)),⟨_,rfl,.refl _⟩,trivial⟩ (congrArg (fun z:Bool=>AV.tup [O9 ⟨nm,2,f,[],c,C1,zX⟩,.b z]) (by first|rfl|(simp;done)|(simp;omega)|(simp_all;done)|(simp_all;omega)))
  |(exfalso;simp_all;done)
theorem bv(s:A5)(t:List UInt8)(hl:t.length≤20000)(hi:0≤F4 t)(nh:(O5 s t).2=0)(h4:4≤(B7 t).length)(k0:B1 (B7 t) 0=X7)(k2:B1 (B7 t) 2=N8)(k5:5<(B7 t).length)(k4:B1 (B7 t) 4=X6):A4 Tryz.prog 96 [sA s,.str t] (.tup [O9 (L7 s t).1,.b (L7 s t).2]):=by
 have lc:=(b7 (t:=t) hi).2
 have c1:A4 Tryz.prog 48 [.str t,.str D6] (.i (F4 t)):=Y9 t D6 (by omega)
 have nA:(F4 t).toNat≤t.length:=lc
 clear lc
 have c2:A4 Tryz.prog 80 [.str (List.drop ((0:Nat):Int).toNat (List.take (F4 t).toNat t)),.str [32]] (.sl 1 ((B7 t).map F6)):=P4 (t.take (F4 t).toNat) [32] (by rw[List.length_take];omega) (by simp)
 have mZ:(t.take (F4 t).toNat).length≤20000:=by rw[List.length_take];omega
 have lX:∀w∈B7 t,w.length≤20000:=fun w hw=>Nat.le_trans (l9 hw) mZ
 have oT:(B7 t).length≤20001:=Nat.le_trans (l6 [32] _ _) (by omega)
 have lC:=(s7 32 (t.take (F4 t).toNat)).2
 have lD:List.drop (F4 t+7).toNat (List.take ((t.length:Nat):Int).toNat t)=t.drop ((F4 t).toNat+7):=by
  rw[Int.toNat_natCast,List.take_length,show (F4 t+7).toNat=(F4 t).toNat+7 by omega]
 have h7:F4 t+7≤t.length:=by
  have e:=congrArg List.length (b7 (t:=t) hi).1
  rw[List.length_append,List.length_append,List.length_take]at e
  have h3:D6.length=7:=rfl
  have h4:F4 t=Lib.index t D6:=rfl
  omega
 have c3:=AU s (t.drop ((F4 t).toNat+7)) (by rw[List.length_drop];omega)
 have mS:K5 s (t.drop ((F4 t).toNat+7))=O5 s t:=rfl
 rw[mS]at c3
 rw[←lD]at c3
 have g0:=E4 (ws:=B7 t) (i:=0) (by omega)
 have g1:=E4 (ws:=B7 t) (i:=1) (by omega)
 have g2:=E4 (ws:=B7 t) (i:=2) (by omega)
 have g3:=E4 (ws:=B7 t) (i:=3) (by omega)
 have g4:5<(B7 t).length→(B7 t)[4]?=some (B1 (B7 t) 4):=fun h=>E4 (by omega)
 have hR:L7 s t=(⟨B1 (B7 t) 1,3,(O5 s t).1,[],F0 s (B1 (B7 t) 3),[],(K5 s (I8 [32] ((B7 t).drop 5))).1⟩,decide ((K5 s (I8 [32] ((B7 t).drop 5))).2=0∧0≤F0 s (B1 (B7 t) 3))):=by
  unfold L7
  rw[if_neg (by omega),if_neg (by rintro (g|g);exact g nh;omega),if_neg (fun g=>absurd (k0.symm.trans g.1) (by decide)),if_neg (fun g=>absurd (k0.symm.trans g.1) (by decide)),if_pos ⟨k0,k2,k5,k4⟩]
 rw[hR]
 clear hR
 have mR:List.drop (5:Int).toNat (List.take ((((B7 t).map F6).length:Nat):Int).toNat ((B7 t).map F6))=((B7 t).drop 5).map F6:=by
  rw[Int.toNat_natCast,show (5:Int).toNat=5 from rfl,List.take_length,List.map_drop]
 have uH:(I8 [32] ((B7 t).drop 5)).length≤20000:=by
  have e:=lC.2
  have hd:(B7 t).drop 5≠[]:=by
   intro g
   have:=congrArg List.length g
   rw[List.length_drop,List.length_nil]at this
   omega
  have ht:(B7 t).take 5≠[]:=by
   intro g
   have:=congrArg List.length g
   rw[List.length_take,List.length_nil]at this
   omega
  have e2:t.take (F4 t).toNat=I8 [32] ((B7 t).take 5)++[32]++I8 [32] ((B7 t).drop 5):=by
   rw[←Br _ ht hd,List.take_append_drop];exact e
  have:=congrArg List.length e2
  rw[List.length_append]at this
  omega
 have ct:A4 Tryz.prog 144 [.sl 1 (((B7 t).drop 5).map F6),.str [32]] (.str (I8 [32] ((B7 t).drop 5))):=by
  have:=YT ((B7 t).drop 5) [32] (by rw[List.length_drop];omega) (by rw[LR];omega)
  rw[LR]at this
  exact this
 have cf:=BM s (B1 (B7 t) 3)
 have cp:=AU s (I8 [32] ((B7 t).drop 5)) (by omega)
 rw[←mR]at ct
 clear mR lX
 generalize I8 [32] ((B7 t).drop 5)=J at *
 generalize K5 s J=R at *
 obtain⟨v,ve⟩:=R
 dsimp only at cp ⊢
 generalize F0 s (B1 (B7 t) 3)=c at *
 clear lD mS lC mZ
 generalize B1 (B7 t) 1=nm at *
 generalize B1 (B7 t) 3=w3 at *
 generalize nO:B1 (B7 t) 0=w0 at *
 generalize rp:B1 (B7 t) 2=w2 at *
 generalize sF:B1 (B7 t) 4=w4 at *
 generalize O5 s t=C at *
 obtain⟨f,fe⟩:=C
 dsimp only at *
 generalize B7 t=ws at *
 generalize F4 t=a at *
 subst nO rp sF;rw[k0]at g0;rw[k2]at g2;rw[k4]at g4
 refine D0 Tryz.func96 163 fun ki E h0=>?_
 clear ki
 repeat'((first|refine A0 c1 ?_|refine A0 c2 ?_|refine A0 c3 ?_|(refine B6 5 ?_;refine C5 (id:=5) ⟨[(1,.str t),(2,.iptr (sL s)),(4,.ref 1 0),(6,.i a),(7,.sl 1 (ws.map F6)),(8,.iptr [.i f.op,.i f.col,.i f.code,.i f.lo,.i f.hi,.sl 6 (f.kids.map C3)]),(9,.i fe)],2,[(1,some (.box [.str [],.i 0,.i 0,.i 0,.i 0,.i 0,.i 0,A6,A6,.i 0,A6,.i 0,.i 0,.i 0,.i 0,.i 0,A6]))]⟩ ?_ ?_)|(refine B6 8 ?_;refine F5 (id:=8) (σ':=⟨[(1,.str t),(2,.iptr (sL s)),(4,.ref 1 0),(7,.sl 1 (ws.map F6)),(8,.iptr [.i f.op,.i f.col,.i f.code,.i f.lo,.i f.hi,.sl 6 (f.kids.map C3)])],2,[(1,some (.box [.str [],.i 0,.i 0,.i 0,.i 0,.i 0,.i 0,A6,A6,.i 0,A6,.i 0,.i 0,.i 0,.i 0,.i 0,A6]))]⟩) (B2 h0) ?_;refine C5 (id:=8) ⟨[(1,.str t),(2,.iptr (sL s)),(4,.ref 1 0),(7,.sl 1 (ws.map F6)),(10,.ref 2 0)],3,[(1,some (.box [.str [],.i 0,.i 0,.i 0,.i 0,.i 0,.i 0,A6,A6,.i 0,A6,.i 0,.i 0,.i 0,.i 0,.i 0,A6])),(2,some (.box [.str nm,.i 0,.i f.op,.i f.col,.i f.code,.i f.lo,.i f.hi,.sl 6 (f.kids.map C3),A6,.i 0,A6,.i 0,.i 0,.i 0,.i 0,.i 0,A6]))]⟩ ?_ ?_)|refine A0 ct ?_|refine A0 cf ?_|refine A0 cp ?_|(refine B6 18 ?_;refine C5 (id:=18) ⟨[(2,.iptr (sL s)),(4,.ref 1 0),(7,.sl 1 (ws.map F6)),(10,.ref 2 0)],3,[(1,some (.box [.str [],.i 0,.i 0,.i 0,.i 0,.i 0,.i 0,A6,A6,.i 0,A6,.i 0,.i 0,.i 0,.i 0,.i 0,A6])),(2,some (.box [.str nm,.i 3,.i f.op,.i f.col,.i f.code,.i f.lo,.i f.hi,.sl 6 (f.kids.map C3),A6,.i c,A6,.i 0,.i 0,.i 0,.i 0,.i 0,A6]))]⟩ ?_ ?_)|(refine B6 19 ?_;refine C5 (id:=19) ⟨[(4,.ref 1 0),(10,.ref 2 0),(13,.iptr [.i v.op,.i v.col,.i v.code,.i v.lo,.i v.hi,.sl 6 (v.kids.map C3)]),(14,.i ve)],3,[(1,some (.box [.str [],.i 0,.i 0,.i 0,.i 0,.i 0,.i 0,A6,A6,.i 0,A6,.i 0,.i 0,.i 0,.i 0,.i 0,A6])),(2,some (.box [.str nm,.i 3,.i f.op,.i f.col,.i f.code,.i f.lo,.i f.hi,.sl 6 (f.kids.map C3),A6,.i c,A6,.i 0,.i 0,.i 0,.i 0,.i 0,A6]))]⟩ ?_ ?_)|(refine B6 21 ?_;refine C5 (id:=21) ⟨[(4,.ref 1 0),(5,.b (decide (ve=0∧0≤c)))],2,[(1,some (.box [.str nm,.i 3,.i f.op,.i f.col,.i f.code,.i f.lo,.i f.hi,.sl 6 (f.kids.map C3),A6,.i c,A6,.i v.op,.i v.col,.i v.code,.i v.lo,.i v.hi,.sl 6 (v.kids.map C3)]))]⟩ ?_ ?_)|(refine A2 (x:=w0) g0 (by omega) ?_)|(refine A2 (x:=nm) g1 (by omega) ?_)|(refine A2 (x:=w2) g2 (by omega) ?_)|(refine A2 (x:=w3) g3 (by omega) ?_)|(refine A2 (x:=w4) (g4 (by omega)) (by omega) ?_) |refine S2 ?_|(refine T6 ?_ ?_<;>intro h<;>try exact V1 h)|intro el ke kg|intro el ke|exact T4|refine T5 ?_ ?_|intro ex)<;>try conv=>whnf)
 all_goals first
  |(exfalso;omega)
  |exact B0 h0 rfl ⟨rfl,rfl,rfl,rfl,rfl,rfl,rfl,trivial⟩ ⟨rfl,trivial⟩ rfl rfl rfl
  |exact B0 h0 rfl ⟨rfl,rfl,rfl,rfl,rfl,trivial⟩ ⟨rfl,rfl,trivial⟩ rfl rfl rfl
  |exact B0 h0 rfl ⟨rfl,rfl,rfl,rfl,trivial⟩ ⟨rfl,rfl,trivial⟩ rfl rfl rfl
  |exact B0 h0 rfl ⟨rfl,congrArg (fun z:Bool=>some (AV.b z)) (by first|rfl|(simp;done)|(simp;omega)|(simp_all;done)|(simp_all;omega)),trivial⟩ ⟨rfl,trivial⟩ rfl rfl rfl
  |exact K0 (rs:=[.cell 4 D7,.tmp 5]) (vs:=[_,_]) rfl ⟨H0 rfl rfl rfl (AD ⟨nm,3,f,[],c,[],v⟩ (.nil 2) (.nil 1) (.refl _)),⟨_,rfl,.refl _⟩,trivial⟩ (congrArg (fun z:Bool=>AV.tup [O9 ⟨nm,3,f,[],c,[],v⟩,.b z]) (by first|rfl|(simp;done)|(simp;omega)|(simp_all;done)|(simp_all;omega)))
  |(exfalso;simp_all;done)
theorem fS(s:A5)(t:List UInt8)(hl:t.length≤20000)(hi:0≤F4 t)(nh:(O5 s t).2=0)(h4:4≤(B7 t).length)(k1:¬(B1 (B7 t) 0=AP∧B1 (B7 t) 2=AW))(k2:¬(B1 (B7 t) 0=W8∧B1 (B7 t) 2=N8∧5<(B7 t).length∧B1 (B7 t) 4=DS))(k3:¬(B1 (B7 t) 0=X7∧B1 (B7 t) 2=N8∧5<(B7 t).length∧B1 (B7 t) 4=X6)):A4 Tryz.prog 96 [sA s,.str t] (.tup [O9 (L7 s t).1,.b (L7 s t).2]):=by
 have lc:=(b7 (t:=t) hi).2
 have c1:A4 Tryz.prog 48 [.str t,.str D6] (.i (F4 t)):=Y9 t D6 (by omega)
 have nA:(F4 t).toNat≤t.length:=lc
 clear lc
 have c2:A4 Tryz.prog 80 [.str (List.drop ((0:Nat):Int).toNat (List.take (F4 t).toNat t)),.str [32]] (.sl 1 ((B7 t).map F6)):=P4 (t.take (F4 t).toNat) [32] (by rw[List.length_take];omega) (by simp)
 have mZ:(t.take (F4 t).toNat).length≤20000:=by rw[List.length_take];omega
 have lX:∀w∈B7 t,w.length≤20000:=fun w hw=>Nat.le_trans (l9 hw) mZ
 have oT:(B7 t).length≤20001:=Nat.le_trans (l6 [32] _ _) (by omega)
 have lC:=(s7 32 (t.take (F4 t).toNat)).2
 have lD:List.drop (F4 t+7).toNat (List.take ((t.length:Nat):Int).toNat t)=t.drop ((F4 t).toNat+7):=by
  rw[Int.toNat_natCast,List.take_length,show (F4 t+7).toNat=(F4 t).toNat+7 by omega]
 have h7:F4 t+7≤t.length:=by
  have e:=congrArg List.length (b7 (t:=t) hi).1
  rw[List.length_append,List.length_append,List.length_take]at e
  have h3:D6.length=7:=rfl
  have h4:F4 t=Lib.index t D6:=rfl
  omega
 have c3:=AU s (t.drop ((F4 t).toNat+7)) (by rw[List.length_drop];omega)
 have mS:K5 s (t.drop ((F4 t).toNat+7))=O5 s t:=rfl
 rw[mS]at c3
 rw[←lD]at c3
 have g0:=E4 (ws:=B7 t) (i:=0) (by omega)
 have g1:=E4 (ws:=B7 t) (i:=1) (by omega)
 have g2:=E4 (ws:=B7 t) (i:=2) (by omega)
 have g3:=E4 (ws:=B7 t) (i:=3) (by omega)
 have g4:5<(B7 t).length→(B7 t)[4]?=some (B1 (B7 t) 4):=fun h=>E4 (by omega)
 have hR:L7 s t=(⟨B1 (B7 t) 1,0,(O5 s t).1,[],0,[],zX⟩,false):=by
  unfold L7
  rw[if_neg (by omega),if_neg (by rintro (g|g);exact g nh;omega),if_neg k1,if_neg k2,if_neg k3]
 rw[hR]
 clear hR
 clear lX
 clear lD mS lC mZ
 generalize B1 (B7 t) 1=nm at *
 generalize B1 (B7 t) 3=w3 at *
 generalize nO:B1 (B7 t) 0=w0 at *
 generalize rp:B1 (B7 t) 2=w2 at *
 generalize sF:B1 (B7 t) 4=w4 at *
 generalize O5 s t=C at *
 obtain⟨f,fe⟩:=C
 dsimp only at *
 generalize B7 t=ws at *
 generalize F4 t=a at *
 clear nO rp sF
 refine D0 Tryz.func96 163 fun ki E h0=>?_
 clear ki
 repeat'((first|refine A0 c1 ?_|refine A0 c2 ?_|refine A0 c3 ?_|(refine B6 5 ?_;refine C5 (id:=5) ⟨[(1,.str t),(2,.iptr (sL s)),(4,.ref 1 0),(6,.i a),(7,.sl 1 (ws.map F6)),(8,.iptr [.i f.op,.i f.col,.i f.code,.i f.lo,.i f.hi,.sl 6 (f.kids.map C3)]),(9,.i fe)],2,[(1,some (.box [.str [],.i 0,.i 0,.i 0,.i 0,.i 0,.i 0,A6,A6,.i 0,A6,.i 0,.i 0,.i 0,.i 0,.i 0,A6]))]⟩ ?_ ?_)|(refine B6 8 ?_;refine F5 (id:=8) (σ':=⟨[(1,.str t),(2,.iptr (sL s)),(4,.ref 1 0),(7,.sl 1 (ws.map F6)),(8,.iptr [.i f.op,.i f.col,.i f.code,.i f.lo,.i f.hi,.sl 6 (f.kids.map C3)])],2,[(1,some (.box [.str [],.i 0,.i 0,.i 0,.i 0,.i 0,.i 0,A6,A6,.i 0,A6,.i 0,.i 0,.i 0,.i 0,.i 0,A6]))]⟩) (B2 h0) ?_;refine C5 (id:=8) ⟨[(1,.str t),(2,.iptr (sL s)),(4,.ref 1 0),(7,.sl 1 (ws.map F6)),(10,.ref 2 0)],3,[(1,some (.box [.str [],.i 0,.i 0,.i 0,.i 0,.i 0,.i 0,A6,A6,.i 0,A6,.i 0,.i 0,.i 0,.i 0,.i 0,A6])),(2,some (.box [.str nm,.i 0,.i f.op,.i f.col,.i f.code,.i f.lo,.i f.hi,.sl 6 (f.kids.map C3),A6,.i 0,A6,.i 0,.i 0,.i 0,.i 0,.i 0,A6]))]⟩ ?_ ?_)|(refine A2 (x:=w0) g0 (by omega) ?_)|(refine A2 (x:=nm) g1 (by omega) ?_)|(refine A2 (x:=w2) g2 (by omega) ?_)|(refine A2 (x:=w3) g3 (by omega) ?_)|(refine A2 (x:=w4) (g4 (by omega)) (by omega) ?_) |refine S2 ?_|(refine T6 ?_ ?_<;>intro h<;>try exact V1 h)|intro el ke kg|intro el ke|exact T4|refine T5 ?_ ?_|intro ex)<;>try conv=>whnf)
 all_goals first
  |(exfalso;omega)
  |exact B0 h0 rfl ⟨rfl,rfl,rfl,rfl,rfl,rfl,rfl,trivial⟩ ⟨rfl,trivial⟩ rfl rfl rfl
  |exact B0 h0 rfl ⟨rfl,rfl,rfl,rfl,rfl,trivial⟩ ⟨rfl,rfl,trivial⟩ rfl rfl rfl
  |exact K0 (rs:=[.cell 4 D7,.tmp 5]) (vs:=[_,_]) rfl ⟨H0 rfl rfl rfl (AD ⟨nm,0,f,[],0,[],zX⟩ (.nil 2) (.nil 1) (.nil 6)),⟨_,rfl,.refl _⟩,trivial⟩ rfl
  |(exfalso;first|exact k1 ⟨by assumption,by assumption⟩|exact k2 ⟨by assumption,by assumption,by omega,by assumption⟩|exact k3 ⟨by assumption,by assumption,by omega,by assumption⟩)
  |(exfalso;simp_all;done)
theorem Ta(s:A5)(t:List UInt8)(hl:t.length≤20000):A4 Tryz.prog 96 [sA s,.str t] (.tup [O9 (L7 s t).1,.b (L7 s t).2]):=by
 by_cases hi:F4 t<0
 ·have e:L7 s t=(zQ,false):=by unfold L7;rw[if_pos hi]
  rw[e]
  exact Yk s t hl hi
 by_cases hb:¬(O5 s t).2=0∨(B7 t).length<4
 ·have e:L7 s t=(zQ,false):=by unfold L7;rw[if_neg hi,if_pos hb]
  rw[e]
  exact bq s t hl (by omega) hb
 have h0:(O5 s t).2=0:=Decidable.of_not_not fun g=>hb (.inl g)
 have h4:4≤(B7 t).length:=Decidable.of_not_not fun g=>hb (.inr (by omega))
 by_cases k1:B1 (B7 t) 0=AP∧B1 (B7 t) 2=AW
 ·exact br s t hl (by omega) h0 h4 k1.1 k1.2
 by_cases k2:B1 (B7 t) 0=W8∧B1 (B7 t) 2=N8∧5<(B7 t).length∧B1 (B7 t) 4=DS
 ·exact bu s t hl (by omega) h0 h4 k2.1 k2.2.1 k2.2.2.1 k2.2.2.2
 by_cases k3:B1 (B7 t) 0=X7∧B1 (B7 t) 2=N8∧5<(B7 t).length∧B1 (B7 t) 4=X6
 ·exact bv s t hl (by omega) h0 h4 k3.1 k3.2.1 k3.2.2.1 k3.2.2.2
 exact fS s t hl (by omega) h0 h4 k1 k2 k3
end Go.Proofs.YtkcekccdcpmekaaGreatDoor
