/- Chapter 8: the program's reader: models, curves. -/
import Derived.Test.YtkcekccdcpmekaaGreatDoorQQr3
set_option linter.unusedVariables false
set_option linter.unnecessarySimpa false
set_option linter.unusedSimpArgs false
set_option maxHeartbeats 64000000
namespace Go.Proofs.YtkcekccdcpmekaaGreatDoor
open Go Go.Av
attribute [local irreducible] E8 B5 E5 E1 DQ E7 E9 St.le A4 A9
set_option maxRecDepth 100000
abbrev Nv(nm:List UInt8)(f:A1)(R:E3):List AV:=[.str nm,.i 2,.i f.op,.i f.col,.i f.code,.i f.lo,.i f.hi,.sl 6 (f.kids.map C3),A6,.i R.mea,.sl 1 (R.trms.map wA),.i 0,.i 0,.i 0,.i 0,.i 0,A6]
abbrev SD(nm:List UInt8)(f:A1)(R:E3):List AV:=[.str nm,.i 3,.i f.op,.i f.col,.i f.code,.i f.lo,.i f.hi,.sl 6 (f.kids.map C3),A6,.i R.mea,A6,.i R.evt.op,.i R.evt.col,.i R.evt.code,.i R.evt.lo,.i R.evt.hi,.sl 6 (R.evt.kids.map C3)]
theorem Ow{s:A5}{l:List (List UInt8)}(hb:(G5 s l).2=true):∃c0,(G5 s l).1[0]?=some c0∧(G5 s l).1.getD 0 0=c0:=by
 unfold G5 at hb ⊢
 split at hb
 ·cases hb
 ·rename_i sn
  rw[if_neg sn]
  dsimp only at hb ⊢
  have oI:=Fm (s:=s) (l:=l) (by simpa using sn)
  have xY:0<l.length:=of_decide_eq_true hb
  refine⟨_,List.getElem?_eq_getElem (by omega),?_⟩
  rw[List.getD_eq_getElem?_getD,List.getElem?_eq_getElem (by omega)];rfl
theorem cj(ws:List (List UInt8)):List.drop (2:Int).toNat (List.take (3:Int).toNat (ws.map F6))=((ws.take 3).drop 2).map F6:=by
 rw[show (2:Int).toNat=2 from rfl,show (3:Int).toNat=3 from rfl,List.map_drop,List.map_take]
theorem kR(ws:List (List UInt8)):List.drop (4:Int).toNat (List.take (((ws.map F6).length:Nat):Int).toNat (ws.map F6))=(ws.drop 4).map F6:=by
 rw[Int.toNat_natCast,show (4:Int).toNat=4 from rfl,List.take_length,List.map_drop]
theorem SE(s:A5)(hr:C8 s=0)(d:G0)(nm:List UInt8)(f:A1)(ws:List (List UInt8))(hl:ws.length≤20001):A9 Tryz.prog 84 3 (YU s d (iQ nm f)) [.ref 0 0,.sl 1 (ws.map F6),.ref 2 0] 3 (YU s d (Nv nm f (DT s ws (q0 nm f)).1)) (.b (DT s ws (q0 nm f)).2):=by
 generalize hR:DT s ws (q0 nm f)=R
 obtain⟨R1,R2⟩:=R
 dsimp only
 unfold DT at hR
 dsimp only at hR
 by_cases h5:ws.length<5
 ·rw[if_pos (.inl h5)]at hR
  cases hR
  refine G4 Tryz.func84 64 fun E h0=>?_
  repeat'((first|refine S2 ?_|(refine T6 ?_ ?_<;>intro h<;>try exact V1 h)|intro el ke kg|intro el ke|exact T4|refine T5 ?_ ?_|intro ex)<;>try conv=>whnf)
  all_goals first
   |(exfalso;omega)
   |exact D9 (B4 (a8 2 (Nv nm f ⟨nm,2,f,[],0,[],zX⟩) rfl ⟨.refl _,.refl _,.refl _,.refl _,.refl _,.refl _,.refl _,.refl _,.refl _,.refl _,.nil 1,.refl _,.refl _,.refl _,.refl _,.refl _,.refl _,trivial⟩) (B2 h0))
 have g1:=E4 (ws:=ws) (i:=1) (by omega)
 have g3:=E4 (ws:=ws) (i:=3) (by omega)
 generalize B1 ws 1=w1 at *
 generalize B1 ws 3=w3 at *
 by_cases h1:¬w1=N8
 ·rw[if_pos (.inr (.inl h1))]at hR
  cases hR
  refine G4 Tryz.func84 64 fun E h0=>?_
  repeat'((first|(refine A2 (x:=w1) g1 (by omega) ?_) |refine S2 ?_|(refine T6 ?_ ?_<;>intro h<;>try exact V1 h)|intro el ke kg|intro el ke|exact T4|refine T5 ?_ ?_|intro ex)<;>try conv=>whnf)
  all_goals first
   |(exfalso;omega)
   |contradiction
   |exact D9 (B4 (a8 2 (Nv nm f ⟨nm,2,f,[],0,[],zX⟩) rfl ⟨.refl _,.refl _,.refl _,.refl _,.refl _,.refl _,.refl _,.refl _,.refl _,.refl _,.nil 1,.refl _,.refl _,.refl _,.refl _,.refl _,.refl _,trivial⟩) (B2 h0))
 obtain rfl:w1=N8:=Decidable.of_not_not h1
 by_cases h3:¬w3=DS
 ·rw[if_pos (.inr (.inr h3))]at hR
  cases hR
  refine G4 Tryz.func84 64 fun E h0=>?_
  repeat'((first|(refine A2 (x:=N8) g1 (by omega) ?_)|(refine A2 (x:=w3) g3 (by omega) ?_) |refine S2 ?_|(refine T6 ?_ ?_<;>intro h<;>try exact V1 h)|intro el ke kg|intro el ke|exact T4|refine T5 ?_ ?_|intro ex)<;>try conv=>whnf)
  all_goals first
   |(exfalso;omega)
   |contradiction
   |exact D9 (B4 (a8 2 (Nv nm f ⟨nm,2,f,[],0,[],zX⟩) rfl ⟨.refl _,.refl _,.refl _,.refl _,.refl _,.refl _,.refl _,.refl _,.refl _,.refl _,.nil 1,.refl _,.refl _,.refl _,.refl _,.refl _,.refl _,trivial⟩) (B2 h0))
 obtain rfl:w3=DS:=Decidable.of_not_not h3
 rw[if_neg (by rintro (h|h|h);(exact h5 h);(exact h1 h);exact h3 h)]at hR
 have hm:=Ca s hr d ((ws.take 3).drop 2) (by rw[List.length_drop,List.length_take];omega)
 have ht:=Ca s hr d (ws.drop 4) (by rw[List.length_drop];omega)
 rw[←cj]at hm
 rw[←kR]at ht
 have hg:=Ow (s:=s) (l:=(ws.take 3).drop 2)
 generalize G5 s ((ws.take 3).drop 2)=M at *
 generalize G5 s (ws.drop 4)=T at *
 obtain⟨M1,M2⟩:=M
 obtain⟨T1,T2⟩:=T
 dsimp only at hm ht hg hR
 clear h1 h3
 cases M2 with
 |false =>
  rw[if_pos (.inl rfl)]at hR
  cases hR
  refine G4 Tryz.func84 64 fun E h0=>?_
  repeat'((first|(refine A2 (x:=N8) g1 (by omega) ?_)|(refine A2 (x:=DS) g3 (by omega) ?_) |refine S2 ?_|(refine T6 ?_ ?_<;>intro h<;>try exact V1 h)|intro el ke kg|intro el ke|exact T4|refine T5 ?_ ?_|intro ex|refine nc [0,1] [0,0] hm rfl rfl rfl ⟨rfl,rfl,trivial⟩ ?_|refine nc [0,1] [0,1] ht rfl rfl rfl ⟨rfl,rfl,trivial⟩ ?_)<;>try conv=>whnf)
  all_goals first
   |(exfalso;omega)
   |contradiction
   |exact D9 (B4 (a8 2 (Nv nm f ⟨nm,2,f,[],0,[],zX⟩) rfl ⟨.refl _,.refl _,.refl _,.refl _,.refl _,.refl _,.refl _,.refl _,.refl _,.refl _,.nil 1,.refl _,.refl _,.refl _,.refl _,.refl _,.refl _,trivial⟩) (B2 h0))
 |true =>
  obtain⟨c0,gc,gd⟩:=hg rfl
  rw[gd]at hR
  by_cases nI:T2=false∨3<T1.length
  ·rw[if_pos (.inr nI)]at hR
   cases hR
   refine G4 Tryz.func84 64 fun E h0=>?_
   repeat'((first|(refine A2 (x:=N8) g1 (by omega) ?_)|(refine A2 (x:=DS) g3 (by omega) ?_)|(refine A2 (x:=c0) gc (by omega) ?_) |refine S2 ?_|(refine T6 ?_ ?_<;>intro h<;>try exact V1 h)|intro el ke kg|intro el ke|exact T4|refine T5 ?_ ?_|intro ex|refine nc [0,1] [0,0] hm rfl rfl rfl ⟨rfl,rfl,trivial⟩ ?_|refine nc [0,1] [0,1] ht rfl rfl rfl ⟨rfl,rfl,trivial⟩ ?_)<;>try conv=>whnf)
   all_goals first
    |(exfalso;omega)
    |contradiction
    |(exfalso;rcases nI with h'|h';exact Bool.false_ne_true (h'.symm.trans (show T2=true by assumption));omega)
    |exact D9 (B4 (a8 2 (Nv nm f ⟨nm,2,f,[],0,[],zX⟩) rfl ⟨.refl _,.refl _,.refl _,.refl _,.refl _,.refl _,.refl _,.refl _,.refl _,.refl _,.nil 1,.refl _,.refl _,.refl _,.refl _,.refl _,.refl _,trivial⟩) (B2 h0))
  ·rw[if_neg (by rintro (h|h);(cases h);exact nI h)]at hR
   cases hR
   have xb:T2=true:=by cases T2;(exact absurd (.inl rfl) nI);rfl
   have hT3:T1.length≤3:=by omega
   subst xb
   refine G4 Tryz.func84 64 fun E h0=>?_
   repeat'((first|(refine A2 (x:=N8) g1 (by omega) ?_)|(refine A2 (x:=DS) g3 (by omega) ?_)|(refine A2 (x:=c0) gc (by omega) ?_) |refine S2 ?_|(refine T6 ?_ ?_<;>intro h<;>try exact V1 h)|intro el ke kg|intro el ke|exact T4|refine T5 ?_ ?_|intro ex|refine nc [0,1] [0,0] hm rfl rfl rfl ⟨rfl,rfl,trivial⟩ ?_|refine nc [0,1] [0,1] ht rfl rfl rfl ⟨rfl,rfl,trivial⟩ ?_)<;>try conv=>whnf)
   all_goals first
    |(exfalso;omega)
    |contradiction
    |exact D9 (B2 h0)
theorem SF(s:A5)(hr:C8 s=0)(d:G0)(nm:List UInt8)(f:A1)(t:List UInt8)(hl:t.length≤20000):A9 Tryz.prog 85 3 (YU s d (iQ nm f)) [.ref 0 0,.str t,.ref 2 0] 3 (YU s d (SD nm f (DU s t (q0 nm f)).1)) (.b (DU s t (q0 nm f)).2):=by
 generalize hR:DU s t (q0 nm f)=R
 obtain⟨R1,R2⟩:=R
 dsimp only
 unfold DU at hR
 dsimp only at hR
 have qv:=TP t [32] 5 (by omega) (by simp) (by omega) (by omega)
 have lX:∀w∈M0 [32] 4 t,w.length≤20000:=fun w hw=>Nat.le_trans (Ov 4 t w hw) hl
 rw[show 5-1=4 from rfl]at qv
 generalize M0 [32] 4 t=ws at *
 by_cases h5:¬ws.length=5
 ·rw[if_pos (.inl h5)]at hR
  cases hR
  refine G4 Tryz.func85 57 fun E h0=>?_
  repeat'((first|refine A0 qv ?_ |refine S2 ?_|(refine T6 ?_ ?_<;>intro h<;>try exact V1 h)|intro el ke kg|intro el ke|exact T4|refine T5 ?_ ?_|intro ex)<;>try conv=>whnf)
  all_goals first
   |(exfalso;omega)
   |exact D9 (B4 (a8 2 (SD nm f ⟨nm,3,f,[],0,[],zX⟩) rfl ⟨.refl _,.refl _,.refl _,.refl _,.refl _,.refl _,.refl _,.refl _,.refl _,.refl _,.refl _,.refl _,.refl _,.refl _,.refl _,.refl _,.nil 6,trivial⟩) (B2 h0))
 have h5':ws.length=5:=Decidable.of_not_not h5
 have g1:=E4 (ws:=ws) (i:=1) (by omega)
 have g3:=E4 (ws:=ws) (i:=3) (by omega)
 have g4:=E4 (ws:=ws) (i:=4) (by omega)
 have l4:=lX _ (List.mem_of_getElem? g4)
 generalize B1 ws 1=w1 at *
 generalize B1 ws 3=w3 at *
 generalize B1 ws 4=w4 at *
 by_cases h1:¬w1=N8
 ·rw[if_pos (.inr (.inl h1))]at hR
  cases hR
  refine G4 Tryz.func85 57 fun E h0=>?_
  repeat'((first|refine A0 qv ?_|(refine A2 (x:=w1) g1 (by omega) ?_) |refine S2 ?_|(refine T6 ?_ ?_<;>intro h<;>try exact V1 h)|intro el ke kg|intro el ke|exact T4|refine T5 ?_ ?_|intro ex)<;>try conv=>whnf)
  all_goals first
   |(exfalso;omega)
   |contradiction
   |exact D9 (B4 (a8 2 (SD nm f ⟨nm,3,f,[],0,[],zX⟩) rfl ⟨.refl _,.refl _,.refl _,.refl _,.refl _,.refl _,.refl _,.refl _,.refl _,.refl _,.refl _,.refl _,.refl _,.refl _,.refl _,.refl _,.nil 6,trivial⟩) (B2 h0))
 obtain rfl:w1=N8:=Decidable.of_not_not h1
 by_cases h3:¬w3=X6
 ·rw[if_pos (.inr (.inr h3))]at hR
  cases hR
  refine G4 Tryz.func85 57 fun E h0=>?_
  repeat'((first|refine A0 qv ?_|(refine A2 (x:=N8) g1 (by omega) ?_)|(refine A2 (x:=w3) g3 (by omega) ?_) |refine S2 ?_|(refine T6 ?_ ?_<;>intro h<;>try exact V1 h)|intro el ke kg|intro el ke|exact T4|refine T5 ?_ ?_|intro ex)<;>try conv=>whnf)
  all_goals first
   |(exfalso;omega)
   |contradiction
   |exact D9 (B4 (a8 2 (SD nm f ⟨nm,3,f,[],0,[],zX⟩) rfl ⟨.refl _,.refl _,.refl _,.refl _,.refl _,.refl _,.refl _,.refl _,.refl _,.refl _,.refl _,.refl _,.refl _,.refl _,.refl _,.refl _,.nil 6,trivial⟩) (B2 h0))
 obtain rfl:w3=X6:=Decidable.of_not_not h3
 rw[if_neg (by rintro (h|h|h);(exact h5 h);(exact h1 h);exact h3 h)]at hR
 have hm:=Ca s hr d ((ws.take 3).drop 2) (by rw[List.length_drop,List.length_take];omega)
 rw[←cj]at hm
 have hg:=Ow (s:=s) (l:=(ws.take 3).drop 2)
 have hc:=AQ s d w4 (by omega)
 generalize G5 s ((ws.take 3).drop 2)=M at *
 generalize K5 s w4=C at *
 obtain⟨M1,M2⟩:=M
 obtain⟨C1,C2⟩:=C
 dsimp only at hm hc hg hR
 clear h1 h3
 cases M2 with
 |false =>
  rw[if_pos rfl]at hR
  cases hR
  refine G4 Tryz.func85 57 fun E h0=>?_
  repeat'((first|refine A0 qv ?_|(refine A2 (x:=N8) g1 (by omega) ?_)|(refine A2 (x:=X6) g3 (by omega) ?_) |refine S2 ?_|(refine T6 ?_ ?_<;>intro h<;>try exact V1 h)|intro el ke kg|intro el ke|exact T4|refine T5 ?_ ?_|intro ex|refine nc [0,1] [0,0] hm rfl rfl rfl ⟨rfl,rfl,trivial⟩ ?_)<;>try conv=>whnf)
  all_goals first
   |(exfalso;omega)
   |contradiction
   |exact D9 (B4 (a8 2 (SD nm f ⟨nm,3,f,[],0,[],zX⟩) rfl ⟨.refl _,.refl _,.refl _,.refl _,.refl _,.refl _,.refl _,.refl _,.refl _,.refl _,.refl _,.refl _,.refl _,.refl _,.refl _,.refl _,.nil 6,trivial⟩) (B2 h0))
 |true =>
  obtain⟨c0,gc,gd⟩:=hg rfl
  rw[if_neg (by simp),gd]at hR
  cases hR
  refine G4 Tryz.func85 57 fun E h0=>?_
  repeat'((first|refine A0 qv ?_|(refine A2 (x:=N8) g1 (by omega) ?_)|(refine A2 (x:=X6) g3 (by omega) ?_)|(refine A2 (x:=w4) g4 (by omega) ?_)|(refine A2 (x:=c0) gc (by omega) ?_) |refine S2 ?_|(refine T6 ?_ ?_<;>intro h<;>try exact V1 h)|intro el ke kg|intro el ke|exact T4|refine T5 ?_ ?_|intro ex|refine nc [0,1] [0,0] hm rfl rfl rfl ⟨rfl,rfl,trivial⟩ ?_|refine nc [0,1] [0,1] hc rfl rfl rfl ⟨rfl,rfl,trivial⟩ ?_)<;>try conv=>whnf)
  all_goals first
   |(exfalso;omega)
   |contradiction
   |exact D9 (B2 h0)
end Go.Proofs.YtkcekccdcpmekaaGreatDoor
