/- Chapter 8: the program's reader: the line of a question. -/
import Derived.Test.YtkcekccdcpmekaaGreatDoorQQr4
set_option linter.unusedVariables false
set_option linter.unnecessarySimpa false
set_option linter.unusedSimpArgs false
set_option maxHeartbeats 64000000
namespace Go.Proofs.YtkcekccdcpmekaaGreatDoor
open Go Go.Av
attribute [local irreducible] E8 B5 E5 E1 DQ E7 E9 St.le A4 A9
set_option maxRecDepth 100000
theorem s6{t w:List UInt8}(h:0≤Lib.lastIndex t w):(Lib.lastIndex t w).toNat+w.length≤t.length:=by
 unfold Lib.lastIndex at h ⊢
 split at h
 ·rename_i hl
  rw[if_pos hl]
  rcases Lib.lastOcc_spec t w (t.length-w.length+1)with ⟨h1,_⟩|⟨i,h1,h2,_⟩
  ·omega
  ·omega
 ·omega
theorem KJ(w:List UInt8):Lib.cut w [32]=(w.takeWhile (B3 32),I0 w,decide (w.dropWhile (B3 32)≠[])):=KE 32 w
theorem EE(t:List UInt8):(I0 t).length≤t.length:=by
 have:=J7 (B3 32) t
 unfold I0
 rw[List.length_drop];omega
theorem YV(s:A5)(ws:List (List UInt8))(nm:List UInt8)(f:A1):∃D M,(Ax s ws (q0 nm f)).1=⟨nm,1,f,D,M,[],zX⟩:=by
 unfold Ax Fj
 repeat' split
 all_goals exact⟨_,_,rfl⟩
theorem YW(s:A5)(ws:List (List UInt8))(nm:List UInt8)(f:A1):∃T M,(DT s ws (q0 nm f)).1=⟨nm,2,f,[],M,T,zX⟩:=by
 unfold DT
 repeat' split
 all_goals exact⟨_,_,rfl⟩
theorem YX(s:A5)(t nm:List UInt8)(f:A1):∃V M,(DU s t (q0 nm f)).1=⟨nm,3,f,[],M,[],V⟩:=by
 unfold DU
 repeat' split
 all_goals exact⟨_,_,rfl⟩
theorem Mv(s:A5)(t:List UInt8):Eb s t=q0 (B1 (D3 [32] (F3 t)) 0) (W4 s t).1:=rfl
theorem WL(s:A5)(d:G0)(t:List UInt8)(hl:t.length≤20000)(he:t.dropWhile (B3 32)=[]∨H7 t<0):A9 Tryz.prog 44 2 (w9 s d) [.ref 0 0,.str t] 2 (w9 s d) (.b false):=by
 have tC:=EE t
 have c1:=Ay t [32] (by omega)
 rw[KJ]at c1
 have c2:=s5 (I0 t) D6 (by omega)
 have ky:=s6 (t:=I0 t) (w:=D6)
 rw[show D6.length=7 from rfl]at ky
 have og:Lib.lastIndex (I0 t) D6=H7 t:=rfl
 rw[og]at c2 ky
 generalize I0 t=r at *
 generalize H7 t=a at *
 generalize t.takeWhile (B3 32)=k at *
 have wF:t.dropWhile (B3 32)≠[]→a<0:=fun h=>he.resolve_left h
 clear he
 generalize hb:decide (t.dropWhile (B3 32)≠[])=b at *
 have xH:b=true→a<0:=fun h=>wF (of_decide_eq_true (by rw[hb];exact h))
 clear hb wF
 refine G4 Tryz.func44 82 fun E h0=>?_
 repeat'((first|refine A0 c1 ?_|refine A0 c2 ?_ |refine S2 ?_|(refine T6 ?_ ?_<;>intro h<;>try exact V1 h)|intro el ke kg|intro el ke|exact T4|refine T5 ?_ ?_|intro ex)<;>try conv=>whnf)
 all_goals first
  |(exfalso;omega)
  |exact D9 (B2 h0)
  |(exfalso;have:=xH (by assumption);omega)
theorem aw(s:A5)(d:G0)(t:List UInt8)(hl:t.length≤20000)(oF:t.dropWhile (B3 32)≠[])(nO:0≤H7 t)(nI:¬(W4 s t).2=0∨O4 (B1 (D3 [32] (F3 t)) 0)=false):A9 Tryz.prog 44 2 (w9 s d) [.ref 0 0,.str t] 2 (w9 s d) (.b false):=by
 have tC:=EE t
 have c1:=Ay t [32] (by omega)
 rw[KJ]at c1
 have c2:=s5 (I0 t) D6 (by omega)
 have ky:=s6 (t:=I0 t) (w:=D6)
 rw[show D6.length=7 from rfl]at ky
 have c3:A4 Tryz.prog 80 [.str (List.drop ((0:Nat):Int).toNat (List.take (H7 t).toNat (I0 t))),.str [32]] (.sl 1 ((D3 [32] (F3 t)).map F6)):=P4 (F3 t) [32] (by unfold F3;rw[List.length_take];omega) (by simp)
 have mZ:(F3 t).length≤20000:=by unfold F3;rw[List.length_take];omega
 have kq:=Bq 32 (F3 t)
 have lX:∀w∈D3 [32] (F3 t),w.length≤20000:=fun w hw=>Nat.le_trans (l9 hw) mZ
 have oT:(D3 [32] (F3 t)).length≤20001:=Nat.le_trans (l6 [32] _ _) (by omega)
 have og:Lib.lastIndex (I0 t) D6=H7 t:=rfl
 rw[og]at c2 ky
 have h7:=ky nO
 have lD:List.drop (H7 t+7).toNat (List.take ((I0 t).length:Int).toNat (I0 t))=(I0 t).drop ((H7 t).toNat+7):=by
  rw[Int.toNat_natCast,List.take_length,show (H7 t+7).toNat=(H7 t).toNat+7 by omega]
 have c4:=AQ s d ((I0 t).drop ((H7 t).toNat+7)) (by rw[List.length_drop];omega)
 have mS:K5 s ((I0 t).drop ((H7 t).toNat+7))=W4 s t:=rfl
 rw[mS]at c4
 rw[←lD]at c4
 have g0:=E4 (ws:=D3 [32] (F3 t)) (i:=0) kq
 have c5:=Az (B1 (D3 [32] (F3 t)) 0)
 rw[decide_eq_true oF]at c1
 generalize B1 (D3 [32] (F3 t)) 0=nm at *
 generalize W4 s t=C at *
 obtain⟨f,fe⟩:=C
 dsimp only at *
 generalize O4 nm=b5 at *
 generalize D3 [32] (F3 t)=ws at *
 clear mS lD lX oT mZ
 generalize I0 t=r at *
 generalize H7 t=a at *
 generalize t.takeWhile (B3 32)=k at *
 refine G4 Tryz.func44 82 fun E h0=>?_
 repeat'((first|refine A0 c1 ?_|refine A0 c2 ?_|refine A0 c3 ?_|refine A0 c5 ?_|(refine A2 (x:=nm) g0 (by omega) ?_) |refine S2 ?_|(refine T6 ?_ ?_<;>intro h<;>try exact V1 h)|intro el ke kg|intro el ke|exact T4|refine T5 ?_ ?_|intro ex|refine nc [0,1] [0,0] c4 rfl rfl rfl ⟨rfl,rfl,trivial⟩ ?_)<;>try conv=>whnf)
 all_goals first
  |(exfalso;omega)
  |exact D9 (B2 h0)
  |(exfalso;rcases nI with h'|h';exact h' (by assumption);exact Bool.false_ne_true (h'.symm.trans (show b5=true by assumption)))
theorem az(s:A5)(hr:C8 s=0)(d:G0)(t:List UInt8)(hl:t.length≤20000)(pB:d.qs.length≤20000)(oF:t.dropWhile (B3 32)≠[])(nO:0≤H7 t)(nh:(W4 s t).2=0)(lZ:O4 (B1 (D3 [32] (F3 t)) 0)=true)(pJ:t.takeWhile (B3 32)=AP):A9 Tryz.prog 44 2 (w9 s d) [.ref 0 0,.str t] 2 (w9 s ⟨d.prj,d.src,d.coh,d.part,d.of,d.seed,d.qs++[(Ax s (D3 [32] (F3 t)) (Eb s t)).1]⟩) (.b (Ax s (D3 [32] (F3 t)) (Eb s t)).2):=by
 have tC:=EE t
 have c1:=Ay t [32] (by omega)
 rw[KJ]at c1
 have c2:=s5 (I0 t) D6 (by omega)
 have ky:=s6 (t:=I0 t) (w:=D6)
 rw[show D6.length=7 from rfl]at ky
 have c3:A4 Tryz.prog 80 [.str (List.drop ((0:Nat):Int).toNat (List.take (H7 t).toNat (I0 t))),.str [32]] (.sl 1 ((D3 [32] (F3 t)).map F6)):=P4 (F3 t) [32] (by unfold F3;rw[List.length_take];omega) (by simp)
 have mZ:(F3 t).length≤20000:=by unfold F3;rw[List.length_take];omega
 have kq:=Bq 32 (F3 t)
 have lX:∀w∈D3 [32] (F3 t),w.length≤20000:=fun w hw=>Nat.le_trans (l9 hw) mZ
 have oT:(D3 [32] (F3 t)).length≤20001:=Nat.le_trans (l6 [32] _ _) (by omega)
 have og:Lib.lastIndex (I0 t) D6=H7 t:=rfl
 rw[og]at c2 ky
 have h7:=ky nO
 have lD:List.drop (H7 t+7).toNat (List.take ((I0 t).length:Int).toNat (I0 t))=(I0 t).drop ((H7 t).toNat+7):=by
  rw[Int.toNat_natCast,List.take_length,show (H7 t+7).toNat=(H7 t).toNat+7 by omega]
 have c4:=AQ s d ((I0 t).drop ((H7 t).toNat+7)) (by rw[List.length_drop];omega)
 have mS:K5 s ((I0 t).drop ((H7 t).toNat+7))=W4 s t:=rfl
 rw[mS]at c4
 rw[←lD]at c4
 have g0:=E4 (ws:=D3 [32] (F3 t)) (i:=0) kq
 have c5:=Az (B1 (D3 [32] (F3 t)) 0)
 rw[decide_eq_true oF]at c1
 rw[lZ]at c5
 simp only[Mv]
 clear lZ
 generalize B1 (D3 [32] (F3 t)) 0=nm at *
 generalize W4 s t=C at *
 obtain⟨f,fe⟩:=C
 dsimp only at *
 subst nh
 generalize D3 [32] (F3 t)=ws at *
 have c6:=SC s hr d nm f ws lX oT
 obtain⟨D,M,hD⟩:=YV s ws nm f
 generalize Ax s ws (q0 nm f)=R at *
 obtain⟨R1,ok⟩:=R
 dsimp only at c6 hD ⊢
 subst hD
 clear mS lD lX oT mZ ky
 generalize I0 t=r at *
 generalize H7 t=a at *
 generalize hk:t.takeWhile (B3 32)=k at *
 obtain rfl:k=AP:=pJ
 refine G4 Tryz.func44 82 fun E h0=>?_
 repeat'((first|(refine B6 19 ?_;refine F5 (id:=19) (σ':=⟨[(0,.ref 0 0),(7,.b ok),(11,.iptr (C0 (⟨nm,1,f,D,M,[],zX⟩:E3)))],4,[(0,some (.box (DW s d))),(1,some (.row D7 17 0 (d.qs.map C0)))]⟩) (B4 (B0 (σ':=⟨[(0,.ref 0 0),(7,.b ok),(11,.ref 2 0)],4,[(0,some (.box (DW s d))),(1,some (.row D7 17 0 (d.qs.map C0))),(2,some (.box [.str nm,.i 1,.i f.op,.i f.col,.i f.code,.i f.lo,.i f.hi,.sl 6 (f.kids.map C3),.sl 2 (D.map N7),.i M,A6,.i 0,.i 0,.i 0,.i 0,.i 0,A6]))]⟩) h0 rfl ⟨rfl,rfl,rfl,trivial⟩ ⟨rfl,⟨_,rfl⟩,rfl,trivial⟩ rfl rfl rfl) (B4 (a8 2 (C0 (⟨nm,1,f,D,M,[],zX⟩:E3)) rfl ⟨.refl _,.refl _,.refl _,.refl _,.refl _,.refl _,.refl _,.refl _,.refl _,.refl _,.nil 1,.refl _,.refl _,.refl _,.refl _,.refl _,.nil 6,trivial⟩) (B2 h0))) ?_;refine C5 (id:=19) ⟨[(7,.b ok)],4,[(0,some (.box [.sl 2 (s.lists.map R0),.sl 7 (s.cols.map M7),.str d.prj,.str d.src,.i d.coh.op,.i d.coh.col,.i d.coh.code,.i d.coh.lo,.i d.coh.hi,.sl 6 (d.coh.kids.map C3),.i d.part,.i d.of,.i d.seed,.row 1 0 (d.qs++[(⟨nm,1,f,D,M,[],zX⟩:E3)]).length])),(1,some (.row D7 17 0 ((d.qs++[(⟨nm,1,f,D,M,[],zX⟩:E3)]).map C0)))]⟩ ?_ ?_)|refine A0 c1 ?_|refine A0 c2 ?_|refine A0 c3 ?_|refine A0 c5 ?_|(refine A2 (x:=nm) g0 (by omega) ?_) |refine S2 ?_|(refine T6 ?_ ?_<;>intro h<;>try exact V1 h)|intro el ke kg|intro el ke|exact T4|refine T5 ?_ ?_|intro ex|refine nc [0,1] [0,0] c4 rfl rfl rfl ⟨rfl,rfl,trivial⟩ ?_|refine nc [0,1,2] [0,1,0] c6 rfl rfl rfl ⟨rfl,rfl,rfl,trivial⟩ ?_)<;>try conv=>whnf)
 all_goals first
  |(exfalso;omega)
  |exact B0 h0 rfl ⟨rfl,trivial⟩ ⟨congrArg (fun z=>G1.box [.sl 2 (s.lists.map R0),.sl 7 (s.cols.map M7),.str d.prj,.str d.src,.i d.coh.op,.i d.coh.col,.i d.coh.code,.i d.coh.lo,.i d.coh.hi,.sl 6 (d.coh.kids.map C3),.i d.part,.i d.of,.i d.seed,.row 1 0 z]) (by rw[List.length_append];rfl),⟨_,congrArg (G1.row D7 17 _) (by rw[List.map_append];rfl)⟩,trivial⟩ rfl rfl rfl
  |exact D9 (B2 h0)
  |contradiction
  |(exfalso;simp_all;done)
theorem bC(s:A5)(hr:C8 s=0)(d:G0)(t:List UInt8)(hl:t.length≤20000)(pB:d.qs.length≤20000)(oF:t.dropWhile (B3 32)≠[])(nO:0≤H7 t)(nh:(W4 s t).2=0)(lZ:O4 (B1 (D3 [32] (F3 t)) 0)=true)(pJ:t.takeWhile (B3 32)=W8):A9 Tryz.prog 44 2 (w9 s d) [.ref 0 0,.str t] 2 (w9 s ⟨d.prj,d.src,d.coh,d.part,d.of,d.seed,d.qs++[(DT s (D3 [32] (F3 t)) (Eb s t)).1]⟩) (.b (DT s (D3 [32] (F3 t)) (Eb s t)).2):=by
 have tC:=EE t
 have c1:=Ay t [32] (by omega)
 rw[KJ]at c1
 have c2:=s5 (I0 t) D6 (by omega)
 have ky:=s6 (t:=I0 t) (w:=D6)
 rw[show D6.length=7 from rfl]at ky
 have c3:A4 Tryz.prog 80 [.str (List.drop ((0:Nat):Int).toNat (List.take (H7 t).toNat (I0 t))),.str [32]] (.sl 1 ((D3 [32] (F3 t)).map F6)):=P4 (F3 t) [32] (by unfold F3;rw[List.length_take];omega) (by simp)
 have mZ:(F3 t).length≤20000:=by unfold F3;rw[List.length_take];omega
 have kq:=Bq 32 (F3 t)
 have lX:∀w∈D3 [32] (F3 t),w.length≤20000:=fun w hw=>Nat.le_trans (l9 hw) mZ
 have oT:(D3 [32] (F3 t)).length≤20001:=Nat.le_trans (l6 [32] _ _) (by omega)
 have og:Lib.lastIndex (I0 t) D6=H7 t:=rfl
 rw[og]at c2 ky
 have h7:=ky nO
 have lD:List.drop (H7 t+7).toNat (List.take ((I0 t).length:Int).toNat (I0 t))=(I0 t).drop ((H7 t).toNat+7):=by
  rw[Int.toNat_natCast,List.take_length,show (H7 t+7).toNat=(H7 t).toNat+7 by omega]
 have c4:=AQ s d ((I0 t).drop ((H7 t).toNat+7)) (by rw[List.length_drop];omega)
 have mS:K5 s ((I0 t).drop ((H7 t).toNat+7))=W4 s t:=rfl
 rw[mS]at c4
 rw[←lD]at c4
 have g0:=E4 (ws:=D3 [32] (F3 t)) (i:=0) kq
 have c5:=Az (B1 (D3 [32] (F3 t)) 0)
 rw[decide_eq_true oF]at c1
 rw[lZ]at c5
 simp only[Mv]
 clear lZ
 generalize B1 (D3 [32] (F3 t)) 0=nm at *
 generalize W4 s t=C at *
 obtain⟨f,fe⟩:=C
 dsimp only at *
 subst nh
 generalize D3 [32] (F3 t)=ws at *
 have c6:=SE s hr d nm f ws oT
 obtain⟨T,M,hD⟩:=YW s ws nm f
 generalize DT s ws (q0 nm f)=R at *
 obtain⟨R1,ok⟩:=R
 dsimp only at c6 hD ⊢
 subst hD
 clear mS lD lX oT mZ ky
 generalize I0 t=r at *
 generalize H7 t=a at *
 generalize hk:t.takeWhile (B3 32)=k at *
 obtain rfl:k=W8:=pJ
 refine G4 Tryz.func44 82 fun E h0=>?_
 repeat'((first|(refine B6 19 ?_;refine F5 (id:=19) (σ':=⟨[(0,.ref 0 0),(7,.b ok),(11,.iptr (C0 (⟨nm,2,f,[],M,T,zX⟩:E3)))],3,[(0,some (.box (DW s d))),(1,some (.row D7 17 0 (d.qs.map C0)))]⟩) (B4 (B0 (σ':=⟨[(0,.ref 0 0),(7,.b ok),(11,.ref 2 0)],3,[(0,some (.box (DW s d))),(1,some (.row D7 17 0 (d.qs.map C0))),(2,some (.box [.str nm,.i 2,.i f.op,.i f.col,.i f.code,.i f.lo,.i f.hi,.sl 6 (f.kids.map C3),A6,.i M,.sl 1 (T.map wA),.i 0,.i 0,.i 0,.i 0,.i 0,A6]))]⟩) h0 rfl ⟨rfl,rfl,rfl,trivial⟩ ⟨rfl,⟨_,rfl⟩,rfl,trivial⟩ rfl rfl rfl) (B4 (a8 2 (C0 (⟨nm,2,f,[],M,T,zX⟩:E3)) rfl ⟨.refl _,.refl _,.refl _,.refl _,.refl _,.refl _,.refl _,.refl _,.nil 2,.refl _,.refl _,.refl _,.refl _,.refl _,.refl _,.refl _,.nil 6,trivial⟩) (B2 h0))) ?_;refine C5 (id:=19) ⟨[(7,.b ok)],3,[(0,some (.box [.sl 2 (s.lists.map R0),.sl 7 (s.cols.map M7),.str d.prj,.str d.src,.i d.coh.op,.i d.coh.col,.i d.coh.code,.i d.coh.lo,.i d.coh.hi,.sl 6 (d.coh.kids.map C3),.i d.part,.i d.of,.i d.seed,.row 1 0 (d.qs++[(⟨nm,2,f,[],M,T,zX⟩:E3)]).length])),(1,some (.row D7 17 0 ((d.qs++[(⟨nm,2,f,[],M,T,zX⟩:E3)]).map C0)))]⟩ ?_ ?_)|refine A0 c1 ?_|refine A0 c2 ?_|refine A0 c3 ?_|refine A0 c5 ?_|(refine A2 (x:=nm) g0 (by omega) ?_) |refine S2 ?_|(refine T6 ?_ ?_<;>intro h<;>try exact V1 h)|intro el ke kg|intro el ke|exact T4|refine T5 ?_ ?_|intro ex|refine nc [0,1] [0,0] c4 rfl rfl rfl ⟨rfl,rfl,trivial⟩ ?_|refine nc [0,1,2] [0,1,0] c6 rfl rfl rfl ⟨rfl,rfl,rfl,trivial⟩ ?_)<;>try conv=>whnf)
 all_goals first
  |(exfalso;omega)
  |exact B0 h0 rfl ⟨rfl,trivial⟩ ⟨congrArg (fun z=>G1.box [.sl 2 (s.lists.map R0),.sl 7 (s.cols.map M7),.str d.prj,.str d.src,.i d.coh.op,.i d.coh.col,.i d.coh.code,.i d.coh.lo,.i d.coh.hi,.sl 6 (d.coh.kids.map C3),.i d.part,.i d.of,.i d.seed,.row 1 0 z]) (by rw[List.length_append];rfl),⟨_,congrArg (G1.row D7 17 _) (by rw[List.map_append];rfl)⟩,trivial⟩ rfl rfl rfl
  |exact D9 (B2 h0)
  |contradiction
  |(exfalso;simp_all;done)
theorem bD(s:A5)(hr:C8 s=0)(d:G0)(t:List UInt8)(hl:t.length≤20000)(pB:d.qs.length≤20000)(oF:t.dropWhile (B3 32)≠[])(nO:0≤H7 t)(nh:(W4 s t).2=0)(lZ:O4 (B1 (D3 [32] (F3 t)) 0)=true)(pJ:t.takeWhile (B3 32)=X7):A9 Tryz.prog 44 2 (w9 s d) [.ref 0 0,.str t] 2 (w9 s ⟨d.prj,d.src,d.coh,d.part,d.of,d.seed,d.qs++[(DU s (F3 t) (Eb s t)).1]⟩) (.b (DU s (F3 t) (Eb s t)).2):=by
 have tC:=EE t
 have c1:=Ay t [32] (by omega)
 rw[KJ]at c1
 have c2:=s5 (I0 t) D6 (by omega)
 have ky:=s6 (t:=I0 t) (w:=D6)
 rw[show D6.length=7 from rfl]at ky
 have c3:A4 Tryz.prog 80 [.str (List.drop ((0:Nat):Int).toNat (List.take (H7 t).toNat (I0 t))),.str [32]] (.sl 1 ((D3 [32] (F3 t)).map F6)):=P4 (F3 t) [32] (by unfold F3;rw[List.length_take];omega) (by simp)
 have mZ:(F3 t).length≤20000:=by unfold F3;rw[List.length_take];omega
 have kq:=Bq 32 (F3 t)
 have lX:∀w∈D3 [32] (F3 t),w.length≤20000:=fun w hw=>Nat.le_trans (l9 hw) mZ
 have oT:(D3 [32] (F3 t)).length≤20001:=Nat.le_trans (l6 [32] _ _) (by omega)
 have og:Lib.lastIndex (I0 t) D6=H7 t:=rfl
 rw[og]at c2 ky
 have h7:=ky nO
 have lD:List.drop (H7 t+7).toNat (List.take ((I0 t).length:Int).toNat (I0 t))=(I0 t).drop ((H7 t).toNat+7):=by
  rw[Int.toNat_natCast,List.take_length,show (H7 t+7).toNat=(H7 t).toNat+7 by omega]
 have c4:=AQ s d ((I0 t).drop ((H7 t).toNat+7)) (by rw[List.length_drop];omega)
 have mS:K5 s ((I0 t).drop ((H7 t).toNat+7))=W4 s t:=rfl
 rw[mS]at c4
 rw[←lD]at c4
 have g0:=E4 (ws:=D3 [32] (F3 t)) (i:=0) kq
 have c5:=Az (B1 (D3 [32] (F3 t)) 0)
 rw[decide_eq_true oF]at c1
 rw[lZ]at c5
 simp only[Mv]
 clear lZ
 generalize B1 (D3 [32] (F3 t)) 0=nm at *
 generalize W4 s t=C at *
 obtain⟨f,fe⟩:=C
 dsimp only at *
 subst nh
 generalize D3 [32] (F3 t)=ws at *
 have c6:=SF s hr d nm f (F3 t) mZ
 obtain⟨V,M,hD⟩:=YX s (F3 t) nm f
 generalize DU s (F3 t) (q0 nm f)=R at *
 obtain⟨R1,ok⟩:=R
 dsimp only at c6 hD ⊢
 subst hD
 rw[show F3 t=List.drop ((0:Nat):Int).toNat (List.take (H7 t).toNat (I0 t))from rfl]at c6
 clear mS lD lX oT mZ ky
 generalize I0 t=r at *
 generalize H7 t=a at *
 generalize hk:t.takeWhile (B3 32)=k at *
 obtain rfl:k=X7:=pJ
 refine G4 Tryz.func44 82 fun E h0=>?_
 repeat'((first|(refine B6 19 ?_;refine F5 (id:=19) (σ':=⟨[(0,.ref 0 0),(7,.b ok),(11,.iptr (C0 (⟨nm,3,f,[],M,[],V⟩:E3)))],3,[(0,some (.box (DW s d))),(1,some (.row D7 17 0 (d.qs.map C0)))]⟩) (B4 (B0 (σ':=⟨[(0,.ref 0 0),(7,.b ok),(11,.ref 2 0)],3,[(0,some (.box (DW s d))),(1,some (.row D7 17 0 (d.qs.map C0))),(2,some (.box [.str nm,.i 3,.i f.op,.i f.col,.i f.code,.i f.lo,.i f.hi,.sl 6 (f.kids.map C3),A6,.i M,A6,.i V.op,.i V.col,.i V.code,.i V.lo,.i V.hi,.sl 6 (V.kids.map C3)]))]⟩) h0 rfl ⟨rfl,rfl,rfl,trivial⟩ ⟨rfl,⟨_,rfl⟩,rfl,trivial⟩ rfl rfl rfl) (B4 (a8 2 (C0 (⟨nm,3,f,[],M,[],V⟩:E3)) rfl ⟨.refl _,.refl _,.refl _,.refl _,.refl _,.refl _,.refl _,.refl _,.nil 2,.refl _,.nil 1,.refl _,.refl _,.refl _,.refl _,.refl _,.refl _,trivial⟩) (B2 h0))) ?_;refine C5 (id:=19) ⟨[(7,.b ok)],3,[(0,some (.box [.sl 2 (s.lists.map R0),.sl 7 (s.cols.map M7),.str d.prj,.str d.src,.i d.coh.op,.i d.coh.col,.i d.coh.code,.i d.coh.lo,.i d.coh.hi,.sl 6 (d.coh.kids.map C3),.i d.part,.i d.of,.i d.seed,.row 1 0 (d.qs++[(⟨nm,3,f,[],M,[],V⟩:E3)]).length])),(1,some (.row D7 17 0 ((d.qs++[(⟨nm,3,f,[],M,[],V⟩:E3)]).map C0)))]⟩ ?_ ?_)|refine A0 c1 ?_|refine A0 c2 ?_|refine A0 c3 ?_|refine A0 c5 ?_|(refine A2 (x:=nm) g0 (by omega) ?_) |refine S2 ?_|(refine T6 ?_ ?_<;>intro h<;>try exact V1 h)|intro el ke kg|intro el ke|exact T4|refine T5 ?_ ?_|intro ex|refine nc [0,1] [0,0] c4 rfl rfl rfl ⟨rfl,rfl,trivial⟩ ?_|refine nc [0,1,2] [0,1,0] c6 rfl rfl rfl ⟨rfl,rfl,rfl,trivial⟩ ?_)<;>try conv=>whnf)
 all_goals first
  |(exfalso;omega)
  |exact B0 h0 rfl ⟨rfl,trivial⟩ ⟨congrArg (fun z=>G1.box [.sl 2 (s.lists.map R0),.sl 7 (s.cols.map M7),.str d.prj,.str d.src,.i d.coh.op,.i d.coh.col,.i d.coh.code,.i d.coh.lo,.i d.coh.hi,.sl 6 (d.coh.kids.map C3),.i d.part,.i d.of,.i d.seed,.row 1 0 z]) (by rw[List.length_append];rfl),⟨_,congrArg (G1.row D7 17 _) (by rw[List.map_append];rfl)⟩,trivial⟩ rfl rfl rfl
  |exact D9 (B2 h0)
  |contradiction
  |(exfalso;simp_all;done)
theorem bE(s:A5)(hr:C8 s=0)(d:G0)(t:List UInt8)(hl:t.length≤20000)(pB:d.qs.length≤20000)(oF:t.dropWhile (B3 32)≠[])(nO:0≤H7 t)(nh:(W4 s t).2=0)(lZ:O4 (B1 (D3 [32] (F3 t)) 0)=true)(nv:¬t.takeWhile (B3 32)=AP)(lp:¬t.takeWhile (B3 32)=W8)(vq:¬t.takeWhile (B3 32)=X7):A9 Tryz.prog 44 2 (w9 s d) [.ref 0 0,.str t] 2 (w9 s ⟨d.prj,d.src,d.coh,d.part,d.of,d.seed,d.qs++[(Eb s t,false).1]⟩) (.b (Eb s t,false).2):=by
 have tC:=EE t
 have c1:=Ay t [32] (by omega)
 rw[KJ]at c1
 have c2:=s5 (I0 t) D6 (by omega)
 have ky:=s6 (t:=I0 t) (w:=D6)
 rw[show D6.length=7 from rfl]at ky
 have c3:A4 Tryz.prog 80 [.str (List.drop ((0:Nat):Int).toNat (List.take (H7 t).toNat (I0 t))),.str [32]] (.sl 1 ((D3 [32] (F3 t)).map F6)):=P4 (F3 t) [32] (by unfold F3;rw[List.length_take];omega) (by simp)
 have mZ:(F3 t).length≤20000:=by unfold F3;rw[List.length_take];omega
 have kq:=Bq 32 (F3 t)
 have lX:∀w∈D3 [32] (F3 t),w.length≤20000:=fun w hw=>Nat.le_trans (l9 hw) mZ
 have oT:(D3 [32] (F3 t)).length≤20001:=Nat.le_trans (l6 [32] _ _) (by omega)
 have og:Lib.lastIndex (I0 t) D6=H7 t:=rfl
 rw[og]at c2 ky
 have h7:=ky nO
 have lD:List.drop (H7 t+7).toNat (List.take ((I0 t).length:Int).toNat (I0 t))=(I0 t).drop ((H7 t).toNat+7):=by
  rw[Int.toNat_natCast,List.take_length,show (H7 t+7).toNat=(H7 t).toNat+7 by omega]
 have c4:=AQ s d ((I0 t).drop ((H7 t).toNat+7)) (by rw[List.length_drop];omega)
 have mS:K5 s ((I0 t).drop ((H7 t).toNat+7))=W4 s t:=rfl
 rw[mS]at c4
 rw[←lD]at c4
 have g0:=E4 (ws:=D3 [32] (F3 t)) (i:=0) kq
 have c5:=Az (B1 (D3 [32] (F3 t)) 0)
 rw[decide_eq_true oF]at c1
 rw[lZ]at c5
 simp only[Mv]
 clear lZ
 generalize B1 (D3 [32] (F3 t)) 0=nm at *
 generalize W4 s t=C at *
 obtain⟨f,fe⟩:=C
 dsimp only at *
 subst nh
 generalize D3 [32] (F3 t)=ws at *
 obtain⟨ok,lI⟩:∃ok,ok=false:=⟨false,rfl⟩
 rw[←lI]
 clear mS lD lX oT mZ ky
 generalize I0 t=r at *
 generalize H7 t=a at *
 generalize hk:t.takeWhile (B3 32)=k at *
 refine G4 Tryz.func44 82 fun E h0=>?_
 repeat'((first|(refine B6 19 ?_;refine F5 (id:=19) (σ':=⟨[(0,.ref 0 0),(7,.b false),(11,.iptr (C0 (⟨nm,0,f,[],0,[],zX⟩:E3)))],3,[(0,some (.box (DW s d))),(1,some (.row D7 17 0 (d.qs.map C0)))]⟩) (B4 (B0 (σ':=⟨[(0,.ref 0 0),(7,.b false),(11,.ref 2 0)],3,[(0,some (.box (DW s d))),(1,some (.row D7 17 0 (d.qs.map C0))),(2,some (.box [.str nm,.i 0,.i f.op,.i f.col,.i f.code,.i f.lo,.i f.hi,.sl 6 (f.kids.map C3),A6,.i 0,A6,.i 0,.i 0,.i 0,.i 0,.i 0,A6]))]⟩) h0 rfl ⟨rfl,rfl,rfl,trivial⟩ ⟨rfl,⟨_,rfl⟩,rfl,trivial⟩ rfl rfl rfl) (B4 (a8 2 (C0 (⟨nm,0,f,[],0,[],zX⟩:E3)) rfl ⟨.refl _,.refl _,.refl _,.refl _,.refl _,.refl _,.refl _,.refl _,.nil 2,.refl _,.nil 1,.refl _,.refl _,.refl _,.refl _,.refl _,.nil 6,trivial⟩) (B2 h0))) ?_;refine C5 (id:=19) ⟨[(7,.b false)],3,[(0,some (.box [.sl 2 (s.lists.map R0),.sl 7 (s.cols.map M7),.str d.prj,.str d.src,.i d.coh.op,.i d.coh.col,.i d.coh.code,.i d.coh.lo,.i d.coh.hi,.sl 6 (d.coh.kids.map C3),.i d.part,.i d.of,.i d.seed,.row 1 0 (d.qs++[(⟨nm,0,f,[],0,[],zX⟩:E3)]).length])),(1,some (.row D7 17 0 ((d.qs++[(⟨nm,0,f,[],0,[],zX⟩:E3)]).map C0)))]⟩ ?_ ?_)|refine A0 c1 ?_|refine A0 c2 ?_|refine A0 c3 ?_|refine A0 c5 ?_|(refine A2 (x:=nm) g0 (by omega) ?_) |refine S2 ?_|(refine T6 ?_ ?_<;>intro h<;>try exact V1 h)|intro el ke kg|intro el ke|exact T4|refine T5 ?_ ?_|intro ex|refine nc [0,1] [0,0] c4 rfl rfl rfl ⟨rfl,rfl,trivial⟩ ?_)<;>try conv=>whnf)
 all_goals first
  |(exfalso;omega)
  |exact B0 h0 rfl ⟨rfl,trivial⟩ ⟨congrArg (fun z=>G1.box [.sl 2 (s.lists.map R0),.sl 7 (s.cols.map M7),.str d.prj,.str d.src,.i d.coh.op,.i d.coh.col,.i d.coh.code,.i d.coh.lo,.i d.coh.hi,.sl 6 (d.coh.kids.map C3),.i d.part,.i d.of,.i d.seed,.row 1 0 z]) (by rw[List.length_append];rfl),⟨_,congrArg (G1.row D7 17 _) (by rw[List.map_append];rfl)⟩,trivial⟩ rfl rfl rfl
  |(subst lI;exact D9 (B2 h0))
  |contradiction
  |(exfalso;simp_all;done)
theorem Nw(s:A5)(hr:C8 s=0)(d:G0)(t:List UInt8)(hl:t.length≤20000)(pB:d.qs.length≤20000):A9 Tryz.prog 44 2 (w9 s d) [.ref 0 0,.str t] 2 (w9 s (Fk s d t).1) (.b (Fk s d t).2):=by
 unfold Fk
 by_cases he:t.dropWhile (B3 32)=[]∨H7 t<0
 ·rw[if_pos he]
  exact WL s d t hl he
 rw[if_neg he]
 have oF:t.dropWhile (B3 32)≠[]:=fun h=>he (.inl h)
 have nO:0≤H7 t:=by omega
 by_cases hb:¬(W4 s t).2=0∨O4 (B1 (D3 [32] (F3 t)) 0)=false
 ·rw[if_pos hb]
  exact aw s d t hl oF nO hb
 rw[if_neg hb]
 have nh:(W4 s t).2=0:=Decidable.of_not_not fun h=>hb (.inl h)
 have lZ:O4 (B1 (D3 [32] (F3 t)) 0)=true:=by
  cases h:O4 (B1 (D3 [32] (F3 t)) 0)
  ·exact absurd (.inr h) hb
  ·rfl
 unfold CK
 by_cases k1:t.takeWhile (B3 32)=AP
 ·rw[if_pos k1]
  exact az s hr d t hl pB oF nO nh lZ k1
 rw[if_neg k1]
 by_cases k2:t.takeWhile (B3 32)=W8
 ·rw[if_pos k2]
  exact bC s hr d t hl pB oF nO nh lZ k2
 rw[if_neg k2]
 by_cases k3:t.takeWhile (B3 32)=X7
 ·rw[if_pos k3]
  exact bD s hr d t hl pB oF nO nh lZ k3
 rw[if_neg k3]
 exact bE s hr d t hl pB oF nO nh lZ k1 k2 k3
end Go.Proofs.YtkcekccdcpmekaaGreatDoor
