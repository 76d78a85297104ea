/- Chapter 8: the reference's reader: samples and lines. -/
import Derived.Test.YtkcekccdcpmekaaGreatDoorQQs6
import Derived.Test.YtkcekccdcpmekaaGreatDoorQE3
import Derived.Test.YtkcekccdcpmekaaGreatDoorQB10
set_option linter.unusedVariables false
set_option linter.unnecessarySimpa false
set_option linter.unusedSimpArgs false
set_option maxHeartbeats 64000000
namespace Go.Proofs.YtkcekccdcpmekaaGreatDoor
open Go Go.Av
attribute [local irreducible] E8 B5 E5 E1 DQ E7 E9 St.le A4 A9
set_option maxRecDepth 100000
abbrev co:Nat:=45
abbrev dR(d:G0)(i v:Nat):List AV:=[.str d.prj,.str d.src,.i (A1.op d.coh),.i (A1.col d.coh),.i (A1.code d.coh),.i (A1.lo d.coh),.i (A1.hi d.coh),.sl 6 ((A1.kids d.coh).map C3),.i d.part,.i d.of,.i d.seed,.row i v d.qs.length]
abbrev Ji(d:G0):Hp:=[(0,some (.row D7 17 0 (d.qs.map C0)))]
theorem HH(t:List UInt8)(ht:t.length≤20000):A4 Tryz.prog 93 [.str t,.str [32]] (.b (!t.all (B3 32))):=by
 have c1:=Y9 t [32] (by omega)
 have e:(!t.all (B3 32))=decide (0≤Lib.index t [32]):=by
  rw[KS]
  by_cases h:t.dropWhile (B3 32)=[]
  ·rw[if_pos h]
   have e:=Fo 32 t
   rw[h,List.append_nil]at e
   have:=My 32 t
   rw[e]at this
   rw[this];rfl
  ·rw[if_neg h,decide_eq_true (by omega)]
   cases g:t.all (B3 32)
   ·rfl
   ·exact absurd (Ua g).2 h
 rw[e]
 generalize Lib.index t [32]=a at *
 refine D0 Tryz.func93 9 fun ki E h0=>?_
 clear ki
 repeat'((first|refine A0 c1 ?_ |refine S2 ?_|(refine T6 ?_ ?_<;>intro h<;>try exact V1 h)|intro el ke kg|intro el ke|exact T4|refine T5 ?_ ?_|intro ex)<;>try conv=>whnf)
 all_goals first
  |exact A3 rfl rfl
  |(exfalso;omega)
theorem Sd(t:List UInt8)(ht:t.length≤20000):A4 Tryz.prog 95 [.str t] (.tup [.agg [.i (BB t).1.1,.i (BB t).1.2.1,.i (BB t).1.2.2],.b (BB t).2]):=by
 have c1:=P4 t [32] (by omega) (by simp)
 have lX:∀w∈D3 [32] t,w.length≤20000:=fun w hw=>Nat.le_trans (l9 hw) ht
 unfold BB
 generalize D3 [32] t=ws at *
 by_cases hb:¬ws.length=6∨¬B1 ws 0=JX∨¬B1 ws 2=N8∨¬B1 ws 4=GL
 ·rw[if_pos hb]
  have g0:ws.length=6→ws[0]?=some (B1 ws 0):=fun h=>E4 (by omega)
  have g2:ws.length=6→ws[2]?=some (B1 ws 2):=fun h=>E4 (by omega)
  have g4:ws.length=6→ws[4]?=some (B1 ws 4):=fun h=>E4 (by omega)
  generalize B1 ws 0=w0 at *
  generalize B1 ws 2=w2 at *
  generalize B1 ws 4=w4 at *
  clear lX
  refine D0 Tryz.func95 79 fun ki E h0=>?_
  clear ki
  repeat'((first|(exfalso;rcases hb with h|h|h|h;(omega);exact absurd (Decidable.of_not_not ‹¬w0≠_›) h;exact absurd (Decidable.of_not_not ‹¬w2≠_›) h;exact absurd (Decidable.of_not_not ‹¬w4≠_›) h)|refine A0 c1 ?_|(refine A2 (x:=w0) (g0 (by omega)) (by omega) ?_)|(refine A2 (x:=w2) (g2 (by omega)) (by omega) ?_)|(refine A2 (x:=w4) (g4 (by omega)) (by omega) ?_) |refine S2 ?_|(refine T6 ?_ ?_<;>intro h<;>try exact V1 h)|intro el ke kg|intro el ke|exact T4|refine T5 ?_ ?_|intro ex)<;>try conv=>whnf)
  all_goals first
   |exact K0 (rs:=[.cell 2 co,.tmp 3]) (vs:=[_,_]) rfl ⟨H0 rfl rfl rfl (.refl _),⟨_,rfl,.refl _⟩,trivial⟩ rfl
   |(exfalso;omega)
   |(exfalso;rcases hb with h|h|h|h;(omega);exact h (by assumption);exact h (by assumption);exact h (by assumption))
 rw[if_neg hb]
 have hl6:ws.length=6:=Decidable.of_not_not fun g=>hb (.inl g)
 have e0:B1 ws 0=JX:=Decidable.of_not_not fun g=>hb (.inr (.inl g))
 have e2:B1 ws 2=N8:=Decidable.of_not_not fun g=>hb (.inr (.inr (.inl g)))
 have e4:B1 ws 4=GL:=Decidable.of_not_not fun g=>hb (.inr (.inr (.inr g)))
 have g0:=E4 (ws:=ws) (i:=0) (by omega)
 have g1:=E4 (ws:=ws) (i:=1) (by omega)
 have g2:=E4 (ws:=ws) (i:=2) (by omega)
 have g3:=E4 (ws:=ws) (i:=3) (by omega)
 have g4:=E4 (ws:=ws) (i:=4) (by omega)
 have g5:=E4 (ws:=ws) (i:=5) (by omega)
 rw[e0]at g0
 rw[e2]at g2
 rw[e4]at g4
 have n1:=An (B1 ws 1) (by have:=lX _ (List.mem_of_getElem? g1);omega)
 have n3:=An (B1 ws 3) (by have:=lX _ (List.mem_of_getElem? g3);omega)
 have n5:=An (B1 ws 5) (by have:=lX _ (List.mem_of_getElem? g5);omega)
 clear hb e0 e2 e4 lX
 generalize B1 ws 1=w1 at *
 generalize B1 ws 3=w3 at *
 generalize B1 ws 5=w5 at *
 generalize I5 w1=V1 at *
 generalize I5 w3=V3 at *
 generalize I5 w5=V5 at *
 obtain⟨a,x⟩:=V1
 obtain⟨b,y⟩:=V3
 obtain⟨c,z⟩:=V5
 dsimp only at n1 n3 n5 ⊢
 refine D0 Tryz.func95 79 fun ki E h0=>?_
 clear ki
 repeat'((first|refine A0 c1 ?_|refine A0 n1 ?_|refine A0 n3 ?_|refine A0 n5 ?_|(refine A2 (x:=JX) g0 (by omega) ?_)|(refine A2 (x:=w1) g1 (by omega) ?_)|(refine A2 (x:=N8) g2 (by omega) ?_)|(refine A2 (x:=w3) g3 (by omega) ?_)|(refine A2 (x:=GL) g4 (by omega) ?_)|(refine A2 (x:=w5) g5 (by omega) ?_) |refine S2 ?_|(refine T6 ?_ ?_<;>intro h<;>try exact V1 h)|intro el ke kg|intro el ke|exact T4|refine T5 ?_ ?_|intro ex)<;>try conv=>whnf)
 all_goals first
  |(exfalso;omega)
  |exact K0 (rs:=[.cell 2 co,.tmp 3]) (vs:=[_,_]) rfl ⟨H0 rfl rfl rfl (.refl _),⟨_,rfl,.refl _⟩,trivial⟩ (congrArg (fun u:Bool=>AV.tup [.agg [.i a,.i b,.i c],.b u]) (by first|rfl|(simp;done)|(simp;omega)|(simp_all;done)|(simp_all;omega)))
end Go.Proofs.YtkcekccdcpmekaaGreatDoor
namespace Go.Av
open Go Go.RowKit
def je(ops:Array Oper)(j:Nat):Bool:=match ops[j]? with
 |some o=>match o.op with
  |.call ⟨.value _,_,_⟩=>false
  |_=>gO ops j
 |none=>false
def cq(ops:Array Oper)(n:Nat)(done:List Bool)(mb:List MB)(σ:St)(i:Nat):Bool :=
 !(done.getD i false) && !(mb.any fun m=>Nat.beq m.i i) && ((Dd ops i).all fun j=>done.getD j false || mb.any fun m=>Nat.beq m.i j) && match ops[i]? with
  |some ⟨some d,.load T x,_,_,_,none⟩=>(match H1 ⟨M4 mb++σ.sl,0,[]⟩ x with
   |some (.ref b _)=>match A7 σ.hp b with
    |some (.bx _ _)=>true
    |_=>false
   |_=>false) && Bw n σ.sl (⟨i,d,.any,[],[]⟩::mb) && Gq ops mb i (.load T x) && ((List.range ops.size).all fun j=>done.getD j false || !(je ops j) || (Dd ops j).contains i)
  |_=>false
def jl(P:Program)(E:Env)(n:Nat)(ops:Array Oper)(done:List Bool)(mb:List MB)(σ:St)(K:St→Prop):Prop :=
 match (List.range ops.size).find? (Pf ops n done mb σ.sl)with
 |some i=>match ops[i]? with
  |some ⟨some d,op,_,_,_,none⟩=>Bv (FU op (M4 mb++σ.sl)) fun rd=>MV P op (H1 ⟨rd,0,[]⟩) fun av=>E1 P E n ops done (⟨i,d,av,rd,[]⟩::mb) σ K
  |_=>False
 |none=>match (List.range ops.size).find? (cq ops n done mb σ)with
  |some i=>match ops[i]? with
   |some ⟨some d,.load T x,_,_,_,none⟩=>Bv (FU (.load T x) (M4 mb++σ.sl)) fun rd=>match H1 ⟨rd,0,[]⟩ x with
    |some (.ref b off)=>match A7 σ.hp b with
     |some (.bx τ l)=>MZ P T l off fun av=>E1 P E n ops done (⟨i,d,av,rd,[(b,some (.bx τ l))]⟩::mb) σ K
     |_=>False
    |_=>False
   |_=>False
  |none=>MQ (Iv ops done mb) fun L=>match L with
   |[]=>cond (MX ops done mb) (K ⟨M4 mb++σ.sl,σ.nx,σ.hp⟩) False
   |i::r=>Jt P E n ops done mb σ K (i::r)
theorem Db{P:Program}{E:Env}{n:Nat}{ops:Array Oper}{done:List Bool}{mb:List MB}{σ:St}{K:St→Prop}(kf:Nat.beq done.length ops.size=true)(lE:FH ops=true)(h:jl P E n ops done mb σ K):E1 P E n ops done mb σ K:=by
 unfold jl at h
 split at h
 ·rename_i i hi
  have hc:=List.find?_some hi
  split at h
  ·rename_i d op ty pos after oC
   simp only[Pf,oC,Bool.and_eq_true,Bool.not_eq_true']at hc
   exact Qh oC hc.2.2 hc.2.1.2 hc.1.1.1 (Y6 h)
  ·exact h.elim
 ·split at h
  ·rename_i i hi
   have hc:=List.find?_some hi
   split at h
   ·rename_i d T x ty pos after oC
    have h:=Y6 h
    split at h
    ·rename_i b off hx
     split at h
     ·rename_i τ l hb
      simp only[cq,oC,Bool.and_eq_true,Bool.not_eq_true']at hc
      obtain⟨av,hq,h⟩:=Qi (τ:=τ) hx h
      exact Iw oC hc.2.1.2 hc.2.1.1.2 hc.1.1.1 hq (fun p hp=>by rw[List.mem_singleton.1 hp];exact hb) h
     ·exact h.elim
    ·exact h.elim
   ·exact h.elim
  ·exact OU kf lE h
end Go.Av
namespace Go.Proofs.YtkcekccdcpmekaaGreatDoor
open Go Go.Av
attribute [local irreducible] E8 B5 E5 E1 DQ E7 E9 St.le A4 A9
set_option maxRecDepth 100000
end Go.Proofs.YtkcekccdcpmekaaGreatDoor
