/- Chapter 3: a byte that is changed is noticed (plain). -/
import Derived.Test.YtiphlhoclaogjabGreatDoorQKb9
import Derived.Test.YtiphlhoclaogjabGreatDoorQXt2
import Derived.Test.YtiphlhoclaogjabGreatDoorQBk1
import Derived.Test.YtiphlhoclaogjabGreatDoorQC4
import Derived.Test.YtiphlhoclaogjabGreatDoorQF7
import Derived.Test.YtiphlhoclaogjabGreatDoorQB8
import Derived.Test.YtiphlhoclaogjabGreatDoorQB12
import Derived.Test.YtiphlhoclaogjabGreatDoorQB4
import Derived.Test.YtiphlhoclaogjabGreatDoorQAvI
import Derived.Test.YtiphlhoclaogjabGreatDoorQKd0
import Derived.Test.YtiphlhoclaogjabGreatDoorQB10
set_option linter.unusedVariables false
set_option linter.unnecessarySimpa false
set_option linter.unusedSimpArgs false
namespace Go.Proofs.YtiphlhoclaogjabGreatDoor
open Go Go.Av
attribute [local irreducible] D1 B5 D5 D3 DQ D7 E0 St.le B3 B6
set_option maxRecDepth 100000
theorem Mr:∀ (l:List UInt8) {g h:Nat},g < 1000003 → h < 1000003 → S5 l g = S5 l h → g = h
 | [],_,_,_,_,e=>e
 | c :: r,g,h,hg,hh,e=>by
   rw [S5,S5] at e
   have:=Mr r (Nat.mod_lt _ (by decide)) (Nat.mod_lt _ (by decide)) e
   omega
theorem Fx:∀ (l:List UInt8) (k:Nat) (b c:UInt8) (g:Nat),l[k]? = some c → b ≠ c → S5 (l.set k b) g ≠ S5 l g
 | [],k,b,c,g,hk,_=>by simp at hk
 | x :: r,0,b,c,g,hk,hb=>by
   simp only [List.getElem?_cons_zero,Option.some.injEq] at hk
   subst hk
   rw [List.set_cons_zero,S5,S5]
   intro e
   have h1:=Mr r (Nat.mod_lt _ (by decide)) (Nat.mod_lt _ (by decide)) e
   have b1:=b.toNat_lt
   have b2:=x.toNat_lt
   apply hb
   apply UInt8.toNat_inj.1
   omega
 | x :: r,k + 1,b,c,g,hk,hb=>by
   rw [List.set_cons_succ,S5,S5]
   exact Fx r k b c _ (by simpa using hk) hb
theorem Nh {l:List UInt8} {k:Nat} {b c:UInt8} (hk:l[k]? = some c) (hb:b ≠ c):M8 (l.set k b) ≠ M8 l:=by
 have:=Fx l k b c 7 hk hb
 unfold M8
 omega
structure QC (L:List UInt8):Prop where
 tail:∃ M,L = 115 :: M ∧ 115 ∉ M
 init:∃ I,L = I ++ [10] ∧ 10 ∉ I
theorem VF {c:UInt8} {l:List UInt8} (h:l.all (C8 c) = true):c ∉ l:=fun hm=>by
 have:=List.all_eq_true.1 h c hm
 unfold C8 at this
 simp at this
theorem QD (n:Int):115 ∉ Lib.itoa n:=fun hm=>by
 have hd:∀ u:Nat,(115:UInt8) ∉ Lib.decDigits u:=fun u hm=>by
  have:=List.all_eq_true.1 (j9 u).2.1 _ hm
  revert this;decide
 unfold Lib.itoa at hm
 split at hm
 ·rcases List.mem_cons.1 hm with h | h
  ·revert h;decide
  ·exact hd _ h
 ·exact hd _ hm
theorem KL (B:List UInt8):QC (B7 (P6 B)):=by
 have e:B7 (P6 B) = [115,117,109,32] ++ Lib.itoa (M8 B) ++ [10]:=(Do _).symm
 have h10:=VF (OS (c:=10) (.inl rfl) (M8 B))
 have h115:=QD (M8 B)
 rw [e]
 generalize Lib.itoa (M8 B) = d at *
 refine ⟨⟨117 :: 109 :: 32 :: (d ++ [10]),rfl,fun hm=>?_⟩,⟨115 :: 117 :: 109 :: 32 :: d,rfl,fun hm=>?_⟩⟩
 ·simp only [List.mem_cons,List.mem_append,List.not_mem_nil,or_false] at hm
  rcases hm with h | h | h | h | h
  ·revert h;decide
  ·revert h;decide
  ·revert h;decide
  ·exact h115 h
  ·revert h;decide
 ·simp only [List.mem_cons] at hm
  rcases hm with h | h | h | h | h
  ·revert h;decide
  ·revert h;decide
  ·revert h;decide
  ·revert h;decide
  ·exact h10 h
def Ends (B:List UInt8):Prop:=B = [] ∨ ∃ A,B = A ++ [10]
theorem KM (L:List (List (List UInt8))):Ends (L.flatMap B7):=by
 induction L with
 | nil=>exact .inl rfl
 | cons w L ih =>
   right
   rw [List.flatMap_cons]
   rcases ih with h | ⟨A,h⟩
   ·rw [h,List.append_nil];exact ⟨_,rfl⟩
   ·rw [h, ← List.append_assoc];exact ⟨_,rfl⟩
theorem VG {B B' L L':List UInt8} {k:Nat} {b c:UInt8} (hL:QC L) (hL':QC L') (hB:Ends B) (hB':Ends B') (hc:(B ++ L)[k]? = some c) (hb:b ≠ c) (e:(B ++ L).set k b = B' ++ L')
  (hsame:B' = B → L' = L) (hsum:k < B.length → B' = B.set k b → ¬ L' = L):False:=by
 obtain ⟨⟨M,rfl,hM⟩,⟨I,hI,hI10⟩⟩:=hL
 obtain ⟨⟨M',rfl,hM'⟩,⟨I',hI',hI10'⟩⟩:=hL'
 have hk:=(List.getElem?_eq_some_iff.1 hc).1
 by_cases hkB:k < B.length
 ·rw [List.set_append_left _ _ hkB] at e
  have hl:(B.set k b).length = B.length:=List.length_set
  rcases List.append_eq_append_iff.1 e with ⟨X,h1,h2⟩ | ⟨X,h1,h2⟩
  ·cases X with
   | nil=>exact hsum hkB (by rw [h1,List.append_nil]) (by rw [List.nil_append] at h2;exact h2.symm)
   | cons x X =>
     rw [List.cons_append,List.cons.injEq] at h2
     exact hM (by rw [h2.2];simp)
  ·cases X with
   | nil=>exact hsum hkB (by rw [h1,List.append_nil]) (by rw [List.nil_append] at h2;exact h2)
   | cons x X =>
     rw [List.cons_append,List.cons.injEq] at h2
     exact hM' (by rw [h2.2];simp)
 ·rw [List.set_append_right _ _ (by omega)] at e
  rw [List.getElem?_append_right (by omega)] at hc
  generalize k - B.length = j at *
  rcases List.append_eq_append_iff.1 e with ⟨X,h1,h2⟩ | ⟨X,h1,h2⟩
  ·-- more ahead
   cases X with
   | nil =>
     rw [List.append_nil] at h1
     rw [List.nil_append,hsame h1] at h2
     have:=congrArg (·[j]?) h2
     rw [List.getElem?_set_self (List.getElem?_eq_some_iff.1 hc).1,hc] at this
     exact hb (Option.some.inj this)
   | cons x X =>
     rcases hB' with h | ⟨A,h⟩
     ·rw [h] at h1;simp at h1
     ·rw [h] at h1
      have hx:(x :: X).getLast? = some 10:=by
       have:=congrArg List.getLast? h1
       rw [List.getLast?_append,List.getLast?_append] at this
       simpa using this.symm
      -- the line feed stands ahead of the end of the line
      have hlen:=congrArg List.length h2
      rw [List.length_set,List.length_append] at hlen
      have hIl:=congrArg List.length hI
      rw [List.length_append,List.length_singleton] at hIl
      have hget:((115 :: M).set j b)[X.length]? = some 10:=by
       rw [h2,List.getElem?_append_left (by simp), ← hx,List.getLast?_eq_getElem?]
       simp
      have hj:j = X.length:=by
       refine Decidable.byContradiction fun hne=>?_
       rw [List.getElem?_set_ne hne,hI,List.getElem?_append_left (by simp only [List.length_cons] at hlen hIl;omega)] at hget
       exact hI10 (List.mem_of_getElem? hget)
      have hd:=congrArg (List.drop (X.length + 1)) h2
      rw [List.drop_set_of_lt (by omega),show X.length + 1 = (x :: X).length from rfl,List.drop_left] at hd
      rw [List.length_cons,List.drop_succ_cons] at hd
      exact hM (List.mem_of_mem_drop (i:=X.length) (by rw [hd];simp))
  ·cases X with
   | nil =>
     rw [List.append_nil] at h1
     rw [List.nil_append,hsame h1.symm] at h2
     have:=congrArg (·[j]?) h2
     rw [List.getElem?_set_self (List.getElem?_eq_some_iff.1 hc).1,hc] at this
     exact hb (Option.some.inj this.symm)
   | cons x X =>
     rcases hB with h | ⟨A,h⟩
     ·rw [h] at h1;simp at h1
     ·rw [h] at h1
      have hx:(x :: X).getLast? = some 10:=by
       have:=congrArg List.getLast? h1
       rw [List.getLast?_append,List.getLast?_append] at this
       simpa using this.symm
      have hm:(10:UInt8) ∈ x :: X:=List.mem_of_getLast? hx
      have h3:I' ++ [10] = (x :: X) ++ (115 :: M).set j b:=by rw [← hI',h2]
      have hne:(115 :: M).set j b ≠ []:=by
       intro g
       have:=congrArg List.length g
       rw [List.length_set] at this
       cases this
      have h4:I' = (x :: X) ++ ((115 :: M).set j b).dropLast:=by
       have:=congrArg List.dropLast h3
       rw [List.dropLast_concat,List.dropLast_append_of_ne_nil hne] at this
       exact this
      exact hI10' (by rw [h4];exact List.mem_append_left _ hm)
theorem IR {s:B8} {rows:List (List Int)} {t:List UInt8} (h:L3 s rows = (t,0)):F8 s = 0 ∧ t = O5 s rows:=by
 rw [BW] at h
 by_cases hc:¬ r9 s rows = 0
 ·rw [if_pos hc] at h
  simp only [Prod.mk.injEq] at h
  exact absurd h.2 hc
 rw [if_neg hc] at h
 by_cases hl:20000 < (O5 s rows).length
 ·rw [if_pos hl] at h;cases h
 rw [if_neg hl] at h
 simp only [Prod.mk.injEq,and_true] at h
 exact ⟨(IF (Decidable.of_not_not hc)).1,h.symm⟩
theorem Ni {s:B8} {rows:List (List Int)} {t:List UInt8} (h:L3 s rows = (t,0)) {k:Nat} {b c:UInt8} (hk:t[k]? = some c) (hb:b ≠ c):¬ (a8 (t.set k b)).2.2 = 0:=fun h2=>by
 obtain ⟨_,hT⟩:=IR h
 generalize hP:a8 (t.set k b) = P at *
 obtain ⟨⟨s',r'⟩,n,e⟩:=P
 dsimp only at h2
 subst h2
 obtain ⟨_,h3⟩:=Mm hP
 obtain ⟨_,hT'⟩:=IR h3
 dsimp only at hT'
 unfold O5 at hT hT'
 have e1:Ends (F9 s rows):=by rw [← Ds];exact KM _
 have e2:Ends (F9 s' r'):=by rw [← Ds];exact KM _
 rw [hT] at hk hT'
 refine VG (KL _) (KL _) e1 e2 hk hb hT' (fun g=>by rw [g]) fun hlt g g2=>?_
 have h5:(F9 s rows)[k]? = some c:=by rw [List.getElem?_append_left hlt] at hk;exact hk
 have h6:=Nh h5 hb
 rw [← g] at h6
 unfold P6 at g2
 have g3:=(Do (Lib.itoa (M8 (F9 s' r')))).trans (g2.trans (Do _).symm)
 have g4:=List.append_cancel_right g3
 have g5:=List.append_cancel_left g4
 have n1:=(Ez (F9 s' r')).2
 have n2:=(Ez (F9 s rows)).2
 rw [g5,n2] at n1
 simp only [Prod.mk.injEq,and_true] at n1
 exact h6 n1.symm
end Go.Proofs.YtiphlhoclaogjabGreatDoor
namespace Go.Proofs.YtiphlhoclaogjabGreatDoor
open Go Go.Av
attribute [local irreducible] D1 B5 D5 D3 DQ D7 E0 St.le B3 B6
set_option maxRecDepth 100000
def aw (l:List Pk) (i:Nat):Int:=l.foldl (fun (m:Int) (p:Pk)=>if p.col = (i:Int) then max m p.lev else m) 0
abbrev Yv (s:B8) (c:Int):Pk:=⟨c,Lu s c (OG s c)⟩
abbrev aX (s:B8) (d:Pk):Pk:=⟨d.col,Lu s d.col d.lev⟩
def aY (ws:List Int) (width:Int):Int:=if 0 ≤ H5 (fun x=>decide (x = width)) ws 0 then ws.length - H5 (fun x=>decide (x = width)) ws 0 else 0
def aZ (s:B8) (e:L4):List Pk :=
 if e.op = 4 ∨ e.op = 5 ∨ e.op = 10 ∨ e.op = 11 ∨ e.op = 12 ∨ e.op = 14 then (if 0 < e.col then [Yv s e.col] else [])
 else if e.op = 13 then [⟨e.col,Lu s e.col (aY (I0 s e.col).widths e.num)⟩] else []
def aa (s:B8) (e:L4):List Pk:=e.dims.map (aX s) ++ aZ s e ++ e.cols.map (Yv s)
mutual
def ab (s:B8):L4 → List Pk
 | .mk o n nm c cs ds cd ev ks=>Pc (aw (aa s (.mk o n nm c cs ds cd ev ks) ++ Vj s cd ++ Vj s ev ++ Yw s ks)) 0 s.cols.length
def Yw (s:B8):List L4 → List Pk
 | []=>[]
 | x :: r=>ab s x ++ Yw s r
end
structure Sc where
 name:List UInt8
 kind:Int
def Vr (nm:List UInt8):List Sc → Int × Int → Int × Int
 | [],z=>z
 | b :: r,z=>Vr nm r (if b.name = nm then (b.kind,0) else z)
def ae (before:List Sc) (nm:List UInt8):Int × Int:=Vr nm before (0,24)
def af (before:List Sc) (e:L4) (numbers:Bool):Int × Int :=
 if e.op = 2 then ae before e.name else if numbers = false then (0,16) else if Ug e.op then (1,0) else (e.op - 8,0)
mutual
def VH (before:List Sc):L4 → Int × Int
 | .mk o n nm c cs ds cd ev ks=>if (QE before ks true).1 = 0 then af before (.mk o n nm c cs ds cd ev ks) (QE before ks true).2 else (0,(QE before ks true).1)
def QE (before:List Sc):List L4 → Bool → Int × Bool
 | [],b=>(0,b)
 | x :: r,b=>if (VH before x).2 = 0 then QE before r (b && decide ((VH before x).1 = 1)) else ((VH before x).2,b)
end
structure MapLv (m:List (Key × AV)) (lv:Nat → Int):Prop where
 keys:X7 (.int .i64) m
 get:∀ c:Nat,k9 m (.i .i64 c) (Q6 (.int .i64 0)) = .i (lv c)
end Go.Proofs.YtiphlhoclaogjabGreatDoor
namespace Go.Proofs.YtiphlhoclaogjabGreatDoor
open Go Go.Av
attribute [local irreducible] D1 B5 D5 D3 DQ D7 E0 St.le B3 B6
set_option maxRecDepth 100000
def z7:I8:=.mk 0 0 0 0 0 []
def ah:I8:=.mk 1 0 0 0 0 []
def t7:L4:=.mk 10 0 [] (-1) [] [⟨1,1⟩] ah z7 []
def x7:L4:=.mk 6 0 [] 0 [] [] z7 z7 [.mk 2 0 [116] 0 [] [] z7 z7 [], .mk 1 0 [] 0 [] [] z7 z7 []]
end Go.Proofs.YtiphlhoclaogjabGreatDoor
namespace Go.Av
open Go Go.RowKit
theorem KU {P:Program} {E:Env} {n:Nat} {ops:Array Oper} {rest:List Oper} {σ:St} {K:St → Prop} {d:Option Nat} {S T:Nat} {x:Operand} {ty:TypeId} {pos:String} {after:Array Edge} (i:Nat) {ver len:Nat} (hx:E4 σ x = some (.row i ver len))
  {σ':St} (h:St.le E n σ σ') (k:B5 P E n ops (⟨d, .convert S T x,ty,pos,after,none⟩ :: rest) σ' K):B5 P E n ops (⟨d, .convert S T x,ty,pos,after,none⟩ :: rest) σ K:=Cm h k
theorem VI {P:Program} {E:Env} {n:Nat} {ops:Array Oper} {rest:List Oper} {σ:St} {K:St → Prop} {o:Oper} {l:List AV} {σ':St} (h:St.le E n σ σ') (k:B5 P E n ops (o :: rest) σ' K):Q8 P E n ops o rest l σ K:=⟨Cm h k⟩
end Go.Av
namespace Go.Proofs.YtiphlhoclaogjabGreatDoor
open Go Go.Av
attribute [local irreducible] D1 B5 D5 D3 DQ D7 E0 St.le B3 B6
set_option maxRecDepth 100000
set_option maxHeartbeats 16000000 in
theorem Sd (l:List UInt8) (at':Int) (b:UInt8) (hl:l.length ≤ maxLen):B3 Tryz.prog 5 [.sl 1 (l.map R8), .i at', .v (.int .u8 b.toNat)] (.b true):=by
 unfold maxLen at hl
 have hb:=b.toNat_lt
 have hL:(l.take 400).length ≤ 400:=List.length_take_le _ _
 have hnew:=GP l (by omega)
 have hsrc:=Gg (l.take 400) 0 8 hL (by decide) (by decide)
 obtain ⟨hf,hlen⟩:=Gh (l.take 400) 0 8 (by decide) (by decide)
 generalize k7 (l.take 400) 0 8 = X at *
 obtain ⟨⟨s,rows⟩,a1⟩:=X
 generalize l.take 400 = t at *
 dsimp only at hsrc hf hlen
 have e1:=(T8 s rows).congr (congrArg (fun z:List UInt8 × Int=>AV.tup [.str z.1, .i z.2]) hf)
 dsimp only at e1
 have hgp:1 ≤ (O5 s rows).length:=by
  unfold O5
  rw [List.length_append]
  have:1 ≤ (B7 (P6 (F9 s rows))).length:=List.length_pos_iff.2 (d6 _)
  omega
 have hch:=fun (k:Nat) (c:UInt8) (hk:(O5 s rows)[k]? = some c) (hb:b ≠ c)=>Ni hf (k:=k) (b:=b) (c:=c) hk hb
 clear hf
 generalize O5 s rows = G at *
 have hmo:=Lm at' G.length (by omega)
 have hml:=W1 (k:=at') (n:=G.length) (by omega)
 generalize Df at' G.length = k at *
 obtain ⟨gk,hgk⟩:∃ el,G[k.toNat]? = some el:=⟨_,List.getElem?_eq_getElem (by omega)⟩
 have hch:=hch k.toNat gk hgk
 have hcl:(G.set k.toNat b).length = G.length:=List.length_set
 have e4:=BQ (G.set k.toNat b)
 generalize a8 (G.set k.toNat b) = Q at *
 obtain ⟨⟨s2,r2⟩,n2,f2⟩:=Q
 dsimp only at e4 hch
 have ha:=Ch
 have hne:¬ (gk.toNat:Int) = b.toNat → b ≠ gk:=fun h e=>h (by rw [e])
 refine F3 Tryz.func5 64 fun hrd E h0=>?_
 clear hrd
 repeat' ((first | refine X8 [] [] hnew rfl rfl rfl rfl rfl trivial rfl rfl rfl rfl rfl ?_ | refine A9 e1 ?_ | refine A9 e4 ?_ | refine A9 hmo ?_ | refine A9 ha ?_ | (refine A7 (x:=gk) hgk (by omega) ?_) | refine Jf (l:=G) rfl rfl (by omega) ?_ | refine KU 2 rfl (σ':=⟨[(52, .sl 1 ((G.set k.toNat b).map R8))],0,[]⟩) (A8 h0 rfl ⟨congrArg (fun z=>some (AV.sl 1 z)) (by rw [List.map_set];rfl),trivial⟩ trivial rfl rfl rfl) ?_ |refine A1 ?_|refine S1 ?_|refine Z1 ?_|refine Z2 ?_|(refine And.intro ?_ ?_<;>intro h<;>try first|(exfalso;omega)|exact absurd rfl h)|refine Z3 ?_|refine Z4 ?_|intro el hel hbB|intro el hel|intro ex|refine Z5 ?_|(refine A6 ?_ ?_;exact ⟨by kernel_rfl,by decide⟩)|refine A5 ?_ ?_|exact A4|refine A3 ?_ ?_|exact A2|(refine A0 ?_ ?_ ?_;kernel_rfl;kernel_rfl) | refine nc [0] [0] hsrc rfl rfl rfl ⟨rfl,trivial⟩ ?_) <;> (try (conv=>whnf)))
 all_goals first
  | exact B2 rfl rfl
  | (exfalso;omega)
  | (exfalso;exact hch (hne (by assumption)) (by omega))
theorem VJ (l:List AV) (h:BU Tryz.prog Tryz.f5.params.toList l):B3 Tryz.prog 5 l (.b true):=by
 obtain ⟨a1,r1,rfl,h1,a2,r2,rfl,h2,a3,r3,rfl,h3,rfl⟩:=h
 obtain ⟨l,hl,rfl⟩:=Ll h1
 obtain ⟨n,_,rfl⟩:=Vb h2
 obtain ⟨b,hb,rfl⟩:=Qy Tryz.underlying5 h3
 have e:b = (UInt8.ofNat b).toNat:=by simp;omega
 rw [e]
 exact Sd l n (UInt8.ofNat b) hl
end Go.Proofs.YtiphlhoclaogjabGreatDoor
namespace Go.Proofs.YtiphlhoclaogjabGreatDoor
open Go Go.Av
attribute [local irreducible] D1 B5 D5 D3 DQ D7 E0 St.le B3 B6
set_option maxRecDepth 100000
theorem aj {f:Nat} {l:List AV} (h:Sh Tryz.prog f 4 l):∃ b,l = [.b b]:=WN Tryz.underlying4 h
theorem OZ {f:Nat} {l:List AV} (h:Sh Tryz.prog f 29 l):∃ ws:List Int,ws.length ≤ maxLen ∧ l = [.sl 1 (ws.map wA)]:=by
 obtain ⟨f2,ls,hl,hall,rfl,_⟩:=Bl (c:=1) Tryz.underlying29 (by kernel_rfl) h
 obtain ⟨ws,rfl,_⟩:=p9 (F:=wA) (R:=OD) (fun x hx=>Ip (hall x hx))
 exact ⟨ws,by rw [List.length_map] at hl;exact hl,rfl⟩
theorem Yx {f:Nat} {l:List AV} (h:Sh Tryz.prog f 49 l):∃ c:C1,True ∧ l = C2 c:=by
 obtain ⟨f',h,_⟩:=CJ (ts:=[9,3,3,3,3,29,4]) Tryz.underlying49 (by kernel_rfl) h
 obtain ⟨x1,r1,h1,⟨x2,r2,h2,⟨x3,r3,h3,⟨x4,r4,h4,⟨x5,r5,h5,⟨x6,r6,h6,⟨x7,r7,h7,h8,rfl⟩,rfl⟩,rfl⟩,rfl⟩,rfl⟩,rfl⟩,rfl⟩:=h
 obtain ⟨y1,_,rfl⟩:=Tt h1
 obtain ⟨y2,_,rfl⟩:=Ip h2
 obtain ⟨y3,_,rfl⟩:=Ip h3
 obtain ⟨y4,_,rfl⟩:=Ip h4
 obtain ⟨y5,_,rfl⟩:=Ip h5
 obtain ⟨y6,_,rfl⟩:=OZ h6
 obtain ⟨y7,rfl⟩:=aj h7
 cases h8
 exact ⟨⟨y1,y2,y3,y4,y5,y6,y7⟩,trivial,rfl⟩
theorem Zg {f:Nat} {l:List AV} (h:Sh Tryz.prog f 77 l):∃ c:CL,True ∧ l = F2 c:=by
 obtain ⟨nm,cs,_,_,rfl⟩:=Wa h
 exact ⟨(nm,cs),trivial,rfl⟩
theorem Yy {f:Nat} {l:List AV} (h:Sh Tryz.prog f 26 l):∃ s:B8,l = sL s:=by
 obtain ⟨f',h,_⟩:=CJ (ts:=[23,24]) Tryz.underlying26 (by kernel_rfl) h
 obtain ⟨x1,r1,h1,⟨x2,r2,h2,h3,rfl⟩,rfl⟩:=h
 cases h3
 obtain ⟨f2,ls,_,hall,rfl,_⟩:=Bl (c:=2) Tryz.underlying23 (by kernel_rfl) h1
 obtain ⟨f3,cs,_,hall2,rfl,_⟩:=Bl (c:=7) Tryz.underlying24 (by kernel_rfl) h2
 obtain ⟨ls,rfl,_⟩:=p9 (F:=F2) (R:=fun _=>True) (fun x hx=>Zg (hall x hx))
 obtain ⟨cs,rfl,_⟩:=p9 (F:=C2) (R:=fun _=>True) (fun x hx=>Yx (hall2 x hx))
 exact ⟨⟨ls,cs⟩,rfl⟩
theorem XP {a:AV} (h:Q9 Tryz.prog 26 a):∃ s:B8,a = sA s:=by
 obtain ⟨f,l,rfl,hs⟩:=WO (by kernel_rfl) h
 obtain ⟨s,rfl⟩:=Yy hs
 exact ⟨s,rfl⟩
end Go.Proofs.YtiphlhoclaogjabGreatDoor
