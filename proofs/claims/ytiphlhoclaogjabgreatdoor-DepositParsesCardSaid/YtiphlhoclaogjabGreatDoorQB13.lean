/- Chapter 2: values that a row can have, at all levels. Draws: values, rows and picks, and that they are right. Chapter 2: when a coarser level divides as a finer one does. Chapter 2: the least level of a column of a drawn schema. -/
import Derived.Test.YtiphlhoclaogjabGreatDoorQB12
import Derived.Test.YtiphlhoclaogjabGreatDoorQB8
import Derived.Test.YtiphlhoclaogjabGreatDoorQSx
set_option linter.unusedVariables false
set_option linter.unnecessarySimpa false
set_option linter.unusedSimpArgs false
namespace Go.Proofs.YtiphlhoclaogjabGreatDoor
open Go Go.Av
attribute [local irreducible] D6 B8 D8 D7 DQ E0 E1 St.le B4 B9
set_option maxRecDepth 100000
def Cs (ws:List Int) (lv:Nat):Int:=ws.getD (ws.length - lv) 0
def Ta (ws:List Int):Bool:=decide (1 ≤ ws.length) && decide (ws.length ≤ 4) && decide (Cs ws ws.length = 1) && ((List.range 5).all fun a=>(List.range (a + 1)).all fun b=>decide (b = 0) || decide (ws.length < a) || (decide (1 ≤ Cs ws a ∧ Cs ws a ≤ 20) && decide (1 ≤ Cs ws b ∧ Cs ws b ≤ 20) && decide (Cs ws b = Cs ws a * (Cs ws b / Cs ws a) ∧ 1 ≤ Cs ws b / Cs ws a)))
theorem Ls:BL.all Ta = true:=by decide +kernel
theorem Eo {c:C5} {lv:Nat} (h:lv ≤ c.widths.length):E6 c lv = Cs c.widths lv:=by
 unfold E6 Cs
 congr 1
 omega
theorem Io {c:C5} {nm:List UInt8} (h:T3 c nm):1 ≤ c.widths.length ∧ c.widths.length ≤ 4 ∧ E6 c c.widths.length = 1:=by
 have h1:=List.all_eq_true.1 Ls _ h.wid
 simp only [Ta,Bool.and_eq_true,decide_eq_true_eq] at h1
 rw [Eo (Nat.le_refl _)]
 exact ⟨h1.1.1.1,h1.1.1.2,h1.1.2⟩
theorem AQ {c:C5} {nm:List UInt8} (h:T3 c nm) {a b:Nat} (hb:1 ≤ b) (hab:b ≤ a) (ha:a ≤ c.widths.length):(1 ≤ E6 c a ∧ E6 c a ≤ 20) ∧ (1 ≤ E6 c b ∧ E6 c b ≤ 20) ∧ ∃ m,1 ≤ m ∧ E6 c b = E6 c a * m:=by
 have h1:=List.all_eq_true.1 Ls _ h.wid
 simp only [Ta,Bool.and_eq_true,decide_eq_true_eq,List.all_eq_true,List.mem_range,Bool.or_eq_true] at h1
 have h2:=h1.2 a (by omega) b (by omega)
 rw [Eo ha,Eo (by omega)]
 rcases h2 with (h2 | h2) | h2
 ·omega
 ·omega
 ·exact ⟨h2.1.1,h2.1.2,_,h2.2.2,h2.2.1⟩
theorem S7 (v:Int) {w:Int}:E8 v w = w * (v / w):=by
 have:=Int.mul_ediv_add_emod v w
 unfold E8
 omega
theorem RI (v:Int):E8 v 1 = v:=by unfold E8;omega
theorem Lt (v:Int) {w m:Int} (hw:1 ≤ w) (hm:1 ≤ m):E8 (E8 v w) (w * m) = E8 v (w * m):=by
 rw [S7,S7,S7]
 congr 1
 rw [Int.mul_ediv_mul_of_pos _ _ (by omega:(0:Int) < w),Int.ediv_ediv_of_nonneg (by omega)]
theorem BM {x v w:Int} (hw:1 ≤ w) (h1:E8 v w ≤ x) (h2:x < E8 v w + w):E8 x w = E8 v w:=by
 rw [S7] at h1 h2
 rw [S7,S7]
 congr 1
 have e:x = (x - w * (v / w)) + w * (v / w):=by omega
 rw [e,Int.add_mul_ediv_left _ _ (by omega:w ≠ 0),Int.ediv_eq_zero_of_lt (by omega) (by omega)]
 omega
theorem Ji {x v w m:Int} (hw:1 ≤ w) (hm:1 ≤ m) (h1:E8 v w ≤ x) (h2:x < E8 v w + w):E8 x (w * m) = E8 v (w * m):=by
 rw [← Lt x hw hm,BM hw h1 h2,Lt v hw hm]
def Az (c:C5) (v:Int):Prop:=(c.low ≤ v ∧ v ≤ c.high) ∨ (c.opt = true ∧ v = (-1099511627776))
theorem P3 {s:C4} {c:C5} {nm:List UInt8} (h:T3 c nm) {v:Int} (hv:Az c v) (lv:Int):U8 s c lv v = if lv = 0 then 0 else if v = (-1099511627776) then (-1099511627776) else E8 v (E6 c lv):=by
 have hk:=h.kind
 have h1:=h.low
 have h2:=h.high
 unfold U8
 rw [if_neg (by omega),if_neg]
 rcases hv with hv | hv <;> omega
theorem Tb {s:C4} {c:C5} {nm:List UInt8} (h:T3 c nm) {v:Int} (hv:Az c v) {a b:Nat} (hab:b ≤ a) (ha:a ≤ c.widths.length):Hi c a (U8 s c a v) b = (U8 s c b v,true):=by
 have hl:=h.low
 have hh:=h.high
 rw [P3 h hv,P3 h hv]
 by_cases ha0:a = 0
 ·subst ha0
  have hb0:b = 0:=by omega
  subst hb0
  simp [Hi,Dh]
 ·by_cases hm:v = (-1099511627776)
  ·have ho:c.opt = true:=by
    rcases hv with hv | hv
    ·omega
    ·exact hv.1
   rw [if_neg (by omega),if_pos hm]
   unfold Hi
   rw [if_pos ⟨by omega,rfl⟩,ho]
   by_cases hb0:b = 0
   ·subst hb0;simp
   ·rw [if_neg (by omega),if_neg (by omega),if_pos hm]
  ·have hv':c.low ≤ v ∧ v ≤ c.high:=by
    rcases hv with hv | hv
    ·exact hv
    ·exact absurd hv.2 hm
   rw [if_neg (by omega),if_neg hm,if_neg hm]
   obtain ⟨hw,_,_⟩:=AQ h (a:=a) (b:=a) (by omega) (Nat.le_refl _) ha
   have hd:=q0 v hw.1
   have hdd:=BM hw.1 (Int.le_refl _) (show E8 v (E6 c a) < E8 v (E6 c a) + E6 c a by omega)
   have hsp:Dh c a (E8 v (E6 c a)) = (max (E8 v (E6 c a)) c.low,min (E8 v (E6 c a) + E6 c a - 1) c.high,true):=by
    unfold Dh
    rw [if_neg (by omega),if_neg (by omega),hdd]
    have:max (E8 v (E6 c a)) c.low ≤ min (E8 v (E6 c a) + E6 c a - 1) c.high:=by omega
    simp [this]
   unfold Hi
   rw [if_neg (by omega),hsp]
   simp only [Bool.true_eq_false,if_false]
   by_cases hb0:b = 0
   ·subst hb0;simp
   ·rw [if_neg (by omega),if_neg (by omega),if_neg (by omega)]
    obtain ⟨_,_,m,hm1,hm2⟩:=AQ h (a:=a) (b:=b) (by omega) hab ha
    have e1:=Ji (x:=max (E8 v (E6 c a)) c.low) (v:=v) hw.1 hm1 (by omega) (by omega)
    have e2:=Ji (x:=min (E8 v (E6 c a) + E6 c a - 1) c.high) (v:=v) hw.1 hm1 (by omega) (by omega)
    rw [hm2,e1,e2]
    simp
theorem Tc {s:C4} {c:C5} {nm:List UInt8} (h:T3 c nm) {v:Int} (hv:Az c v):U8 s c c.widths.length v = v:=by
 obtain ⟨h1,h2,h3⟩:=Io h
 rw [P3 h hv,if_neg (by omega),h3,RI]
 split
 ·rename_i e;exact e.symm
 ·rfl
def Ip (cs:List Code):Bool:=(O3 F6 cs (F4 F6 cs - 1)).all fun v=>Q3 cs v && decide (o0 F6 cs v (F4 F6 cs - 1) = v) && decide (o0 F6 cs v 0 = 0) && ((List.range (F4 F6 cs).toNat).all fun a=>(List.range (a + 1)).all fun b=>decide (Hj F6 cs a (o0 F6 cs v a) b = (o0 F6 cs v b,true)))
theorem Lu:GB.all Ip = true:=by decide +kernel
theorem Lv {a b:List UInt8} (h:E7 a = E7 b) (cs:List Code) (fr v to:Int):∀ (l:List Nat) (out:Int) (sm:Bool),FX a cs fr v to l out sm = FX b cs fr v to l out sm
 | [],out,sm=>rfl
 | x :: r,out,sm=>by simp only [FX,Lp h,Lv h cs fr v to r]
theorem Td {a b:List UInt8} (h:E7 a = E7 b) (cs:List Code) (fr v to:Int):Hj a cs fr v to = Hj b cs fr v to:=by
 unfold Hj
 rw [Cr h,x8 h,Lv h]
theorem J9.lst {s:C4} (h:J9 s) {c:C5} (hc:c = Ek ∨ c = Lm):(E4 s c).2 ∈ GB ∧ E7 (E4 s c).1 = E7 F6 ∧ (E4 s c).2.length ≤ 10:=by
 obtain ⟨l1,l2,m1,m2,e⟩:=h.ls
 rcases hc with rfl | rfl
 ·have:E4 s Ek = (F6,l1):=by unfold E4;rw [e];rfl
  rw [this];exact ⟨m1,rfl,(Aq m1).len⟩
 ·have:E4 s Lm = (Ay,l2):=by unfold E4;rw [e];rfl
  rw [this];exact ⟨m2,Xo,(Aq m2).len⟩
def l4 (s:C4) (c:C5) (v:Int):Prop:=(c.kind = 1 ∧ 1 ≤ v ∧ v ≤ 60) ∨ (c.kind = 2 ∧ ∃ n:Nat,v = n ∧ n ∈ O3 (E4 s c).1 (E4 s c).2 (F4 (E4 s c).1 (E4 s c).2 - 1)) ∨ (c.kind = 3 ∧ Az c v)
structure Te (s:C4) (c:C5) (n:Nat):Prop where
 fin:GX s c = n
 le:n ≤ 4
 top:∀ v,l4 s c v → U8 s c n v = v
 zero:∀ v,l4 s c v → U8 s c 0 v = 0
 turn:∀ v,l4 s c v → ∀ a b:Nat,b ≤ a → a ≤ n → (if c.kind = 2 then Hj (E4 s c).1 (E4 s c).2 a (U8 s c a v) b else Hi c a (U8 s c a v) b) = (U8 s c b v,true)
theorem J9.facts {s:C4} (h:J9 s) {i:Nat} {c:C5} (hi:0 < i) (hc:s.cols[i]? = some c):∃ n,Te s c n:=by
 rcases h.col hc with ⟨rfl,_⟩ | ⟨_,hcc⟩ | ⟨_,nm,hm⟩
 ·omega
 ·obtain ⟨hf,hnm,hlen⟩:=h.lst hcc
  have hk:c.kind = 2:=by rcases hcc with rfl | rfl <;> rfl
  have hlo:=Aq hf
  have hlv:=x8 hnm (E4 s c).2
  have ht:=List.all_eq_true.1 Lu _ hf
  simp only [Ip,Bool.and_eq_true,decide_eq_true_eq,List.all_eq_true,List.mem_range] at ht
  obtain ⟨n,hn⟩:=Int.eq_ofNat_of_zero_le (show 0 ≤ F4 F6 (E4 s c).2 - 1 by have:=hlo.lv;omega)
  have ok:∀ v,l4 s c v → ∃ j:Nat,v = j ∧ j ∈ O3 F6 (E4 s c).2 n:=by
   rintro v (⟨h1,_⟩ | ⟨_,j,h1,h2⟩ | ⟨h1,_⟩)
   ·omega
   ·exact ⟨j,h1,by rw [← hn, ← hlv, ← Cr hnm];exact h2⟩
   ·omega
  have coa:∀ j:Nat,j ∈ O3 F6 (E4 s c).2 n → ∀ lv:Int,U8 s c lv j = o0 F6 (E4 s c).2 j lv:=by
   intro j hj lv
   have h1:=hlo.mem j (by rw [hn];exact hj)
   have h2:=(ht j (by rw [hn];exact hj)).1.1.1
   unfold U8
   rw [if_pos hk,Lp hnm,if_pos]
   unfold P2
   rw [if_neg (by omega),if_pos hk,h2]
   simp;omega
  refine ⟨n,⟨?_,?_,?_,?_,?_⟩⟩
  ·unfold GX;rw [if_pos hk,hlv,hn]
  ·have:=hlo.lv;omega
  ·intro v hv
   obtain ⟨j,rfl,hj⟩:=ok v hv
   rw [coa j hj, ← hn]
   exact (ht j (by rw [hn];exact hj)).1.1.2
  ·intro v hv
   obtain ⟨j,rfl,hj⟩:=ok v hv
   rw [coa j hj]
   exact (ht j (by rw [hn];exact hj)).1.2
  ·intro v hv a b hab ha
   obtain ⟨j,rfl,hj⟩:=ok v hv
   rw [if_pos hk,coa j hj,coa j hj,Td hnm]
   exact (ht j (by rw [hn];exact hj)).2 a (by omega) b (by omega)
 ·have hk:=hm.kind
  have ok:∀ v,l4 s c v → Az c v:=by
   rintro v (⟨h1,_⟩ | ⟨h1,_⟩ | ⟨_,h1⟩)
   ·omega
   ·omega
   ·exact h1
  refine ⟨c.widths.length,⟨?_,(Io hm).2.1,?_,?_,?_⟩⟩
  ·unfold GX;rw [if_neg (by omega)]
  ·intro v hv;exact Tc hm (ok v hv)
  ·intro v hv;rw [P3 hm (ok v hv),if_pos rfl]
  ·intro v hv a b hab ha
   rw [if_neg (by omega)]
   exact Tb hm (ok v hv) hab ha
def Y5 (l:List UInt8) (a:Nat) (s:C4) (k:Int):Int × Nat :=
 let c:=I7 s k
 if c.kind = 1 then (1 + ((C9 l a 60).1:Int),(C9 l a 60).2)
 else if c.kind = 2 then ((((Q0 s k).getD (C9 l a (Q0 s k).length).1 0:Nat):Int),(C9 l a (Q0 s k).length).2)
 else if c.opt = true then
  (if ((C9 l a 4).1:Int) = 3 then ((-1099511627776),(C9 l a 4).2) else (c.low + ((C9 l (C9 l a 4).2 (c.high - c.low + 1)).1:Int),(C9 l (C9 l a 4).2 (c.high - c.low + 1)).2))
 else (c.low + ((C9 l a (c.high - c.low + 1)).1:Int),(C9 l a (c.high - c.low + 1)).2)
def rowFrom (l:List UInt8) (s:C4):Nat → List Int × Nat → Nat → List Int × Nat
 | _,x,0=>x
 | k,x,n + 1=>rowFrom l s (k + 1) (x.1 ++ [(Y5 l x.2 s k).1],(Y5 l x.2 s k).2) n
def T4 (l:List UInt8) (a:Nat) (s:C4):List Int × Nat:=rowFrom l s 0 ([],a) s.cols.length
theorem J9.lvs {s:C4} (h:J9 s) {i:Nat} {c:C5} (hc:s.cols[i]? = some c) (hk:c.kind = 2):(0 ≤ c.lst ∧ c.lst < s.lists.length) ∧ Q0 s i = O3 (E4 s c).1 (E4 s c).2 (F4 (E4 s c).1 (E4 s c).2 - 1) ∧ 1 ≤ (Q0 s i).length ∧ (Q0 s i).length ≤ 10:=by
 have hca:I7 s i = c:=u1 (by simpa using hc)
 have e:Q0 s i = O3 (E4 s c).1 (E4 s c).2 (F4 (E4 s c).1 (E4 s c).2 - 1):=by unfold Q0;rw [hca]
 rcases h.col hc with ⟨_,rfl⟩ | ⟨_,hcc⟩ | ⟨_,nm,hm⟩
 ·cases hk
 ·obtain ⟨hf,hnm,hlen⟩:=h.lst hcc
  have hlo:=(Aq hf).at'
  refine ⟨?_,e,?_⟩
  ·rw [h.lens.1];rcases hcc with rfl | rfl <;> decide
  ·rw [e,x8 hnm,Cr hnm];exact hlo
 ·have:=hm.kind;omega
theorem Nq {s:C4} (h:J9 s) (l:List UInt8) (a:Nat) {i:Nat} {c:C5} (hc:s.cols[i]? = some c):l4 s c (Y5 l a s i).1:=by
 have hca:I7 s i = c:=u1 (by simpa using hc)
 unfold Y5
 rw [hca]
 rcases h.col hc with ⟨_,rfl⟩ | ⟨_,hcc⟩ | ⟨_,nm,hm⟩
 ·have:=N7 l a (n:=60) (by omega)
  exact .inl ⟨rfl,by simp only [Ll,if_true];omega⟩
 ·have hk:c.kind = 2:=by rcases hcc with rfl | rfl <;> rfl
  obtain ⟨_,h1,h2,h3⟩:=h.lvs hc hk
  have hn:=N7 l a (n:=(Q0 s i).length) (by omega)
  dsimp only
  rw [if_neg (by omega),if_pos hk]
  have hlt:(C9 l a (Q0 s i).length).1 < (Q0 s i).length:=by omega
  refine .inr (.inl ⟨hk,_,rfl,?_⟩)
  rw [← h1,U3 (List.getElem?_eq_getElem hlt)]
  exact List.getElem_mem hlt
 ·have hk:=hm.kind
  have hh:=hm.high
  have n1:=N7 l a (n:=c.high - c.low + 1) (by omega)
  have n2:=N7 l (C9 l a 4).2 (n:=c.high - c.low + 1) (by omega)
  dsimp only
  rw [if_neg (by omega),if_neg (by omega)]
  refine .inr (.inr ⟨hk,?_⟩)
  split
  ·split
   ·exact .inr ⟨by assumption,rfl⟩
   ·exact .inl ⟨by dsimp only;omega,by dsimp only;omega⟩
  ·exact .inl ⟨by dsimp only;omega,by dsimp only;omega⟩
theorem Lw (x:Int) {w:Int} (hw:1 ≤ w):(x + 1) / w = x / w + (if (x + 1) % w = 0 then 1 else 0):=by
 have h1:=Int.mul_ediv_add_emod x w
 have h2:=Int.emod_nonneg x (b:=w) (by omega)
 have h3:=Int.emod_lt_of_pos x (b:=w) (by omega)
 by_cases h:x % w + 1 = w
 ·have e:x + 1 = w * (x / w + 1):=by rw [Int.mul_add,Int.mul_one];omega
  have e2:(x + 1) % w = 0:=by rw [e];exact Int.mul_emod_right w _
  have e3:(x + 1) / w = x / w + 1:=by rw [e];exact Int.mul_ediv_cancel_left _ (by omega)
  rw [if_pos e2,e3]
 ·have e:x + 1 = (x % w + 1) + w * (x / w):=by omega
  have e3:(x + 1) / w = x / w:=by
   rw [e,Int.add_mul_ediv_left _ _ (by omega:w ≠ 0),Int.ediv_eq_zero_of_lt (by omega) (by omega)]
   omega
  have e2:(x + 1) % w = x % w + 1:=by
   have:=Int.mul_ediv_add_emod (x + 1) w
   rw [e3] at this
   omega
  rw [if_neg (by omega),e3]
  omega
def Ep (low high w W:Int):Prop:=∀ t,low < t → t ≤ high → t % w = 0 → t % W = 0
theorem PH {t w m:Int} (h:t % (w * m) = 0):t % w = 0:=by
 have:=Int.dvd_of_emod_eq_zero h
 exact Int.emod_eq_zero_of_dvd (Int.dvd_trans (Int.dvd_mul_right w m) this)
theorem Zg {w m:Int} (hw:1 ≤ w) (hm:1 ≤ m) (low:Int):∀ j:Nat,(low + j) / (w * m) - low / (w * m) ≤ (low + j) / w - low / w ∧ ((low + j) / (w * m) - low / (w * m) = (low + j) / w - low / w ↔ Ep low (low + j) w (w * m))
 | 0=>⟨by simp,by
    constructor
    ·intro _ t h1 h2;omega
    ·intro _;simp⟩
 | j + 1=>by
   obtain ⟨h1,h2⟩:=Zg hw hm low j
   have hW:1 ≤ w * m:=by
    have:=Int.mul_le_mul hw hm (by omega) (by omega)
    simpa using this
   have e:low + ((j + 1:Nat):Int) = (low + j) + 1:=by omega
   rw [e,Lw _ hw,Lw _ hW]
   have ext:Ep low (low + j + 1) w (w * m) ↔ Ep low (low + j) w (w * m) ∧ ((low + j + 1) % w = 0 → (low + j + 1) % (w * m) = 0):=by
    constructor
    ·intro h
     exact ⟨fun t h3 h4=>h t h3 (by omega),fun h3=>h _ (by omega) (by omega) h3⟩
    ·rintro ⟨h3,h4⟩ t h5 h6 h7
     by_cases h8:t = low + j + 1
     ·subst h8;exact h4 h7
     ·exact h3 t h5 (by omega) h7
   rw [ext, ← h2]
   by_cases ha:(low + j + 1) % w = 0
   ·by_cases hb:(low + j + 1) % (w * m) = 0
    ·rw [if_pos ha,if_pos hb]
     exact ⟨by omega,by constructor <;> (intro h;first | exact ⟨by omega,fun _=>hb⟩ | (have:=h.1;omega))⟩
    ·rw [if_pos ha,if_neg hb]
     exact ⟨by omega,by constructor <;> (intro h;first | (exfalso;omega) | exact absurd (h.2 ha) hb)⟩
   ·have hb:¬ (low + j + 1) % (w * m) = 0:=fun h=>ha (PH h)
    rw [if_neg ha,if_neg hb]
    exact ⟨by omega,by constructor <;> (intro h;first | exact ⟨by omega,fun h=>absurd h ha⟩ | (have:=h.1;omega))⟩
theorem Nr {w m low high:Int} (hw:1 ≤ w) (hm:1 ≤ m) (h:low ≤ high):high / (w * m) - low / (w * m) ≤ high / w - low / w ∧ (high / (w * m) - low / (w * m) = high / w - low / w ↔ Ep low high w (w * m)):=by
 obtain ⟨j,hj⟩:=Int.eq_ofNat_of_zero_le (show 0 ≤ high - low by omega)
 have:=Zg hw hm low j
 rwa [show low + (j:Int) = high by omega] at this
def Xp (f g:Int → Int) (l:List Int):Prop:=∀ x ∈ l,∀ y ∈ l,f x ≠ f y → g x ≠ g y
theorem Tf {w m low high:Int} (hw:1 ≤ w) (hm:1 ≤ m) (hlow:low ≤ high):(∀ x y,low ≤ x → x ≤ high → low ≤ y → y ≤ high → E8 x w ≠ E8 y w → E8 x (w * m) ≠ E8 y (w * m)) ↔ Ep low high w (w * m):=by
 have hW:1 ≤ w * m:=by
  have:=Int.mul_le_mul hw hm (by omega) (by omega)
  simpa using this
 constructor
 ·intro h t h1 h2 h3
  refine Classical.byContradiction fun h4=>?_
  have e1:E8 t w = t:=by unfold E8;omega
  have b1:=q0 (t - 1) hw
  have b2:=q0 t hW
  have e2:E8 t (w * m) ≤ t - 1:=by
   have:=Int.emod_nonneg t (b:=w * m) (by omega)
   unfold E8;omega
  have e3:E8 (t - 1) (w * m) = E8 t (w * m):=BM hW e2 (by omega)
  exact h t (t - 1) (by omega) h2 (by omega) (by omega) (by omega) e3.symm
 ·intro h
  have key:∀ x y,low ≤ x → y ≤ high → x < y → E8 x w ≠ E8 y w → E8 x (w * m) ≠ E8 y (w * m):=by
   intro x y h1 h2 h3 h4
   have b1:=q0 y hw
   have b3:=q0 x hW
   have hx:x < E8 y w:=by
    rcases Int.lt_or_le x (E8 y w) with h5 | h5
    ·exact h5
    ·exact absurd (BM hw h5 (by omega)) h4
   have h6:E8 y w % w = 0:=by rw [S7];exact Int.mul_emod_right w _
   have h7:=h (E8 y w) (by omega) (by omega) h6
   have h8:E8 (E8 y w) (w * m) = E8 y w:=by unfold E8 at h7 ⊢;omega
   have h9:=PG hW b1.2
   omega
  intro x y h1 h2 h3 h4 h5 h6
  rcases Int.lt_trichotomy x y with h7 | h7 | h7
  ·exact key x y h1 h4 h7 h5 h6
  ·exact h5 (by rw [h7])
  ·exact key y x h3 h2 h7 (Ne.symm h5) h6.symm
theorem AR {s:C4} {c:C5} {nm:List UInt8} (h:T3 c nm) {L:Nat} (h1:1 ≤ L) (h2:L ≤ c.widths.length):l7 s c L = c.high / E6 c L - c.low / E6 c L + 1 + (if c.opt = true then 1 else 0):=by
 obtain ⟨hw,_,_⟩:=AQ h (a:=L) (b:=L) h1 (Nat.le_refl _) h2
 have hk:=h.kind
 unfold l7
 rw [if_neg (by omega),if_neg (by omega),S7,S7, ← Int.mul_sub,Int.mul_ediv_cancel_left _ (by omega)]
theorem Er {s:C4} {c:C5} {nm:List UInt8} (h:T3 c nm):l7 s c 0 = 1:=by
 have hk:=h.kind
 unfold l7
 rw [if_neg (by omega),if_pos rfl]
theorem Ho {a b w:Int} (hw:1 ≤ w) (h:a ≤ b):a / w ≤ b / w:=Int.ediv_le_ediv (by omega) h
theorem RJ {s:C4} {c:C5} {nm:List UInt8} (h:T3 c nm) {o L:Nat} (ho:o ≤ L) (hL:L ≤ c.widths.length):l7 s c o ≤ l7 s c L:=by
 have hh:=h.high
 by_cases h0:o = 0
 ·subst h0
  rw [show ((0:Nat):Int) = 0 from rfl,Er h]
  by_cases hL0:L = 0
  ·subst hL0;rw [show ((0:Nat):Int) = 0 from rfl,Er h];omega
  ·obtain ⟨hw,_,_⟩:=AQ h (a:=L) (b:=L) (by omega) (Nat.le_refl _) hL
   rw [AR h (by omega) hL]
   have:=Ho hw.1 hh.1
   split <;> omega
 ·obtain ⟨hw,_,m,hm,e⟩:=AQ h (a:=L) (b:=o) (by omega) ho hL
  rw [AR h (by omega) hL,AR h (by omega) (by omega),e]
  have:=(Nr hw.1 hm hh.1).1
  omega
def Lx (c:C5):List Int:=(List.range (c.high - c.low + 1).toNat).map (fun i:Nat=>c.low + (i:Int)) ++ (if c.opt = true then [(-1099511627776)] else [])
theorem j7 {c:C5} {v:Int}:v ∈ Lx c ↔ Az c v:=by
 unfold Lx Az
 rw [List.mem_append,List.mem_map]
 constructor
 ·rintro (⟨i,hi,rfl⟩ | h)
  ·rw [List.mem_range] at hi;left;omega
  ·split at h
   ·rename_i ho;simp at h;exact .inr ⟨ho,h⟩
   ·cases h
 ·rintro (h | ⟨h1,h2⟩)
  ·exact .inl ⟨(v - c.low).toNat,by rw [List.mem_range];omega,by omega⟩
  ·right;rw [if_pos h1,h2];simp
theorem Tg {s:C4} {c:C5} {nm:List UInt8} (h:T3 c nm) {o L:Nat} (ho:o ≤ L) (hL:L ≤ c.widths.length):Xp (U8 s c L) (U8 s c o) (Lx c) ↔ l7 s c o = l7 s c L:=by
 have hl:=h.low
 have hh:=h.high
 have hlow:Az c c.low:=.inl (by omega)
 have hhigh:Az c c.high:=.inl (by omega)
 by_cases hoL:o = L
 ·subst hoL
  exact ⟨fun _=>rfl,fun _ x _ y _ h=>h⟩
 obtain ⟨hw,_,_⟩:=AQ h (a:=L) (b:=L) (by omega) (Nat.le_refl _) hL
 have hbd:=fun v (hv:c.low ≤ v ∧ v ≤ c.high)=>q0 v hw.1
 by_cases h0:o = 0
 ·subst h0
  rw [AR h (by omega) hL,show ((0:Nat):Int) = 0 from rfl,Er h]
  have hdl:=Ho hw.1 hh.1
  constructor
  ·intro hd
   have z:∀ x y,Az c x → Az c y → U8 s c L x = U8 s c L y:=by
    intro x y hx hy
    refine Classical.byContradiction fun hne=>hd x (j7.2 hx) y (j7.2 hy) hne ?_
    rw [P3 h hx,P3 h hy,if_pos rfl,if_pos rfl]
   have hno:¬ c.opt = true:=by
    intro hopt
    have:=z c.low ((-1099511627776)) hlow (.inr ⟨hopt,rfl⟩)
    rw [P3 h hlow,P3 h (.inr ⟨hopt,rfl⟩),if_neg (by omega),if_neg (by omega),if_neg (by omega),if_pos rfl] at this
    have:=hbd c.low (by omega)
    omega
   have:=z c.low c.high hlow hhigh
   rw [P3 h hlow,P3 h hhigh,if_neg (by omega),if_neg (by omega),if_neg (by omega),if_neg (by omega),S7,S7] at this
   have e:c.low / E6 c L = c.high / E6 c L:=Int.eq_of_mul_eq_mul_left (show E6 c L ≠ 0 by omega) this
   rw [if_neg hno,e];omega
  ·intro he x hx y hy hne
   exfalso
   apply hne
   have hno:¬ c.opt = true:=by
    intro hopt;rw [if_pos hopt] at he;omega
   rw [if_neg hno] at he
   have e:c.low / E6 c L = c.high / E6 c L:=by omega
   have z:∀ x,Az c x → U8 s c L x = E6 c L * (c.low / E6 c L):=by
    intro x hx
    have hx':c.low ≤ x ∧ x ≤ c.high:=by
     rcases hx with hx | hx
     ·exact hx
     ·exact absurd hx.1 hno
    rw [P3 h hx,if_neg (by omega),if_neg (by omega),S7]
    have h1:=Ho hw.1 hx'.1
    have h2:=Ho hw.1 hx'.2
    congr 1
    omega
   rw [z x (j7.1 hx),z y (j7.1 hy)]
 ·obtain ⟨_,hW,m,hm,e⟩:=AQ h (a:=L) (b:=o) (by omega) ho hL
  rw [AR h (by omega) hL,AR h (by omega) (by omega)]
  have hc:=(Nr hw.1 hm hh.1).2
  have hdm:=Tf hw.1 hm hh.1
  rw [← e] at hc hdm
  have e1:(c.high / E6 c o - c.low / E6 c o + 1 + (if c.opt = true then 1 else 0) = c.high / E6 c L - c.low / E6 c L + 1 + (if c.opt = true then 1 else 0)) ↔ (c.high / E6 c o - c.low / E6 c o = c.high / E6 c L - c.low / E6 c L):=by
   constructor <;> intro h <;> omega
  rw [e1,hc, ← hdm]
  have coa:∀ lv:Nat,1 ≤ lv → ∀ x,c.low ≤ x → x ≤ c.high → U8 s c lv x = E8 x (E6 c lv):=by
   intro lv hlv x h1 h2
   rw [P3 h (.inl ⟨h1,h2⟩),if_neg (by omega),if_neg (by omega)]
  constructor
  ·intro hd x y h1 h2 h3 h4 h5
   have:=hd x (j7.2 (.inl ⟨h1,h2⟩)) y (j7.2 (.inl ⟨h3,h4⟩))
   rw [coa L (by omega) x h1 h2,coa L (by omega) y h3 h4,coa o (by omega) x h1 h2,coa o (by omega) y h3 h4] at this
   exact this h5
  ·intro hd x hx y hy hne
   have bW:=fun v (hv:c.low ≤ v ∧ v ≤ c.high)=>q0 v hW.1
   rcases j7.1 hx with hx' | hx' <;> rcases j7.1 hy with hy' | hy'
   ·rw [coa L (by omega) x hx'.1 hx'.2,coa L (by omega) y hy'.1 hy'.2] at hne
    rw [coa o (by omega) x hx'.1 hx'.2,coa o (by omega) y hy'.1 hy'.2]
    exact hd x y hx'.1 hx'.2 hy'.1 hy'.2 hne
   ·have:=bW x hx'
    rw [coa o (by omega) x hx'.1 hx'.2,P3 h (.inr hy'),if_neg (by omega),if_pos hy'.2]
    omega
   ·have:=bW y hy'
    rw [coa o (by omega) y hy'.1 hy'.2,P3 h (.inr hx'),if_neg (by omega),if_pos hx'.2]
    omega
   ·exfalso;apply hne;rw [hx'.2,hy'.2]
def Ly (s:C4) (c:C5):List Int:=if c.kind = 2 then (O3 (E4 s c).1 (E4 s c).2 (F4 (E4 s c).1 (E4 s c).2 - 1)).map fun n:Nat=>(n:Int) else Lx c
structure Zy (s:C4) (c:C5) (n:Nat):Prop where
 fin:GX s c = n
 le:n ≤ 4
 mono:∀ o L:Nat,o ≤ L → L ≤ n → l7 s c o ≤ l7 s c L
 divs:∀ o L:Nat,o ≤ L → L ≤ n → (Xp (U8 s c L) (U8 s c o) (Ly s c) ↔ l7 s c o = l7 s c L)
def RK (cs:List Code):Bool:=(List.range (F4 F6 cs).toNat).all fun L=>(List.range (L + 1)).all fun o=>decide ((O3 F6 cs o).length ≤ (O3 F6 cs L).length) && decide ((O3 F6 cs (F4 F6 cs - 1)).all (fun x=>(O3 F6 cs (F4 F6 cs - 1)).all fun y=>decide (o0 F6 cs x L = o0 F6 cs y L) || !(decide (o0 F6 cs x o = o0 F6 cs y o))) = decide ((O3 F6 cs o).length = (O3 F6 cs L).length))
theorem RL:GB.all RK = true:=by decide +kernel
theorem J9.blk {s:C4} (h:J9 s) {i:Nat} {c:C5} (hi:0 < i) (hc:s.cols[i]? = some c):∃ n,Zy s c n:=by
 rcases h.col hc with ⟨rfl,_⟩ | ⟨_,hcc⟩ | ⟨_,nm,hm⟩
 ·omega
 ·obtain ⟨hf,hnm,hlen⟩:=h.lst hcc
  have hk:c.kind = 2:=by rcases hcc with rfl | rfl <;> rfl
  have hlo:=Aq hf
  have hlv:=x8 hnm (E4 s c).2
  have ht:=List.all_eq_true.1 Lu _ hf
  simp only [Ip,Bool.and_eq_true,decide_eq_true_eq,List.all_eq_true,List.mem_range] at ht
  have hb:=List.all_eq_true.1 RL _ hf
  simp only [RK,List.all_eq_true,List.mem_range,Bool.and_eq_true,decide_eq_true_eq] at hb
  obtain ⟨n,hn⟩:=Int.eq_ofNat_of_zero_le (show 0 ≤ F4 F6 (E4 s c).2 - 1 by have:=hlo.lv;omega)
  have coa:∀ j:Nat,j ∈ O3 F6 (E4 s c).2 n → ∀ lv:Int,U8 s c lv j = o0 F6 (E4 s c).2 j lv:=by
   intro j hj lv
   have h1:=hlo.mem j (by rw [hn];exact hj)
   have h2:=(ht j (by rw [hn];exact hj)).1.1.1
   unfold U8
   rw [if_pos hk,Lp hnm,if_pos]
   unfold P2
   rw [if_neg (by omega),if_pos hk,h2]
   simp;omega
  have blk:∀ lv:Int,l7 s c lv = (O3 F6 (E4 s c).2 lv).length:=by
   intro lv;unfold l7;rw [if_pos hk,Cr hnm]
  refine ⟨n,⟨?_,?_,?_,?_⟩⟩
  ·unfold GX;rw [if_pos hk,hlv,hn]
  ·have:=hlo.lv;omega
  ·intro o L h1 h2
   have:=(hb L (by omega) o (by omega)).1
   rw [blk,blk];omega
  ·intro o L h1 h2
   have:=(hb L (by omega) o (by omega)).2
   rw [blk,blk]
   have e:Ly s c = (O3 F6 (E4 s c).2 n).map fun n:Nat=>(n:Int):=by unfold Ly;rw [if_pos hk,hlv,Cr hnm,hn]
   rw [e]
   rw [hn] at this
   have e2:(((O3 F6 (E4 s c).2 o).length:Int) = ((O3 F6 (E4 s c).2 L).length:Int)) ↔ (O3 F6 (E4 s c).2 o).length = (O3 F6 (E4 s c).2 L).length:=by omega
   rw [e2, ← decide_eq_true_iff (p:=(O3 F6 (E4 s c).2 o).length = (O3 F6 (E4 s c).2 L).length), ← this]
   simp only [List.all_eq_true,Bool.or_eq_true,decide_eq_true_eq,Bool.not_eq_true',decide_eq_false_iff_not]
   constructor
   ·intro hd x hx y hy
    by_cases hxy:o0 F6 (E4 s c).2 x L = o0 F6 (E4 s c).2 y L
    ·exact .inl hxy
    ·have:=hd x (List.mem_map.2 ⟨x,hx,rfl⟩) y (List.mem_map.2 ⟨y,hy,rfl⟩)
     rw [coa x hx,coa y hy,coa x hx,coa y hy] at this
     exact .inr (this hxy)
   ·intro hd x hx y hy hne
    obtain ⟨x',hx',rfl⟩:=List.mem_map.1 hx
    obtain ⟨y',hy',rfl⟩:=List.mem_map.1 hy
    rw [coa x' hx',coa y' hy'] at hne ⊢
    rcases hd x' hx' y' hy' with h3 | h3
    ·exact absurd h3 hne
    ·exact h3
 ·have hk:=hm.kind
  have e:Ly s c = Lx c:=by unfold Ly;rw [if_neg (by omega)]
  refine ⟨c.widths.length,⟨?_,(Io hm).2.1,fun o L h1 h2=>RJ hm h1 h2,fun o L h1 h2=>by rw [e];exact Tg hm h1 h2⟩⟩
  unfold GX;rw [if_neg (by omega)]
end Go.Proofs.YtiphlhoclaogjabGreatDoor
