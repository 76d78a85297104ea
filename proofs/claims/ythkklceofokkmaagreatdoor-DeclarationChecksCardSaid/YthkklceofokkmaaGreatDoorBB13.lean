/- Chapter 2: values that a row can have, at all levels. Draws: values, rows and picks, and that they are right. Chapter 2: when a coarser level divides as a finer one does. Chapter 2: the least level of a column of a drawn schema. -/
import Derived.Test.YthkklceofokkmaaGreatDoorBB12
import Derived.Test.YthkklceofokkmaaGreatDoorBCd1
import Derived.Test.YthkklceofokkmaaGreatDoorBSx
set_option linter.unusedVariables false
set_option linter.unnecessarySimpa false
set_option linter.unusedSimpArgs false
namespace Go.Proofs.YthkklceofokkmaaGreatDoor
open Go Go.Av
attribute [local irreducible] E5 B7 E6 E7 DQ E8 F0 St.le B3 B5
set_option maxRecDepth 100000
def Fg (ws:List Int) (lv:Nat):Int:=ws.getD (ws.length - lv) 0
def Xm (ws:List Int):Bool:=decide (1 ≤ ws.length) && decide (ws.length ≤ 4) && decide (Fg ws ws.length = 1) && ((List.range 5).all fun a=>(List.range (a + 1)).all fun b=>decide (b = 0) || decide (ws.length < a) || (decide (1 ≤ Fg ws a ∧ Fg ws a ≤ 20) && decide (1 ≤ Fg ws b ∧ Fg ws b ≤ 20) && decide (Fg ws b = Fg ws a * (Fg ws b / Fg ws a) ∧ 1 ≤ Fg ws b / Fg ws a)))
theorem Pc:Dn.all Xm = true:=by decide +kernel
theorem Hj {c:G9} {lv:Nat} (h:lv ≤ c.widths.length):G0 c lv = Fg c.widths lv:=by
 unfold G0 Fg
 congr 1
 omega
theorem Ly {c:G9} {nm:List UInt8} (h:Y5 c nm):1 ≤ c.widths.length ∧ c.widths.length ≤ 4 ∧ G0 c c.widths.length = 1:=by
 have h1:=List.all_eq_true.1 Pc _ h.wid
 simp only [Xm,Bool.and_eq_true,decide_eq_true_eq] at h1
 rw [Hj (Nat.le_refl _)]
 exact ⟨h1.1.1.1,h1.1.1.2,h1.1.2⟩
theorem Cm {c:G9} {nm:List UInt8} (h:Y5 c nm) {a b:Nat} (hb:1 ≤ b) (hab:b ≤ a) (ha:a ≤ c.widths.length):(1 ≤ G0 c a ∧ G0 c a ≤ 20) ∧ (1 ≤ G0 c b ∧ G0 c b ≤ 20) ∧ ∃ m,1 ≤ m ∧ G0 c b = G0 c a * m:=by
 have h1:=List.all_eq_true.1 Pc _ h.wid
 simp only [Xm,Bool.and_eq_true,decide_eq_true_eq,List.all_eq_true,List.mem_range,Bool.or_eq_true] at h1
 have h2:=h1.2 a (by omega) b (by omega)
 rw [Hj ha,Hj (by omega)]
 rcases h2 with (h2 | h2) | h2
 ·omega
 ·omega
 ·exact ⟨h2.1.1,h2.1.2,_,h2.2.2,h2.2.1⟩
theorem W9 (v:Int) {w:Int}:G1 v w = w * (v / w):=by
 have:=Int.mul_ediv_add_emod v w
 unfold G1
 omega
theorem Vb (v:Int):G1 v 1 = v:=by unfold G1;omega
theorem Pd (v:Int) {w m:Int} (hw:1 ≤ w) (hm:1 ≤ m):G1 (G1 v w) (w * m) = G1 v (w * m):=by
 rw [W9,W9,W9]
 congr 1
 rw [Int.mul_ediv_mul_of_pos _ _ (by omega:(0:Int) < w),Int.ediv_ediv_of_nonneg (by omega)]
theorem Dp {x v w:Int} (hw:1 ≤ w) (h1:G1 v w ≤ x) (h2:x < G1 v w + w):G1 x w = G1 v w:=by
 rw [W9] at h1 h2
 rw [W9,W9]
 congr 1
 have e:x = (x - w * (v / w)) + w * (v / w):=by omega
 rw [e,Int.add_mul_ediv_left _ _ (by omega:w ≠ 0),Int.ediv_eq_zero_of_lt (by omega) (by omega)]
 omega
theorem NF {x v w m:Int} (hw:1 ≤ w) (hm:1 ≤ m) (h1:G1 v w ≤ x) (h2:x < G1 v w + w):G1 x (w * m) = G1 v (w * m):=by
 rw [← Pd x hw hm,Dp hw h1 h2,Pd v hw hm]
def DV (c:G9) (v:Int):Prop:=(c.low ≤ v ∧ v ≤ c.high) ∨ (c.opt = true ∧ v = (-1099511627776))
theorem T3 {s:B2} {c:G9} {nm:List UInt8} (h:Y5 c nm) {v:Int} (hv:DV c v) (lv:Int):Y3 s c lv v = if lv = 0 then 0 else if v = (-1099511627776) then (-1099511627776) else G1 v (G0 c lv):=by
 have hk:=h.kind
 have h1:=h.low
 have h2:=h.high
 unfold Y3
 rw [if_neg (by omega),if_neg]
 rcases hv with hv | hv <;> omega
theorem Xn {s:B2} {c:G9} {nm:List UInt8} (h:Y5 c nm) {v:Int} (hv:DV c v) {a b:Nat} (hab:b ≤ a) (ha:a ≤ c.widths.length):GV c a (Y3 s c a v) b = (Y3 s c b v,true):=by
 have hl:=h.low
 have hh:=h.high
 rw [T3 h hv,T3 h hv]
 by_cases ha0:a = 0
 ·subst ha0
  have hb0:b = 0:=by omega
  subst hb0
  simp [GV,GU]
 ·by_cases hm:v = (-1099511627776)
  ·have ho:c.opt = true:=by
    rcases hv with hv | hv
    ·omega
    ·exact hv.1
   rw [if_neg (by omega),if_pos hm]
   unfold GV
   rw [if_pos ⟨by omega,rfl⟩,ho]
   by_cases hb0:b = 0
   ·subst hb0;simp
   ·rw [if_neg (by omega),if_neg (by omega),if_pos hm]
  ·have hv':c.low ≤ v ∧ v ≤ c.high:=by
    rcases hv with hv | hv
    ·exact hv
    ·exact absurd hv.2 hm
   rw [if_neg (by omega),if_neg hm,if_neg hm]
   obtain ⟨hw,_,_⟩:=Cm h (a:=a) (b:=a) (by omega) (Nat.le_refl _) ha
   have hd:=BP v hw.1
   have hdd:=Dp hw.1 (Int.le_refl _) (show G1 v (G0 c a) < G1 v (G0 c a) + G0 c a by omega)
   have hsp:GU c a (G1 v (G0 c a)) = (max (G1 v (G0 c a)) c.low,min (G1 v (G0 c a) + G0 c a - 1) c.high,true):=by
    unfold GU
    rw [if_neg (by omega),if_neg (by omega),hdd]
    have:max (G1 v (G0 c a)) c.low ≤ min (G1 v (G0 c a) + G0 c a - 1) c.high:=by omega
    simp [this]
   unfold GV
   rw [if_neg (by omega),hsp]
   simp only [Bool.true_eq_false,if_false]
   by_cases hb0:b = 0
   ·subst hb0;simp
   ·rw [if_neg (by omega),if_neg (by omega),if_neg (by omega)]
    obtain ⟨_,_,m,hm1,hm2⟩:=Cm h (a:=a) (b:=b) (by omega) hab ha
    have e1:=NF (x:=max (G1 v (G0 c a)) c.low) (v:=v) hw.1 hm1 (by omega) (by omega)
    have e2:=NF (x:=min (G1 v (G0 c a) + G0 c a - 1) c.high) (v:=v) hw.1 hm1 (by omega) (by omega)
    rw [hm2,e1,e2]
    simp
theorem Xo {s:B2} {c:G9} {nm:List UInt8} (h:Y5 c nm) {v:Int} (hv:DV c v):Y3 s c c.widths.length v = v:=by
 obtain ⟨h1,h2,h3⟩:=Ly h
 rw [T3 h hv,if_neg (by omega),h3,Vb]
 split
 ·rename_i e;exact e.symm
 ·rfl
def Lz (cs:List Code):Bool:=(V2 H1 cs (G7 H1 cs - 1)).all fun v=>g8 cs v && decide (BC H1 cs v (G7 H1 cs - 1) = v) && decide (BC H1 cs v 0 = 0) && ((List.range (G7 H1 cs).toNat).all fun a=>(List.range (a + 1)).all fun b=>decide (GW H1 cs a (BC H1 cs v a) b = (BC H1 cs v b,true)))
theorem Pe:Ky.all Lz = true:=by decide +kernel
theorem Pf {a b:List UInt8} (h:C9 a = C9 b) (cs:List Code) (fr v to:Int):∀ (l:List Nat) (out:Int) (sm:Bool),Ia a cs fr v to l out sm = Ia b cs fr v to l out sm
 | [],out,sm=>rfl
 | x :: r,out,sm=>by simp only [Ia,PZ h,Pf h cs fr v to r]
theorem Xp {a b:List UInt8} (h:C9 a = C9 b) (cs:List Code) (fr v to:Int):GW a cs fr v to = GW b cs fr v to:=by
 unfold GW
 rw [Hg h,Do h,Pf h]
theorem F6.lst {s:B2} (h:F6 s) {c:G9} (hc:c = FE ∨ c = Lv):(D7 s c).2 ∈ Ky ∧ C9 (D7 s c).1 = C9 H1 ∧ (D7 s c).2.length ≤ 10:=by
 obtain ⟨l1,l2,m1,m2,e⟩:=h.ls
 rcases hc with rfl | rfl
 ·have:D7 s FE = (H1,l1):=by unfold D7;rw [e];rfl
  rw [this];exact ⟨m1,rfl,(ER m1).len⟩
 ·have:D7 s Lv = (DU,l2):=by unfold D7;rw [e];rfl
  rw [this];exact ⟨m2,dP,(ER m2).len⟩
def Id (s:B2) (c:G9) (v:Int):Prop:=(c.kind = 1 ∧ 1 ≤ v ∧ v ≤ 60) ∨ (c.kind = 2 ∧ ∃ n:Nat,v = n ∧ n ∈ V2 (D7 s c).1 (D7 s c).2 (G7 (D7 s c).1 (D7 s c).2 - 1)) ∨ (c.kind = 3 ∧ DV c v)
structure Xq (s:B2) (c:G9) (n:Nat):Prop where
 fin:Au s c = n
 le:n ≤ 4
 top:∀ v,Id s c v → Y3 s c n v = v
 zero:∀ v,Id s c v → Y3 s c 0 v = 0
 turn:∀ v,Id s c v → ∀ a b:Nat,b ≤ a → a ≤ n → (if c.kind = 2 then GW (D7 s c).1 (D7 s c).2 a (Y3 s c a v) b else GV c a (Y3 s c a v) b) = (Y3 s c b v,true)
theorem F6.facts {s:B2} (h:F6 s) {i:Nat} {c:G9} (hi:0 < i) (hc:s.cols[i]? = some c):∃ n,Xq s c n:=by
 rcases h.col hc with ⟨rfl,_⟩ | ⟨_,hcc⟩ | ⟨_,nm,hm⟩
 ·omega
 ·obtain ⟨hf,hnm,hlen⟩:=h.lst hcc
  have hk:c.kind = 2:=by rcases hcc with rfl | rfl <;> rfl
  have hlo:=ER hf
  have hlv:=Do hnm (D7 s c).2
  have ht:=List.all_eq_true.1 Pe _ hf
  simp only [Lz,Bool.and_eq_true,decide_eq_true_eq,List.all_eq_true,List.mem_range] at ht
  obtain ⟨n,hn⟩:=Int.eq_ofNat_of_zero_le (show 0 ≤ G7 H1 (D7 s c).2 - 1 by have:=hlo.lv;omega)
  have ok:∀ v,Id s c v → ∃ j:Nat,v = j ∧ j ∈ V2 H1 (D7 s c).2 n:=by
   rintro v (⟨h1,_⟩ | ⟨_,j,h1,h2⟩ | ⟨h1,_⟩)
   ·omega
   ·exact ⟨j,h1,by rw [← hn, ← hlv, ← Hg hnm];exact h2⟩
   ·omega
  have coa:∀ j:Nat,j ∈ V2 H1 (D7 s c).2 n → ∀ lv:Int,Y3 s c lv j = BC H1 (D7 s c).2 j lv:=by
   intro j hj lv
   have h1:=hlo.mem j (by rw [hn];exact hj)
   have h2:=(ht j (by rw [hn];exact hj)).1.1.1
   unfold Y3
   rw [if_pos hk,PZ hnm,if_pos]
   unfold TS
   rw [if_neg (by omega),if_pos hk,h2]
   simp;omega
  refine ⟨n,⟨?_,?_,?_,?_,?_⟩⟩
  ·unfold Au;rw [if_pos hk,hlv,hn]
  ·have:=hlo.lv;omega
  ·intro v hv
   obtain ⟨j,rfl,hj⟩:=ok v hv
   rw [coa j hj, ← hn]
   exact (ht j (by rw [hn];exact hj)).1.1.2
  ·intro v hv
   obtain ⟨j,rfl,hj⟩:=ok v hv
   rw [coa j hj]
   exact (ht j (by rw [hn];exact hj)).1.2
  ·intro v hv a b hab ha
   obtain ⟨j,rfl,hj⟩:=ok v hv
   rw [if_pos hk,coa j hj,coa j hj,Xp hnm]
   exact (ht j (by rw [hn];exact hj)).2 a (by omega) b (by omega)
 ·have hk:=hm.kind
  have ok:∀ v,Id s c v → DV c v:=by
   rintro v (⟨h1,_⟩ | ⟨h1,_⟩ | ⟨_,h1⟩)
   ·omega
   ·omega
   ·exact h1
  refine ⟨c.widths.length,⟨?_,(Ly hm).2.1,?_,?_,?_⟩⟩
  ·unfold Au;rw [if_neg (by omega)]
  ·intro v hv;exact Xo hm (ok v hv)
  ·intro v hv;rw [T3 hm (ok v hv),if_pos rfl]
  ·intro v hv a b hab ha
   rw [if_neg (by omega)]
   exact Xn hm (ok v hv) hab ha
theorem F6.chain {s:B2} (h:F6 s) {i:Nat} {c:G9} (hi:0 < i) (hc:s.cols[i]? = some c):∃ n:Nat,I3 s i = n ∧ n ≤ 4 ∧ ∀ v,Id s c v → Lq s i n v = v ∧ Lq s i 0 v = 0 ∧ ∀ a b:Nat,b ≤ a → a ≤ n → Zb s i a (Lq s i a v) b = (Lq s i b v,true):=by
 obtain ⟨n,hf⟩:=h.facts hi hc
 have hlt:=Q0 hc
 have hca:C6 s i = c:=E0 (by simpa using hc)
 have hfs:R7 s i = n:=by unfold R7;rw [if_neg (by omega),hca];exact hf.fin
 have hfe:I3 s i = n:=by unfold I3;rw [if_pos h.ok];exact hfs
 have coa:∀ (lv:Nat) v,lv ≤ n → Lq s i lv v = Y3 s c lv v:=by
  intro lv v hlv
  unfold Lq
  rw [hfe,if_neg (by omega),hca]
 refine ⟨n,hfe,hf.le,fun v hv=>⟨?_,?_,?_⟩⟩
 ·rw [coa n v (Nat.le_refl _)];exact hf.top v hv
 ·have:=coa 0 v (Nat.zero_le _)
  rw [show ((0:Nat):Int) = 0 from rfl] at this
  rw [this];exact hf.zero v hv
 ·intro a b hab ha
  have ht:=hf.turn v hv a b hab ha
  rw [coa a v ha,coa b v (by omega)]
  unfold Zb Rr
  rw [if_pos h.ok,hfs,if_neg (by omega),hca,ht]
  simp
theorem F6.lvs {s:B2} (h:F6 s) {i:Nat} {c:G9} (hc:s.cols[i]? = some c) (hk:c.kind = 2):(0 ≤ c.lst ∧ c.lst < s.lists.length) ∧ Lx s i = V2 (D7 s c).1 (D7 s c).2 (G7 (D7 s c).1 (D7 s c).2 - 1) ∧ 1 ≤ (Lx s i).length ∧ (Lx s i).length ≤ 10:=by
 have hca:C6 s i = c:=E0 (by simpa using hc)
 have e:Lx s i = V2 (D7 s c).1 (D7 s c).2 (G7 (D7 s c).1 (D7 s c).2 - 1):=by unfold Lx;rw [hca]
 rcases h.col hc with ⟨_,rfl⟩ | ⟨_,hcc⟩ | ⟨_,nm,hm⟩
 ·cases hk
 ·obtain ⟨hf,hnm,hlen⟩:=h.lst hcc
  have hlo:=(ER hf).at'
  refine ⟨?_,e,?_⟩
  ·rw [h.lens.1];rcases hcc with rfl | rfl <;> decide
  ·rw [e,Do hnm,Hg hnm];exact hlo
 ·have:=hm.kind;omega
theorem Pg (x:Int) {w:Int} (hw:1 ≤ w):(x + 1) / w = x / w + (if (x + 1) % w = 0 then 1 else 0):=by
 have h1:=Int.mul_ediv_add_emod x w
 have h2:=Int.emod_nonneg x (b:=w) (by omega)
 have h3:=Int.emod_lt_of_pos x (b:=w) (by omega)
 by_cases h:x % w + 1 = w
 ·have e:x + 1 = w * (x / w + 1):=by rw [Int.mul_add,Int.mul_one];omega
  have e2:(x + 1) % w = 0:=by rw [e];exact Int.mul_emod_right w _
  have e3:(x + 1) / w = x / w + 1:=by rw [e];exact Int.mul_ediv_cancel_left _ (by omega)
  rw [if_pos e2,e3]
 ·have e:x + 1 = (x % w + 1) + w * (x / w):=by omega
  have e3:(x + 1) / w = x / w:=by
   rw [e,Int.add_mul_ediv_left _ _ (by omega:w ≠ 0),Int.ediv_eq_zero_of_lt (by omega) (by omega)]
   omega
  have e2:(x + 1) % w = x % w + 1:=by
   have:=Int.mul_ediv_add_emod (x + 1) w
   rw [e3] at this
   omega
  rw [if_neg (by omega),e3]
  omega
def Hk (low high w W:Int):Prop:=∀ t,low < t → t ≤ high → t % w = 0 → t % W = 0
theorem Th {t w m:Int} (h:t % (w * m) = 0):t % w = 0:=by
 have:=Int.dvd_of_emod_eq_zero h
 exact Int.emod_eq_zero_of_dvd (Int.dvd_trans (Int.dvd_mul_right w m) this)
theorem Vc {w m:Int} (hw:1 ≤ w) (hm:1 ≤ m) (low:Int):∀ j:Nat,(low + j) / (w * m) - low / (w * m) ≤ (low + j) / w - low / w ∧ ((low + j) / (w * m) - low / (w * m) = (low + j) / w - low / w ↔ Hk low (low + j) w (w * m))
 | 0=>⟨by simp,by
    constructor
    ·intro _ t h1 h2;omega
    ·intro _;simp⟩
 | j + 1=>by
   obtain ⟨h1,h2⟩:=Vc hw hm low j
   have hW:1 ≤ w * m:=by
    have:=Int.mul_le_mul hw hm (by omega) (by omega)
    simpa using this
   have e:low + ((j + 1:Nat):Int) = (low + j) + 1:=by omega
   rw [e,Pg _ hw,Pg _ hW]
   have ext:Hk low (low + j + 1) w (w * m) ↔ Hk low (low + j) w (w * m) ∧ ((low + j + 1) % w = 0 → (low + j + 1) % (w * m) = 0):=by
    constructor
    ·intro h
     exact ⟨fun t h3 h4=>h t h3 (by omega),fun h3=>h _ (by omega) (by omega) h3⟩
    ·rintro ⟨h3,h4⟩ t h5 h6 h7
     by_cases h8:t = low + j + 1
     ·subst h8;exact h4 h7
     ·exact h3 t h5 (by omega) h7
   rw [ext, ← h2]
   by_cases ha:(low + j + 1) % w = 0
   ·by_cases hb:(low + j + 1) % (w * m) = 0
    ·rw [if_pos ha,if_pos hb]
     exact ⟨by omega,by constructor <;> (intro h;first | exact ⟨by omega,fun _=>hb⟩ | (have:=h.1;omega))⟩
    ·rw [if_pos ha,if_neg hb]
     exact ⟨by omega,by constructor <;> (intro h;first | (exfalso;omega) | exact absurd (h.2 ha) hb)⟩
   ·have hb:¬ (low + j + 1) % (w * m) = 0:=fun h=>ha (Th h)
    rw [if_neg ha,if_neg hb]
    exact ⟨by omega,by constructor <;> (intro h;first | exact ⟨by omega,fun h=>absurd h ha⟩ | (have:=h.1;omega))⟩
theorem SB {w m low high:Int} (hw:1 ≤ w) (hm:1 ≤ m) (h:low ≤ high):high / (w * m) - low / (w * m) ≤ high / w - low / w ∧ (high / (w * m) - low / (w * m) = high / w - low / w ↔ Hk low high w (w * m)):=by
 obtain ⟨j,hj⟩:=Int.eq_ofNat_of_zero_le (show 0 ≤ high - low by omega)
 have:=Vc hw hm low j
 rwa [show low + (j:Int) = high by omega] at this
def dQ (f g:Int → Int) (l:List Int):Prop:=∀ x ∈ l,∀ y ∈ l,f x ≠ f y → g x ≠ g y
theorem Xr {w m low high:Int} (hw:1 ≤ w) (hm:1 ≤ m) (hlow:low ≤ high):(∀ x y,low ≤ x → x ≤ high → low ≤ y → y ≤ high → G1 x w ≠ G1 y w → G1 x (w * m) ≠ G1 y (w * m)) ↔ Hk low high w (w * m):=by
 have hW:1 ≤ w * m:=by
  have:=Int.mul_le_mul hw hm (by omega) (by omega)
  simpa using this
 constructor
 ·intro h t h1 h2 h3
  refine Classical.byContradiction fun h4=>?_
  have e1:G1 t w = t:=by unfold G1;omega
  have b1:=BP (t - 1) hw
  have b2:=BP t hW
  have e2:G1 t (w * m) ≤ t - 1:=by
   have:=Int.emod_nonneg t (b:=w * m) (by omega)
   unfold G1;omega
  have e3:G1 (t - 1) (w * m) = G1 t (w * m):=Dp hW e2 (by omega)
  exact h t (t - 1) (by omega) h2 (by omega) (by omega) (by omega) e3.symm
 ·intro h
  have key:∀ x y,low ≤ x → y ≤ high → x < y → G1 x w ≠ G1 y w → G1 x (w * m) ≠ G1 y (w * m):=by
   intro x y h1 h2 h3 h4
   have b1:=BP y hw
   have b3:=BP x hW
   have hx:x < G1 y w:=by
    rcases Int.lt_or_le x (G1 y w) with h5 | h5
    ·exact h5
    ·exact absurd (Dp hw h5 (by omega)) h4
   have h6:G1 y w % w = 0:=by rw [W9];exact Int.mul_emod_right w _
   have h7:=h (G1 y w) (by omega) (by omega) h6
   have h8:G1 (G1 y w) (w * m) = G1 y w:=by unfold G1 at h7 ⊢;omega
   have h9:=TT hW b1.2
   omega
  intro x y h1 h2 h3 h4 h5 h6
  rcases Int.lt_trichotomy x y with h7 | h7 | h7
  ·exact key x y h1 h4 h7 h5 h6
  ·exact h5 (by rw [h7])
  ·exact key y x h3 h2 h7 (Ne.symm h5) h6.symm
theorem Cn {s:B2} {c:G9} {nm:List UInt8} (h:Y5 c nm) {L:Nat} (h1:1 ≤ L) (h2:L ≤ c.widths.length):Aw s c L = c.high / G0 c L - c.low / G0 c L + 1 + (if c.opt = true then 1 else 0):=by
 obtain ⟨hw,_,_⟩:=Cm h (a:=L) (b:=L) h1 (Nat.le_refl _) h2
 have hk:=h.kind
 unfold Aw
 rw [if_neg (by omega),if_neg (by omega),W9,W9, ← Int.mul_sub,Int.mul_ediv_cancel_left _ (by omega)]
theorem Hl {s:B2} {c:G9} {nm:List UInt8} (h:Y5 c nm):Aw s c 0 = 1:=by
 have hk:=h.kind
 unfold Aw
 rw [if_neg (by omega),if_pos rfl]
theorem LG {a b w:Int} (hw:1 ≤ w) (h:a ≤ b):a / w ≤ b / w:=Int.ediv_le_ediv (by omega) h
theorem Vd {s:B2} {c:G9} {nm:List UInt8} (h:Y5 c nm) {o L:Nat} (ho:o ≤ L) (hL:L ≤ c.widths.length):Aw s c o ≤ Aw s c L:=by
 have hh:=h.high
 by_cases h0:o = 0
 ·subst h0
  rw [show ((0:Nat):Int) = 0 from rfl,Hl h]
  by_cases hL0:L = 0
  ·subst hL0;rw [show ((0:Nat):Int) = 0 from rfl,Hl h];omega
  ·obtain ⟨hw,_,_⟩:=Cm h (a:=L) (b:=L) (by omega) (Nat.le_refl _) hL
   rw [Cn h (by omega) hL]
   have:=LG hw.1 hh.1
   split <;> omega
 ·obtain ⟨hw,_,m,hm,e⟩:=Cm h (a:=L) (b:=o) (by omega) ho hL
  rw [Cn h (by omega) hL,Cn h (by omega) (by omega),e]
  have:=(SB hw.1 hm hh.1).1
  omega
def Ph (c:G9):List Int:=(List.range (c.high - c.low + 1).toNat).map (fun i:Nat=>c.low + (i:Int)) ++ (if c.opt = true then [(-1099511627776)] else [])
theorem Ad {c:G9} {v:Int}:v ∈ Ph c ↔ DV c v:=by
 unfold Ph DV
 rw [List.mem_append,List.mem_map]
 constructor
 ·rintro (⟨i,hi,rfl⟩ | h)
  ·rw [List.mem_range] at hi;left;omega
  ·split at h
   ·rename_i ho;simp at h;exact .inr ⟨ho,h⟩
   ·cases h
 ·rintro (h | ⟨h1,h2⟩)
  ·exact .inl ⟨(v - c.low).toNat,by rw [List.mem_range];omega,by omega⟩
  ·right;rw [if_pos h1,h2];simp
theorem Xs {s:B2} {c:G9} {nm:List UInt8} (h:Y5 c nm) {o L:Nat} (ho:o ≤ L) (hL:L ≤ c.widths.length):dQ (Y3 s c L) (Y3 s c o) (Ph c) ↔ Aw s c o = Aw s c L:=by
 have hl:=h.low
 have hh:=h.high
 have hlow:DV c c.low:=.inl (by omega)
 have hhigh:DV c c.high:=.inl (by omega)
 by_cases hoL:o = L
 ·subst hoL
  exact ⟨fun _=>rfl,fun _ x _ y _ h=>h⟩
 obtain ⟨hw,_,_⟩:=Cm h (a:=L) (b:=L) (by omega) (Nat.le_refl _) hL
 have hbd:=fun v (hv:c.low ≤ v ∧ v ≤ c.high)=>BP v hw.1
 by_cases h0:o = 0
 ·subst h0
  rw [Cn h (by omega) hL,show ((0:Nat):Int) = 0 from rfl,Hl h]
  have hdl:=LG hw.1 hh.1
  constructor
  ·intro hd
   have z:∀ x y,DV c x → DV c y → Y3 s c L x = Y3 s c L y:=by
    intro x y hx hy
    refine Classical.byContradiction fun hne=>hd x (Ad.2 hx) y (Ad.2 hy) hne ?_
    rw [T3 h hx,T3 h hy,if_pos rfl,if_pos rfl]
   have hno:¬ c.opt = true:=by
    intro hopt
    have:=z c.low ((-1099511627776)) hlow (.inr ⟨hopt,rfl⟩)
    rw [T3 h hlow,T3 h (.inr ⟨hopt,rfl⟩),if_neg (by omega),if_neg (by omega),if_neg (by omega),if_pos rfl] at this
    have:=hbd c.low (by omega)
    omega
   have:=z c.low c.high hlow hhigh
   rw [T3 h hlow,T3 h hhigh,if_neg (by omega),if_neg (by omega),if_neg (by omega),if_neg (by omega),W9,W9] at this
   have e:c.low / G0 c L = c.high / G0 c L:=Int.eq_of_mul_eq_mul_left (show G0 c L ≠ 0 by omega) this
   rw [if_neg hno,e];omega
  ·intro he x hx y hy hne
   exfalso
   apply hne
   have hno:¬ c.opt = true:=by
    intro hopt;rw [if_pos hopt] at he;omega
   rw [if_neg hno] at he
   have e:c.low / G0 c L = c.high / G0 c L:=by omega
   have z:∀ x,DV c x → Y3 s c L x = G0 c L * (c.low / G0 c L):=by
    intro x hx
    have hx':c.low ≤ x ∧ x ≤ c.high:=by
     rcases hx with hx | hx
     ·exact hx
     ·exact absurd hx.1 hno
    rw [T3 h hx,if_neg (by omega),if_neg (by omega),W9]
    have h1:=LG hw.1 hx'.1
    have h2:=LG hw.1 hx'.2
    congr 1
    omega
   rw [z x (Ad.1 hx),z y (Ad.1 hy)]
 ·obtain ⟨_,hW,m,hm,e⟩:=Cm h (a:=L) (b:=o) (by omega) ho hL
  rw [Cn h (by omega) hL,Cn h (by omega) (by omega)]
  have hc:=(SB hw.1 hm hh.1).2
  have hdm:=Xr hw.1 hm hh.1
  rw [← e] at hc hdm
  have e1:(c.high / G0 c o - c.low / G0 c o + 1 + (if c.opt = true then 1 else 0) = c.high / G0 c L - c.low / G0 c L + 1 + (if c.opt = true then 1 else 0)) ↔ (c.high / G0 c o - c.low / G0 c o = c.high / G0 c L - c.low / G0 c L):=by
   constructor <;> intro h <;> omega
  rw [e1,hc, ← hdm]
  have coa:∀ lv:Nat,1 ≤ lv → ∀ x,c.low ≤ x → x ≤ c.high → Y3 s c lv x = G1 x (G0 c lv):=by
   intro lv hlv x h1 h2
   rw [T3 h (.inl ⟨h1,h2⟩),if_neg (by omega),if_neg (by omega)]
  constructor
  ·intro hd x y h1 h2 h3 h4 h5
   have:=hd x (Ad.2 (.inl ⟨h1,h2⟩)) y (Ad.2 (.inl ⟨h3,h4⟩))
   rw [coa L (by omega) x h1 h2,coa L (by omega) y h3 h4,coa o (by omega) x h1 h2,coa o (by omega) y h3 h4] at this
   exact this h5
  ·intro hd x hx y hy hne
   have bW:=fun v (hv:c.low ≤ v ∧ v ≤ c.high)=>BP v hW.1
   rcases Ad.1 hx with hx' | hx' <;> rcases Ad.1 hy with hy' | hy'
   ·rw [coa L (by omega) x hx'.1 hx'.2,coa L (by omega) y hy'.1 hy'.2] at hne
    rw [coa o (by omega) x hx'.1 hx'.2,coa o (by omega) y hy'.1 hy'.2]
    exact hd x y hx'.1 hx'.2 hy'.1 hy'.2 hne
   ·have:=bW x hx'
    rw [coa o (by omega) x hx'.1 hx'.2,T3 h (.inr hy'),if_neg (by omega),if_pos hy'.2]
    omega
   ·have:=bW y hy'
    rw [coa o (by omega) y hy'.1 hy'.2,T3 h (.inr hx'),if_neg (by omega),if_pos hx'.2]
    omega
   ·exfalso;apply hne;rw [hx'.2,hy'.2]
def Pi (s:B2) (c:G9):List Int:=if c.kind = 2 then (V2 (D7 s c).1 (D7 s c).2 (G7 (D7 s c).1 (D7 s c).2 - 1)).map fun n:Nat=>(n:Int) else Ph c
structure fX (s:B2) (c:G9) (n:Nat):Prop where
 fin:Au s c = n
 le:n ≤ 4
 mono:∀ o L:Nat,o ≤ L → L ≤ n → Aw s c o ≤ Aw s c L
 divs:∀ o L:Nat,o ≤ L → L ≤ n → (dQ (Y3 s c L) (Y3 s c o) (Pi s c) ↔ Aw s c o = Aw s c L)
def Ve (cs:List Code):Bool:=(List.range (G7 H1 cs).toNat).all fun L=>(List.range (L + 1)).all fun o=>decide ((V2 H1 cs o).length ≤ (V2 H1 cs L).length) && decide ((V2 H1 cs (G7 H1 cs - 1)).all (fun x=>(V2 H1 cs (G7 H1 cs - 1)).all fun y=>decide (BC H1 cs x L = BC H1 cs y L) || !(decide (BC H1 cs x o = BC H1 cs y o))) = decide ((V2 H1 cs o).length = (V2 H1 cs L).length))
theorem Vf:Ky.all Ve = true:=by decide +kernel
theorem F6.blk {s:B2} (h:F6 s) {i:Nat} {c:G9} (hi:0 < i) (hc:s.cols[i]? = some c):∃ n,fX s c n:=by
 rcases h.col hc with ⟨rfl,_⟩ | ⟨_,hcc⟩ | ⟨_,nm,hm⟩
 ·omega
 ·obtain ⟨hf,hnm,hlen⟩:=h.lst hcc
  have hk:c.kind = 2:=by rcases hcc with rfl | rfl <;> rfl
  have hlo:=ER hf
  have hlv:=Do hnm (D7 s c).2
  have ht:=List.all_eq_true.1 Pe _ hf
  simp only [Lz,Bool.and_eq_true,decide_eq_true_eq,List.all_eq_true,List.mem_range] at ht
  have hb:=List.all_eq_true.1 Vf _ hf
  simp only [Ve,List.all_eq_true,List.mem_range,Bool.and_eq_true,decide_eq_true_eq] at hb
  obtain ⟨n,hn⟩:=Int.eq_ofNat_of_zero_le (show 0 ≤ G7 H1 (D7 s c).2 - 1 by have:=hlo.lv;omega)
  have coa:∀ j:Nat,j ∈ V2 H1 (D7 s c).2 n → ∀ lv:Int,Y3 s c lv j = BC H1 (D7 s c).2 j lv:=by
   intro j hj lv
   have h1:=hlo.mem j (by rw [hn];exact hj)
   have h2:=(ht j (by rw [hn];exact hj)).1.1.1
   unfold Y3
   rw [if_pos hk,PZ hnm,if_pos]
   unfold TS
   rw [if_neg (by omega),if_pos hk,h2]
   simp;omega
  have blk:∀ lv:Int,Aw s c lv = (V2 H1 (D7 s c).2 lv).length:=by
   intro lv;unfold Aw;rw [if_pos hk,Hg hnm]
  refine ⟨n,⟨?_,?_,?_,?_⟩⟩
  ·unfold Au;rw [if_pos hk,hlv,hn]
  ·have:=hlo.lv;omega
  ·intro o L h1 h2
   have:=(hb L (by omega) o (by omega)).1
   rw [blk,blk];omega
  ·intro o L h1 h2
   have:=(hb L (by omega) o (by omega)).2
   rw [blk,blk]
   have e:Pi s c = (V2 H1 (D7 s c).2 n).map fun n:Nat=>(n:Int):=by unfold Pi;rw [if_pos hk,hlv,Hg hnm,hn]
   rw [e]
   rw [hn] at this
   have e2:(((V2 H1 (D7 s c).2 o).length:Int) = ((V2 H1 (D7 s c).2 L).length:Int)) ↔ (V2 H1 (D7 s c).2 o).length = (V2 H1 (D7 s c).2 L).length:=by omega
   rw [e2, ← decide_eq_true_iff (p:=(V2 H1 (D7 s c).2 o).length = (V2 H1 (D7 s c).2 L).length), ← this]
   simp only [List.all_eq_true,Bool.or_eq_true,decide_eq_true_eq,Bool.not_eq_true',decide_eq_false_iff_not]
   constructor
   ·intro hd x hx y hy
    by_cases hxy:BC H1 (D7 s c).2 x L = BC H1 (D7 s c).2 y L
    ·exact .inl hxy
    ·have:=hd x (List.mem_map.2 ⟨x,hx,rfl⟩) y (List.mem_map.2 ⟨y,hy,rfl⟩)
     rw [coa x hx,coa y hy,coa x hx,coa y hy] at this
     exact .inr (this hxy)
   ·intro hd x hx y hy hne
    obtain ⟨x',hx',rfl⟩:=List.mem_map.1 hx
    obtain ⟨y',hy',rfl⟩:=List.mem_map.1 hy
    rw [coa x' hx',coa y' hy'] at hne ⊢
    rcases hd x' hx' y' hy' with h3 | h3
    ·exact absurd h3 hne
    ·exact h3
 ·have hk:=hm.kind
  have e:Pi s c = Ph c:=by unfold Pi;rw [if_neg (by omega)]
  refine ⟨c.widths.length,⟨?_,(Ly hm).2.1,fun o L h1 h2=>Vd hm h1 h2,fun o L h1 h2=>by rw [e];exact Xs hm h1 h2⟩⟩
  unfold Au;rw [if_neg (by omega)]
end Go.Proofs.YthkklceofokkmaaGreatDoor
