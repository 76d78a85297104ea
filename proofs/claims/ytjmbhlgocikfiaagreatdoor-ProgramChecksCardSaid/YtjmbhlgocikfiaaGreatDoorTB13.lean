/- Chapter 2: values that a row can have, at all levels. Draws: values, rows and picks, and that they are right. Chapter 2: when a coarser level divides as a finer one does. Chapter 2: the least level of a column of a drawn schema. -/
import Derived.Test.YtjmbhlgocikfiaaGreatDoorTB12
import Derived.Test.YtjmbhlgocikfiaaGreatDoorTB8
import Derived.Test.YtjmbhlgocikfiaaGreatDoorTSx
set_option linter.unusedVariables false
set_option linter.unnecessarySimpa false
set_option linter.unusedSimpArgs false
namespace Go.Proofs.YtjmbhlgocikfiaaGreatDoor
open Go Go.Av
attribute [local irreducible] AWp AOps AAny MAny DQ retQ retG St.le FCall GCall
set_option maxRecDepth 100000
def wAt (ws:List Int) (lv:Nat):Int:=ws.getD (ws.length - lv) 0
def wOkB (ws:List Int):Bool:=decide (1 ≤ ws.length) && decide (ws.length ≤ 4) && decide (wAt ws ws.length = 1) && ((List.range 5).all fun a=>(List.range (a + 1)).all fun b=>decide (b = 0) || decide (ws.length < a) || (decide (1 ≤ wAt ws a ∧ wAt ws a ≤ 20) && decide (1 ≤ wAt ws b ∧ wAt ws b ≤ 20) && decide (wAt ws b = wAt ws a * (wAt ws b / wAt ws a) ∧ 1 ≤ wAt ws b / wAt ws a)))
theorem wOpts_ok:wOpts.all wOkB = true:=by decide +kernel
theorem widthS_at {c:Col} {lv:Nat} (h:lv ≤ c.widths.length):widthS c lv = wAt c.widths lv:=by
 unfold widthS wAt
 congr 1
 omega
theorem wid_one {c:Col} {nm:List UInt8} (h:MeaOk c nm):1 ≤ c.widths.length ∧ c.widths.length ≤ 4 ∧ widthS c c.widths.length = 1:=by
 have h1:=List.all_eq_true.1 wOpts_ok _ h.wid
 simp only [wOkB,Bool.and_eq_true,decide_eq_true_eq] at h1
 rw [widthS_at (Nat.le_refl _)]
 exact ⟨h1.1.1.1,h1.1.1.2,h1.1.2⟩
theorem wid_two {c:Col} {nm:List UInt8} (h:MeaOk c nm) {a b:Nat} (hb:1 ≤ b) (hab:b ≤ a) (ha:a ≤ c.widths.length):(1 ≤ widthS c a ∧ widthS c a ≤ 20) ∧ (1 ≤ widthS c b ∧ widthS c b ≤ 20) ∧ ∃ m,1 ≤ m ∧ widthS c b = widthS c a * m:=by
 have h1:=List.all_eq_true.1 wOpts_ok _ h.wid
 simp only [wOkB,Bool.and_eq_true,decide_eq_true_eq,List.all_eq_true,List.mem_range,Bool.or_eq_true] at h1
 have h2:=h1.2 a (by omega) b (by omega)
 rw [widthS_at ha,widthS_at (by omega)]
 rcases h2 with (h2 | h2) | h2
 ·omega
 ·omega
 ·exact ⟨h2.1.1,h2.1.2,_,h2.2.2,h2.2.1⟩
theorem downS_ml (v:Int) {w:Int}:downS v w = w * (v / w):=by
 have:=Int.mul_ediv_add_emod v w
 unfold downS
 omega
theorem downS_one (v:Int):downS v 1 = v:=by unfold downS;omega
theorem downS_dd (v:Int) {w m:Int} (hw:1 ≤ w) (hm:1 ≤ m):downS (downS v w) (w * m) = downS v (w * m):=by
 rw [downS_ml,downS_ml,downS_ml]
 congr 1
 rw [Int.mul_ediv_mul_of_pos _ _ (by omega:(0:Int) < w),Int.ediv_ediv_of_nonneg (by omega)]
theorem downS_same {x v w:Int} (hw:1 ≤ w) (h1:downS v w ≤ x) (h2:x < downS v w + w):downS x w = downS v w:=by
 rw [downS_ml] at h1 h2
 rw [downS_ml,downS_ml]
 congr 1
 have e:x = (x - w * (v / w)) + w * (v / w):=by omega
 rw [e,Int.add_mul_ediv_left _ _ (by omega:w ≠ 0),Int.ediv_eq_zero_of_lt (by omega) (by omega)]
 omega
theorem downS_two {x v w m:Int} (hw:1 ≤ w) (hm:1 ≤ m) (h1:downS v w ≤ x) (h2:x < downS v w + w):downS x (w * m) = downS v (w * m):=by
 rw [← downS_dd x hw hm,downS_same hw h1 h2,downS_dd v hw hm]
def ValM (c:Col) (v:Int):Prop:=(c.low ≤ v ∧ v ≤ c.high) ∨ (c.opt = true ∧ v = (-1099511627776))
theorem coaC_mea {s:Sch} {c:Col} {nm:List UInt8} (h:MeaOk c nm) {v:Int} (hv:ValM c v) (lv:Int):coaC s c lv v = if lv = 0 then 0 else if v = (-1099511627776) then (-1099511627776) else downS v (widthS c lv):=by
 have hk:=h.kind
 have h1:=h.low
 have h2:=h.high
 unfold coaC
 rw [if_neg (by omega),if_neg]
 rcases hv with hv | hv <;> omega
theorem turnM_ok {s:Sch} {c:Col} {nm:List UInt8} (h:MeaOk c nm) {v:Int} (hv:ValM c v) {a b:Nat} (hab:b ≤ a) (ha:a ≤ c.widths.length):turnM c a (coaC s c a v) b = (coaC s c b v,true):=by
 have hl:=h.low
 have hh:=h.high
 rw [coaC_mea h hv,coaC_mea h hv]
 by_cases ha0:a = 0
 ·subst ha0
  have hb0:b = 0:=by omega
  subst hb0
  simp [turnM,spanS]
 ·by_cases hm:v = (-1099511627776)
  ·have ho:c.opt = true:=by
    rcases hv with hv | hv
    ·omega
    ·exact hv.1
   rw [if_neg (by omega),if_pos hm]
   unfold turnM
   rw [if_pos ⟨by omega,rfl⟩,ho]
   by_cases hb0:b = 0
   ·subst hb0;simp
   ·rw [if_neg (by omega),if_neg (by omega),if_pos hm]
  ·have hv':c.low ≤ v ∧ v ≤ c.high:=by
    rcases hv with hv | hv
    ·exact hv
    ·exact absurd hv.2 hm
   rw [if_neg (by omega),if_neg hm,if_neg hm]
   obtain ⟨hw,_,_⟩:=wid_two h (a:=a) (b:=a) (by omega) (Nat.le_refl _) ha
   have hd:=downS_bd v hw.1
   have hdd:=downS_same hw.1 (Int.le_refl _) (show downS v (widthS c a) < downS v (widthS c a) + widthS c a by omega)
   have hsp:spanS c a (downS v (widthS c a)) = (max (downS v (widthS c a)) c.low,min (downS v (widthS c a) + widthS c a - 1) c.high,true):=by
    unfold spanS
    rw [if_neg (by omega),if_neg (by omega),hdd]
    have:max (downS v (widthS c a)) c.low ≤ min (downS v (widthS c a) + widthS c a - 1) c.high:=by omega
    simp [this]
   unfold turnM
   rw [if_neg (by omega),hsp]
   simp only [Bool.true_eq_false,if_false]
   by_cases hb0:b = 0
   ·subst hb0;simp
   ·rw [if_neg (by omega),if_neg (by omega),if_neg (by omega)]
    obtain ⟨_,_,m,hm1,hm2⟩:=wid_two h (a:=a) (b:=b) (by omega) hab ha
    have e1:=downS_two (x:=max (downS v (widthS c a)) c.low) (v:=v) hw.1 hm1 (by omega) (by omega)
    have e2:=downS_two (x:=min (downS v (widthS c a) + widthS c a - 1) c.high) (v:=v) hw.1 hm1 (by omega) (by omega)
    rw [hm2,e1,e2]
    simp
theorem coaC_fin {s:Sch} {c:Col} {nm:List UInt8} (h:MeaOk c nm) {v:Int} (hv:ValM c v):coaC s c c.widths.length v = v:=by
 obtain ⟨h1,h2,h3⟩:=wid_one h
 rw [coaC_mea h hv,if_neg (by omega),h3,downS_one]
 split
 ·rename_i e;exact e.symm
 ·rfl
def turnOkB (cs:List Code):Bool:=(atS oneL cs (levelsS oneL cs - 1)).all fun v=>leafB cs v && decide (upS oneL cs v (levelsS oneL cs - 1) = v) && decide (upS oneL cs v 0 = 0) && ((List.range (levelsS oneL cs).toNat).all fun a=>(List.range (a + 1)).all fun b=>decide (turnC oneL cs a (upS oneL cs v a) b = (upS oneL cs v b,true)))
theorem fam_turn:fam.all turnOkB = true:=by decide +kernel
theorem turnK_nm {a b:List UInt8} (h:nameB a = nameB b) (cs:List Code) (fr v to:Int):∀ (l:List Nat) (out:Int) (sm:Bool),turnK a cs fr v to l out sm = turnK b cs fr v to l out sm
 | [],out,sm=>rfl
 | x :: r,out,sm=>by simp only [turnK,upS_nm h,turnK_nm h cs fr v to r]
theorem turnC_nm {a b:List UInt8} (h:nameB a = nameB b) (cs:List Code) (fr v to:Int):turnC a cs fr v to = turnC b cs fr v to:=by
 unfold turnC
 rw [atS_nm h,levelsS_nm h,turnK_nm h]
theorem Drawn.lst {s:Sch} (h:Drawn s) {c:Col} (hc:c = sexC ∨ c = jobC):(lstOf s c).2 ∈ fam ∧ nameB (lstOf s c).1 = nameB oneL ∧ (lstOf s c).2.length ≤ 10:=by
 obtain ⟨l1,l2,m1,m2,e⟩:=h.ls
 rcases hc with rfl | rfl
 ·have:lstOf s sexC = (oneL,l1):=by unfold lstOf;rw [e];rfl
  rw [this];exact ⟨m1,rfl,(fam_ok m1).len⟩
 ·have:lstOf s jobC = (twoN,l2):=by unfold lstOf;rw [e];rfl
  rw [this];exact ⟨m2,nm_two,(fam_ok m2).len⟩
def ValOk (s:Sch) (c:Col) (v:Int):Prop:=(c.kind = 1 ∧ 1 ≤ v ∧ v ≤ 60) ∨ (c.kind = 2 ∧ ∃ n:Nat,v = n ∧ n ∈ atS (lstOf s c).1 (lstOf s c).2 (levelsS (lstOf s c).1 (lstOf s c).2 - 1)) ∨ (c.kind = 3 ∧ ValM c v)
structure ColFacts (s:Sch) (c:Col) (n:Nat):Prop where
 fin:finC s c = n
 le:n ≤ 4
 top:∀ v,ValOk s c v → coaC s c n v = v
 zero:∀ v,ValOk s c v → coaC s c 0 v = 0
 turn:∀ v,ValOk s c v → ∀ a b:Nat,b ≤ a → a ≤ n → (if c.kind = 2 then turnC (lstOf s c).1 (lstOf s c).2 a (coaC s c a v) b else turnM c a (coaC s c a v) b) = (coaC s c b v,true)
theorem Drawn.facts {s:Sch} (h:Drawn s) {i:Nat} {c:Col} (hi:0 < i) (hc:s.cols[i]? = some c):∃ n,ColFacts s c n:=by
 rcases h.col hc with ⟨rfl,_⟩ | ⟨_,hcc⟩ | ⟨_,nm,hm⟩
 ·omega
 ·obtain ⟨hf,hnm,hlen⟩:=h.lst hcc
  have hk:c.kind = 2:=by rcases hcc with rfl | rfl <;> rfl
  have hlo:=fam_ok hf
  have hlv:=levelsS_nm hnm (lstOf s c).2
  have ht:=List.all_eq_true.1 fam_turn _ hf
  simp only [turnOkB,Bool.and_eq_true,decide_eq_true_eq,List.all_eq_true,List.mem_range] at ht
  obtain ⟨n,hn⟩:=Int.eq_ofNat_of_zero_le (show 0 ≤ levelsS oneL (lstOf s c).2 - 1 by have:=hlo.lv;omega)
  have ok:∀ v,ValOk s c v → ∃ j:Nat,v = j ∧ j ∈ atS oneL (lstOf s c).2 n:=by
   rintro v (⟨h1,_⟩ | ⟨_,j,h1,h2⟩ | ⟨h1,_⟩)
   ·omega
   ·exact ⟨j,h1,by rw [← hn, ← hlv, ← atS_nm hnm];exact h2⟩
   ·omega
  have coa:∀ j:Nat,j ∈ atS oneL (lstOf s c).2 n → ∀ lv:Int,coaC s c lv j = upS oneL (lstOf s c).2 j lv:=by
   intro j hj lv
   have h1:=hlo.mem j (by rw [hn];exact hj)
   have h2:=(ht j (by rw [hn];exact hj)).1.1.1
   unfold coaC
   rw [if_pos hk,upS_nm hnm,if_pos]
   unfold holdB
   rw [if_neg (by omega),if_pos hk,h2]
   simp;omega
  refine ⟨n,⟨?_,?_,?_,?_,?_⟩⟩
  ·unfold finC;rw [if_pos hk,hlv,hn]
  ·have:=hlo.lv;omega
  ·intro v hv
   obtain ⟨j,rfl,hj⟩:=ok v hv
   rw [coa j hj, ← hn]
   exact (ht j (by rw [hn];exact hj)).1.1.2
  ·intro v hv
   obtain ⟨j,rfl,hj⟩:=ok v hv
   rw [coa j hj]
   exact (ht j (by rw [hn];exact hj)).1.2
  ·intro v hv a b hab ha
   obtain ⟨j,rfl,hj⟩:=ok v hv
   rw [if_pos hk,coa j hj,coa j hj,turnC_nm hnm]
   exact (ht j (by rw [hn];exact hj)).2 a (by omega) b (by omega)
 ·have hk:=hm.kind
  have ok:∀ v,ValOk s c v → ValM c v:=by
   rintro v (⟨h1,_⟩ | ⟨h1,_⟩ | ⟨_,h1⟩)
   ·omega
   ·omega
   ·exact h1
  refine ⟨c.widths.length,⟨?_,(wid_one hm).2.1,?_,?_,?_⟩⟩
  ·unfold finC;rw [if_neg (by omega)]
  ·intro v hv;exact coaC_fin hm (ok v hv)
  ·intro v hv;rw [coaC_mea hm (ok v hv),if_pos rfl]
  ·intro v hv a b hab ha
   rw [if_neg (by omega)]
   exact turnM_ok hm (ok v hv) hab ha
theorem Drawn.chain {s:Sch} (h:Drawn s) {i:Nat} {c:Col} (hi:0 < i) (hc:s.cols[i]? = some c):∃ n:Nat,finestS s i = n ∧ n ≤ 4 ∧ ∀ v,ValOk s c v → coaS s i n v = v ∧ coaS s i 0 v = 0 ∧ ∀ a b:Nat,b ≤ a → a ≤ n → turnS s i a (coaS s i a v) b = (coaS s i b v,true):=by
 obtain ⟨n,hf⟩:=h.facts hi hc
 have hlt:=lt_of_get hc
 have hca:colAt s i = c:=colAt_get (by simpa using hc)
 have hfs:finS s i = n:=by unfold finS;rw [if_neg (by omega),hca];exact hf.fin
 have hfe:finestS s i = n:=by unfold finestS;rw [if_pos h.ok];exact hfs
 have coa:∀ (lv:Nat) v,lv ≤ n → coaS s i lv v = coaC s c lv v:=by
  intro lv v hlv
  unfold coaS
  rw [hfe,if_neg (by omega),hca]
 refine ⟨n,hfe,hf.le,fun v hv=>⟨?_,?_,?_⟩⟩
 ·rw [coa n v (Nat.le_refl _)];exact hf.top v hv
 ·have:=coa 0 v (Nat.zero_le _)
  rw [show ((0:Nat):Int) = 0 from rfl] at this
  rw [this];exact hf.zero v hv
 ·intro a b hab ha
  have ht:=hf.turn v hv a b hab ha
  rw [coa a v ha,coa b v (by omega)]
  unfold turnS turnedS
  rw [if_pos h.ok,hfs,if_neg (by omega),hca,ht]
  simp
theorem Drawn.lvs {s:Sch} (h:Drawn s) {i:Nat} {c:Col} (hc:s.cols[i]? = some c) (hk:c.kind = 2):(0 ≤ c.lst ∧ c.lst < s.lists.length) ∧ lvsS s i = atS (lstOf s c).1 (lstOf s c).2 (levelsS (lstOf s c).1 (lstOf s c).2 - 1) ∧ 1 ≤ (lvsS s i).length ∧ (lvsS s i).length ≤ 10:=by
 have hca:colAt s i = c:=colAt_get (by simpa using hc)
 have e:lvsS s i = atS (lstOf s c).1 (lstOf s c).2 (levelsS (lstOf s c).1 (lstOf s c).2 - 1):=by unfold lvsS;rw [hca]
 rcases h.col hc with ⟨_,rfl⟩ | ⟨_,hcc⟩ | ⟨_,nm,hm⟩
 ·cases hk
 ·obtain ⟨hf,hnm,hlen⟩:=h.lst hcc
  have hlo:=(fam_ok hf).at'
  refine ⟨?_,e,?_⟩
  ·rw [h.lens.1];rcases hcc with rfl | rfl <;> decide
  ·rw [e,levelsS_nm hnm,atS_nm hnm];exact hlo
 ·have:=hm.kind;omega
theorem div_succ (x:Int) {w:Int} (hw:1 ≤ w):(x + 1) / w = x / w + (if (x + 1) % w = 0 then 1 else 0):=by
 have h1:=Int.mul_ediv_add_emod x w
 have h2:=Int.emod_nonneg x (b:=w) (by omega)
 have h3:=Int.emod_lt_of_pos x (b:=w) (by omega)
 by_cases h:x % w + 1 = w
 ·have e:x + 1 = w * (x / w + 1):=by rw [Int.mul_add,Int.mul_one];omega
  have e2:(x + 1) % w = 0:=by rw [e];exact Int.mul_emod_right w _
  have e3:(x + 1) / w = x / w + 1:=by rw [e];exact Int.mul_ediv_cancel_left _ (by omega)
  rw [if_pos e2,e3]
 ·have e:x + 1 = (x % w + 1) + w * (x / w):=by omega
  have e3:(x + 1) / w = x / w:=by
   rw [e,Int.add_mul_ediv_left _ _ (by omega:w ≠ 0),Int.ediv_eq_zero_of_lt (by omega) (by omega)]
   omega
  have e2:(x + 1) % w = x % w + 1:=by
   have:=Int.mul_ediv_add_emod (x + 1) w
   rw [e3] at this
   omega
  rw [if_neg (by omega),e3]
  omega
def AllMul (low high w W:Int):Prop:=∀ t,low < t → t ≤ high → t % w = 0 → t % W = 0
theorem mod_of_mul {t w m:Int} (h:t % (w * m) = 0):t % w = 0:=by
 have:=Int.dvd_of_emod_eq_zero h
 exact Int.emod_eq_zero_of_dvd (Int.dvd_trans (Int.dvd_mul_right w m) this)
theorem cnt {w m:Int} (hw:1 ≤ w) (hm:1 ≤ m) (low:Int):∀ j:Nat,(low + j) / (w * m) - low / (w * m) ≤ (low + j) / w - low / w ∧ ((low + j) / (w * m) - low / (w * m) = (low + j) / w - low / w ↔ AllMul low (low + j) w (w * m))
 | 0=>⟨by simp,by
    constructor
    ·intro _ t h1 h2;omega
    ·intro _;simp⟩
 | j + 1=>by
  obtain ⟨h1,h2⟩:=cnt hw hm low j
  have hW:1 ≤ w * m:=by
   have:=Int.mul_le_mul hw hm (by omega) (by omega)
   simpa using this
  have e:low + ((j + 1:Nat):Int) = (low + j) + 1:=by omega
  rw [e,div_succ _ hw,div_succ _ hW]
  have ext:AllMul low (low + j + 1) w (w * m) ↔ AllMul low (low + j) w (w * m) ∧ ((low + j + 1) % w = 0 → (low + j + 1) % (w * m) = 0):=by
   constructor
   ·intro h
    exact ⟨fun t h3 h4=>h t h3 (by omega),fun h3=>h _ (by omega) (by omega) h3⟩
   ·rintro ⟨h3,h4⟩ t h5 h6 h7
    by_cases h8:t = low + j + 1
    ·subst h8;exact h4 h7
    ·exact h3 t h5 (by omega) h7
  rw [ext, ← h2]
  by_cases ha:(low + j + 1) % w = 0
  ·by_cases hb:(low + j + 1) % (w * m) = 0
   ·rw [if_pos ha,if_pos hb]
    exact ⟨by omega,by constructor <;> (intro h;first | exact ⟨by omega,fun _=>hb⟩ | (have:=h.1;omega))⟩
   ·rw [if_pos ha,if_neg hb]
    exact ⟨by omega,by constructor <;> (intro h;first | (exfalso;omega) | exact absurd (h.2 ha) hb)⟩
  ·have hb:¬ (low + j + 1) % (w * m) = 0:=fun h=>ha (mod_of_mul h)
   rw [if_neg ha,if_neg hb]
   exact ⟨by omega,by constructor <;> (intro h;first | exact ⟨by omega,fun h=>absurd h ha⟩ | (have:=h.1;omega))⟩
theorem cnt_iff {w m low high:Int} (hw:1 ≤ w) (hm:1 ≤ m) (h:low ≤ high):high / (w * m) - low / (w * m) ≤ high / w - low / w ∧ (high / (w * m) - low / (w * m) = high / w - low / w ↔ AllMul low high w (w * m)):=by
 obtain ⟨j,hj⟩:=Int.eq_ofNat_of_zero_le (show 0 ≤ high - low by omega)
 have:=cnt hw hm low j
 rwa [show low + (j:Int) = high by omega] at this
def Divs (f g:Int → Int) (l:List Int):Prop:=∀ x ∈ l,∀ y ∈ l,f x ≠ f y → g x ≠ g y
theorem divs_mul {w m low high:Int} (hw:1 ≤ w) (hm:1 ≤ m) (hlow:low ≤ high):(∀ x y,low ≤ x → x ≤ high → low ≤ y → y ≤ high → downS x w ≠ downS y w → downS x (w * m) ≠ downS y (w * m)) ↔ AllMul low high w (w * m):=by
 have hW:1 ≤ w * m:=by
  have:=Int.mul_le_mul hw hm (by omega) (by omega)
  simpa using this
 constructor
 ·intro h t h1 h2 h3
  refine Classical.byContradiction fun h4=>?_
  have e1:downS t w = t:=by unfold downS;omega
  have b1:=downS_bd (t - 1) hw
  have b2:=downS_bd t hW
  have e2:downS t (w * m) ≤ t - 1:=by
   have:=Int.emod_nonneg t (b:=w * m) (by omega)
   unfold downS;omega
  have e3:downS (t - 1) (w * m) = downS t (w * m):=downS_same hW e2 (by omega)
  exact h t (t - 1) (by omega) h2 (by omega) (by omega) (by omega) e3.symm
 ·intro h
  have key:∀ x y,low ≤ x → y ≤ high → x < y → downS x w ≠ downS y w → downS x (w * m) ≠ downS y (w * m):=by
   intro x y h1 h2 h3 h4
   have b1:=downS_bd y hw
   have b3:=downS_bd x hW
   have hx:x < downS y w:=by
    rcases Int.lt_or_le x (downS y w) with h5 | h5
    ·exact h5
    ·exact absurd (downS_same hw h5 (by omega)) h4
   have h6:downS y w % w = 0:=by rw [downS_ml];exact Int.mul_emod_right w _
   have h7:=h (downS y w) (by omega) (by omega) h6
   have h8:downS (downS y w) (w * m) = downS y w:=by unfold downS at h7 ⊢;omega
   have h9:=downS_mono hW b1.2
   omega
  intro x y h1 h2 h3 h4 h5 h6
  rcases Int.lt_trichotomy x y with h7 | h7 | h7
  ·exact key x y h1 h4 h7 h5 h6
  ·exact h5 (by rw [h7])
  ·exact key y x h3 h2 h7 (Ne.symm h5) h6.symm
theorem blkC_mea {s:Sch} {c:Col} {nm:List UInt8} (h:MeaOk c nm) {L:Nat} (h1:1 ≤ L) (h2:L ≤ c.widths.length):blkC s c L = c.high / widthS c L - c.low / widthS c L + 1 + (if c.opt = true then 1 else 0):=by
 obtain ⟨hw,_,_⟩:=wid_two h (a:=L) (b:=L) h1 (Nat.le_refl _) h2
 have hk:=h.kind
 unfold blkC
 rw [if_neg (by omega),if_neg (by omega),downS_ml,downS_ml, ← Int.mul_sub,Int.mul_ediv_cancel_left _ (by omega)]
theorem blkC_zero {s:Sch} {c:Col} {nm:List UInt8} (h:MeaOk c nm):blkC s c 0 = 1:=by
 have hk:=h.kind
 unfold blkC
 rw [if_neg (by omega),if_pos rfl]
theorem div_le {a b w:Int} (hw:1 ≤ w) (h:a ≤ b):a / w ≤ b / w:=Int.ediv_le_ediv (by omega) h
theorem blkC_mono {s:Sch} {c:Col} {nm:List UInt8} (h:MeaOk c nm) {o L:Nat} (ho:o ≤ L) (hL:L ≤ c.widths.length):blkC s c o ≤ blkC s c L:=by
 have hh:=h.high
 by_cases h0:o = 0
 ·subst h0
  rw [show ((0:Nat):Int) = 0 from rfl,blkC_zero h]
  by_cases hL0:L = 0
  ·subst hL0;rw [show ((0:Nat):Int) = 0 from rfl,blkC_zero h];omega
  ·obtain ⟨hw,_,_⟩:=wid_two h (a:=L) (b:=L) (by omega) (Nat.le_refl _) hL
   rw [blkC_mea h (by omega) hL]
   have:=div_le hw.1 hh.1
   split <;> omega
 ·obtain ⟨hw,_,m,hm,e⟩:=wid_two h (a:=L) (b:=o) (by omega) ho hL
  rw [blkC_mea h (by omega) hL,blkC_mea h (by omega) (by omega),e]
  have:=(cnt_iff hw.1 hm hh.1).1
  omega
def allM (c:Col):List Int:=(List.range (c.high - c.low + 1).toNat).map (fun i:Nat=>c.low + (i:Int)) ++ (if c.opt = true then [(-1099511627776)] else [])
theorem mem_allM {c:Col} {v:Int}:v ∈ allM c ↔ ValM c v:=by
 unfold allM ValM
 rw [List.mem_append,List.mem_map]
 constructor
 ·rintro (⟨i,hi,rfl⟩ | h)
  ·rw [List.mem_range] at hi;left;omega
  ·split at h
   ·rename_i ho;simp at h;exact .inr ⟨ho,h⟩
   ·cases h
 ·rintro (h | ⟨h1,h2⟩)
  ·exact .inl ⟨(v - c.low).toNat,by rw [List.mem_range];omega,by omega⟩
  ·right;rw [if_pos h1,h2];simp
theorem divs_mea {s:Sch} {c:Col} {nm:List UInt8} (h:MeaOk c nm) {o L:Nat} (ho:o ≤ L) (hL:L ≤ c.widths.length):Divs (coaC s c L) (coaC s c o) (allM c) ↔ blkC s c o = blkC s c L:=by
 have hl:=h.low
 have hh:=h.high
 have hlow:ValM c c.low:=.inl (by omega)
 have hhigh:ValM c c.high:=.inl (by omega)
 by_cases hoL:o = L
 ·subst hoL
  exact ⟨fun _=>rfl,fun _ x _ y _ h=>h⟩
 obtain ⟨hw,_,_⟩:=wid_two h (a:=L) (b:=L) (by omega) (Nat.le_refl _) hL
 have hbd:=fun v (hv:c.low ≤ v ∧ v ≤ c.high)=>downS_bd v hw.1
 by_cases h0:o = 0
 ·subst h0
  rw [blkC_mea h (by omega) hL,show ((0:Nat):Int) = 0 from rfl,blkC_zero h]
  have hdl:=div_le hw.1 hh.1
  constructor
  ·intro hd
   have z:∀ x y,ValM c x → ValM c y → coaC s c L x = coaC s c L y:=by
    intro x y hx hy
    refine Classical.byContradiction fun hne=>hd x (mem_allM.2 hx) y (mem_allM.2 hy) hne ?_
    rw [coaC_mea h hx,coaC_mea h hy,if_pos rfl,if_pos rfl]
   have hno:¬ c.opt = true:=by
    intro hopt
    have:=z c.low ((-1099511627776)) hlow (.inr ⟨hopt,rfl⟩)
    rw [coaC_mea h hlow,coaC_mea h (.inr ⟨hopt,rfl⟩),if_neg (by omega),if_neg (by omega),if_neg (by omega),if_pos rfl] at this
    have:=hbd c.low (by omega)
    omega
   have:=z c.low c.high hlow hhigh
   rw [coaC_mea h hlow,coaC_mea h hhigh,if_neg (by omega),if_neg (by omega),if_neg (by omega),if_neg (by omega),downS_ml,downS_ml] at this
   have e:c.low / widthS c L = c.high / widthS c L:=Int.eq_of_mul_eq_mul_left (show widthS c L ≠ 0 by omega) this
   rw [if_neg hno,e];omega
  ·intro he x hx y hy hne
   exfalso
   apply hne
   have hno:¬ c.opt = true:=by
    intro hopt;rw [if_pos hopt] at he;omega
   rw [if_neg hno] at he
   have e:c.low / widthS c L = c.high / widthS c L:=by omega
   have z:∀ x,ValM c x → coaC s c L x = widthS c L * (c.low / widthS c L):=by
    intro x hx
    have hx':c.low ≤ x ∧ x ≤ c.high:=by
     rcases hx with hx | hx
     ·exact hx
     ·exact absurd hx.1 hno
    rw [coaC_mea h hx,if_neg (by omega),if_neg (by omega),downS_ml]
    have h1:=div_le hw.1 hx'.1
    have h2:=div_le hw.1 hx'.2
    congr 1
    omega
   rw [z x (mem_allM.1 hx),z y (mem_allM.1 hy)]
 ·obtain ⟨_,hW,m,hm,e⟩:=wid_two h (a:=L) (b:=o) (by omega) ho hL
  rw [blkC_mea h (by omega) hL,blkC_mea h (by omega) (by omega)]
  have hc:=(cnt_iff hw.1 hm hh.1).2
  have hdm:=divs_mul hw.1 hm hh.1
  rw [← e] at hc hdm
  have e1:(c.high / widthS c o - c.low / widthS c o + 1 + (if c.opt = true then 1 else 0) = c.high / widthS c L - c.low / widthS c L + 1 + (if c.opt = true then 1 else 0)) ↔ (c.high / widthS c o - c.low / widthS c o = c.high / widthS c L - c.low / widthS c L):=by
   constructor <;> intro h <;> omega
  rw [e1,hc, ← hdm]
  have coa:∀ lv:Nat,1 ≤ lv → ∀ x,c.low ≤ x → x ≤ c.high → coaC s c lv x = downS x (widthS c lv):=by
   intro lv hlv x h1 h2
   rw [coaC_mea h (.inl ⟨h1,h2⟩),if_neg (by omega),if_neg (by omega)]
  constructor
  ·intro hd x y h1 h2 h3 h4 h5
   have:=hd x (mem_allM.2 (.inl ⟨h1,h2⟩)) y (mem_allM.2 (.inl ⟨h3,h4⟩))
   rw [coa L (by omega) x h1 h2,coa L (by omega) y h3 h4,coa o (by omega) x h1 h2,coa o (by omega) y h3 h4] at this
   exact this h5
  ·intro hd x hx y hy hne
   have bW:=fun v (hv:c.low ≤ v ∧ v ≤ c.high)=>downS_bd v hW.1
   rcases mem_allM.1 hx with hx' | hx' <;> rcases mem_allM.1 hy with hy' | hy'
   ·rw [coa L (by omega) x hx'.1 hx'.2,coa L (by omega) y hy'.1 hy'.2] at hne
    rw [coa o (by omega) x hx'.1 hx'.2,coa o (by omega) y hy'.1 hy'.2]
    exact hd x y hx'.1 hx'.2 hy'.1 hy'.2 hne
   ·have:=bW x hx'
    rw [coa o (by omega) x hx'.1 hx'.2,coaC_mea h (.inr hy'),if_neg (by omega),if_pos hy'.2]
    omega
   ·have:=bW y hy'
    rw [coa o (by omega) y hy'.1 hy'.2,coaC_mea h (.inr hx'),if_neg (by omega),if_pos hx'.2]
    omega
   ·exfalso;apply hne;rw [hx'.2,hy'.2]
def pairOk (f g:Int → Int) (x y:Int):Bool:=!(decide (f x ≠ f y) && decide (g x = g y))
def divB (f g:Int → Int) (l:List Int):Bool:=(List.range l.length).all fun i=>(List.range i).all fun k=>pairOk f g (l.getD i 0) (l.getD k 0)
theorem divB_iff {f g:Int → Int} {l:List Int}:divB f g l = true ↔ Divs f g l:=by
 unfold divB Divs
 simp only [List.all_eq_true,List.mem_range]
 constructor
 ·intro h x hx y hy hne hg
  obtain ⟨i,hi,rfl⟩:=List.getElem_of_mem hx
  obtain ⟨k,hk,rfl⟩:=List.getElem_of_mem hy
  have g1:l.getD i 0 = l[i]:=getD_get (List.getElem?_eq_getElem hi)
  have g2:l.getD k 0 = l[k]:=getD_get (List.getElem?_eq_getElem hk)
  rcases Nat.lt_trichotomy i k with h1 | h1 | h1
  ·have:=h k hk i h1
   rw [g1,g2] at this
   simp [pairOk,Ne.symm hne,hg] at this
  ·subst h1;exact hne rfl
  ·have:=h i hi k h1
   rw [g1,g2] at this
   simp [pairOk,hne,hg] at this
 ·intro h i hi k hk
  have g1:l.getD i 0 = l[i]:=getD_get (List.getElem?_eq_getElem hi)
  have hk':k < l.length:=by omega
  have g2:l.getD k 0 = l[k]:=getD_get (List.getElem?_eq_getElem hk')
  rw [g1,g2]
  by_cases hne:f l[i] = f l[k]
  ·simp [pairOk,hne]
  ·have:=h _ (List.getElem_mem hi) _ (List.getElem_mem hk') hne
   simp [pairOk,this]
def allC (s:Sch) (c:Col):List Int:=if c.kind = 2 then (atS (lstOf s c).1 (lstOf s c).2 (levelsS (lstOf s c).1 (lstOf s c).2 - 1)).map fun n:Nat=>(n:Int) else allM c
structure ColB (s:Sch) (c:Col) (n:Nat):Prop where
 fin:finC s c = n
 le:n ≤ 4
 mono:∀ o L:Nat,o ≤ L → L ≤ n → blkC s c o ≤ blkC s c L
 divs:∀ o L:Nat,o ≤ L → L ≤ n → (Divs (coaC s c L) (coaC s c o) (allC s c) ↔ blkC s c o = blkC s c L)
def codeBB (cs:List Code):Bool:=(List.range (levelsS oneL cs).toNat).all fun L=>(List.range (L + 1)).all fun o=>decide ((atS oneL cs o).length ≤ (atS oneL cs L).length) && decide ((atS oneL cs (levelsS oneL cs - 1)).all (fun x=>(atS oneL cs (levelsS oneL cs - 1)).all fun y=>decide (upS oneL cs x L = upS oneL cs y L) || !(decide (upS oneL cs x o = upS oneL cs y o))) = decide ((atS oneL cs o).length = (atS oneL cs L).length))
theorem fam_codeB:fam.all codeBB = true:=by decide +kernel
theorem Drawn.blk {s:Sch} (h:Drawn s) {i:Nat} {c:Col} (hi:0 < i) (hc:s.cols[i]? = some c):∃ n,ColB s c n:=by
 rcases h.col hc with ⟨rfl,_⟩ | ⟨_,hcc⟩ | ⟨_,nm,hm⟩
 ·omega
 ·obtain ⟨hf,hnm,hlen⟩:=h.lst hcc
  have hk:c.kind = 2:=by rcases hcc with rfl | rfl <;> rfl
  have hlo:=fam_ok hf
  have hlv:=levelsS_nm hnm (lstOf s c).2
  have ht:=List.all_eq_true.1 fam_turn _ hf
  simp only [turnOkB,Bool.and_eq_true,decide_eq_true_eq,List.all_eq_true,List.mem_range] at ht
  have hb:=List.all_eq_true.1 fam_codeB _ hf
  simp only [codeBB,List.all_eq_true,List.mem_range,Bool.and_eq_true,decide_eq_true_eq] at hb
  obtain ⟨n,hn⟩:=Int.eq_ofNat_of_zero_le (show 0 ≤ levelsS oneL (lstOf s c).2 - 1 by have:=hlo.lv;omega)
  have coa:∀ j:Nat,j ∈ atS oneL (lstOf s c).2 n → ∀ lv:Int,coaC s c lv j = upS oneL (lstOf s c).2 j lv:=by
   intro j hj lv
   have h1:=hlo.mem j (by rw [hn];exact hj)
   have h2:=(ht j (by rw [hn];exact hj)).1.1.1
   unfold coaC
   rw [if_pos hk,upS_nm hnm,if_pos]
   unfold holdB
   rw [if_neg (by omega),if_pos hk,h2]
   simp;omega
  have blk:∀ lv:Int,blkC s c lv = (atS oneL (lstOf s c).2 lv).length:=by
   intro lv;unfold blkC;rw [if_pos hk,atS_nm hnm]
  refine ⟨n,⟨?_,?_,?_,?_⟩⟩
  ·unfold finC;rw [if_pos hk,hlv,hn]
  ·have:=hlo.lv;omega
  ·intro o L h1 h2
   have:=(hb L (by omega) o (by omega)).1
   rw [blk,blk];omega
  ·intro o L h1 h2
   have:=(hb L (by omega) o (by omega)).2
   rw [blk,blk]
   have e:allC s c = (atS oneL (lstOf s c).2 n).map fun n:Nat=>(n:Int):=by unfold allC;rw [if_pos hk,hlv,atS_nm hnm,hn]
   rw [e]
   rw [hn] at this
   have e2:(((atS oneL (lstOf s c).2 o).length:Int) = ((atS oneL (lstOf s c).2 L).length:Int)) ↔ (atS oneL (lstOf s c).2 o).length = (atS oneL (lstOf s c).2 L).length:=by omega
   rw [e2, ← decide_eq_true_iff (p:=(atS oneL (lstOf s c).2 o).length = (atS oneL (lstOf s c).2 L).length), ← this]
   simp only [List.all_eq_true,Bool.or_eq_true,decide_eq_true_eq,Bool.not_eq_true',decide_eq_false_iff_not]
   constructor
   ·intro hd x hx y hy
    by_cases hxy:upS oneL (lstOf s c).2 x L = upS oneL (lstOf s c).2 y L
    ·exact .inl hxy
    ·have:=hd x (List.mem_map.2 ⟨x,hx,rfl⟩) y (List.mem_map.2 ⟨y,hy,rfl⟩)
     rw [coa x hx,coa y hy,coa x hx,coa y hy] at this
     exact .inr (this hxy)
   ·intro hd x hx y hy hne
    obtain ⟨x',hx',rfl⟩:=List.mem_map.1 hx
    obtain ⟨y',hy',rfl⟩:=List.mem_map.1 hy
    rw [coa x' hx',coa y' hy'] at hne ⊢
    rcases hd x' hx' y' hy' with h3 | h3
    ·exact absurd h3 hne
    ·exact h3
 ·have hk:=hm.kind
  have e:allC s c = allM c:=by unfold allC;rw [if_neg (by omega)]
  refine ⟨c.widths.length,⟨?_,(wid_one hm).2.1,fun o L h1 h2=>blkC_mono hm h1 h2,fun o L h1 h2=>by rw [e];exact divs_mea hm h1 h2⟩⟩
  unfold finC;rw [if_neg (by omega)]
end Go.Proofs.YtjmbhlgocikfiaaGreatDoor
