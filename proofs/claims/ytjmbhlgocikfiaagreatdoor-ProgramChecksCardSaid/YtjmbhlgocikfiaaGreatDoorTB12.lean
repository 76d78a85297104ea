/- Draws: measures. Chapter 2: what every drawn schema is like. Nothing laid is an empty row: in arguments of calls, and in rows of one's own. Draws: schemas. Chapter 2: the example of the chapter. -/
import Derived.Test.YtjmbhlgocikfiaaGreatDoorTB5
import Derived.Test.YtjmbhlgocikfiaaGreatDoorTB7
import Derived.Test.YtjmbhlgocikfiaaGreatDoorTE3
import Derived.Test.YtjmbhlgocikfiaaGreatDoorTAvTy
import Derived.Test.YtjmbhlgocikfiaaGreatDoorTB8
set_option linter.unusedVariables false
set_option linter.unnecessarySimpa false
set_option linter.unusedSimpArgs false
namespace Go.Proofs.YtjmbhlgocikfiaaGreatDoor
open Go Go.Av
attribute [local irreducible] AWp AOps AAny MAny DQ retQ retG St.le FCall GCall
set_option maxRecDepth 100000
def wOpts:List (List Int):=[[1],[1,5],[1,5,20],[1,2,4,12]]
def meaS (l:List UInt8) (a:Nat) (nm:List UInt8):Col × Nat :=
 let low:=-4 + ((nxt l a 7).1:Int)
 let a1:=(nxt l a 7).2
 let a2:=(nxt l a1 4).2
 let a3:=(nxt l a2 3).2
 (⟨nm,3,0,low,low + ((nxt l a3 45).1:Int),wOpts.getD (nxt l a1 4).1 [],decide (((nxt l a2 3).1:Int) = 2)⟩,(nxt l a3 45).2)
theorem each_w {n:Nat} {F:List AV → Prop} (h:(n:Int) < 4) (k:F [.sl 1 ((wOpts.getD n []).map wA)]):EachP (wOpts.map fun ws=>[AV.sl 1 (ws.map wA)]) (n:Int) F:=by
 refine each_mapN (by show n < 4;omega) fun x hx=>?_
 rw [List.getD_eq_getElem?_getD,hx] at k
 exact k
set_option maxHeartbeats 4000000 in
theorem mea_call (l:List UInt8) (a:Nat) (nm:List UInt8) (hl:l.length ≤ 400):GCall Tryz.prog 26 1 (drB l a) [.ref 0 0, .str nm] 1 (drB l (meaS l a nm).2) (colA (meaS l a nm).1):=by
 have h7:=nxt_lt l a (n:=7) (by omega)
 have h4:=nxt_lt l (nxt l a 7).2 (n:=4) (by omega)
 refine gci Tryz.func26 28 fun E h0=>?_
 repeat' ((first|refine aops_go ?_|refine S1 ?_|refine Z1 ?_|refine Z2 ?_|(refine And.intro ?_ ?_<;>intro h<;>try first|(exfalso;omega)|exact absurd rfl h)|refine Z3 ?_|refine Z4 ?_|intro el hel hbB|intro el hel|intro ex|refine Z5 ?_|(refine free_i ?_ ?_;exact ⟨by kernel_rfl,by decide⟩)|refine allI_c ?_ ?_|exact allI_n|refine allMP_c ?_ ?_|exact allMP_n|(refine many_step ?_ ?_ ?_;kernel_rfl;kernel_rfl)) <;> (try (conv=>whnf)))
 refine draw_m ⟨[(0, .ref 0 0),(4, .ref 1 0),(5, .ref 2 0)],3,[(0,some (.box [.sl 1 (l.map u8A), .i (nxt l (nxt l (nxt l a 7).2 4).2 3).2])),(1,some (.box [.str [], .i 0, .i 0, .i 0, .i 0, .v (.slice none 0 0), .b false])),(2,some (.box [.str nm, .i 3, .i 0, .i (-4 + ((nxt l a 7).1:Int)), .i 0, .sl 1 ((wOpts.getD (nxt l (nxt l a 7).2 4).1 []).map wA), .b (decide (((nxt l (nxt l (nxt l a 7).2 4).2 3).1:Int) = 2))]))]⟩ ?_ ?_
 ·repeat' ((first | refine ⟨ncall_h [0] [0] (range_call _ _ _ _ hl (by omega) (by omega) (by omega)) rfl rfl rfl rfl rfl ⟨rfl,trivial⟩ rfl rfl rfl rfl rfl ?_⟩ | refine ⟨ncall_h [0] [0] (one_call _ _ _ hl (by omega)) rfl rfl rfl rfl rfl ⟨rfl,trivial⟩ rfl rfl rfl rfl rfl ?_⟩ | refine ⟨ncall_h [0] [0] (next_call _ _ _ hl) rfl rfl rfl rfl rfl ⟨rfl,trivial⟩ rfl rfl rfl rfl rfl ?_⟩ | refine each_w h4 ?_ |refine aops_go ?_|refine S1 ?_|refine Z1 ?_|refine Z2 ?_|(refine And.intro ?_ ?_<;>intro h<;>try first|(exfalso;omega)|exact absurd rfl h)|refine Z3 ?_|refine Z4 ?_|intro el hel hbB|intro el hel|intro ex|refine Z5 ?_|(refine free_i ?_ ?_;exact ⟨by kernel_rfl,by decide⟩)|refine allI_c ?_ ?_|exact allI_n|refine allMP_c ?_ ?_|exact allMP_n|(refine many_step ?_ ?_ ?_;kernel_rfl;kernel_rfl)) <;> (try (conv=>whnf)))
  all_goals first
   | exact le_of h0 rfl ⟨rfl,rfl,rfl,trivial⟩ ⟨rfl,rfl,rfl,trivial⟩ rfl rfl rfl
 repeat' ((first|refine aops_go ?_|refine S1 ?_|refine Z1 ?_|refine Z2 ?_|(refine And.intro ?_ ?_<;>intro h<;>try first|(exfalso;omega)|exact absurd rfl h)|refine Z3 ?_|refine Z4 ?_|intro el hel hbB|intro el hel|intro ex|refine Z5 ?_|(refine free_i ?_ ?_;exact ⟨by kernel_rfl,by decide⟩)|refine allI_c ?_ ?_|exact allI_n|refine allMP_c ?_ ?_|exact allMP_n|(refine many_step ?_ ?_ ?_;kernel_rfl;kernel_rfl)) <;> (try (conv=>whnf)))
 refine draw_m ⟨[(0, .ref 0 0),(4, .ref 1 0),(5, .ref 2 0)],3,[(0,some (.box [.sl 1 (l.map u8A), .i (nxt l (nxt l (nxt l (nxt l a 7).2 4).2 3).2 45).2])),(1,some (.box [.str [], .i 0, .i 0, .i 0, .i 0, .v (.slice none 0 0), .b false])),(2,some (.box [.str nm, .i 3, .i 0, .i (-4 + ((nxt l a 7).1:Int)), .i (-4 + ((nxt l a 7).1:Int) + ((nxt l (nxt l (nxt l (nxt l a 7).2 4).2 3).2 45).1:Int)), .sl 1 ((wOpts.getD (nxt l (nxt l a 7).2 4).1 []).map wA), .b (decide (((nxt l (nxt l (nxt l a 7).2 4).2 3).1:Int) = 2))]))]⟩ ?_ ?_
 ·have h45:=nxt_lt l (nxt l (nxt l (nxt l a 7).2 4).2 3).2 (n:=45) (by omega)
  repeat' ((first | refine ⟨ncall_h [0] [0] (next_call _ _ _ hl) rfl rfl rfl rfl rfl ⟨rfl,trivial⟩ rfl rfl rfl rfl rfl ?_⟩ |refine aops_go ?_|refine S1 ?_|refine Z1 ?_|refine Z2 ?_|(refine And.intro ?_ ?_<;>intro h<;>try first|(exfalso;omega)|exact absurd rfl h)|refine Z3 ?_|refine Z4 ?_|intro el hel hbB|intro el hel|intro ex|refine Z5 ?_|(refine free_i ?_ ?_;exact ⟨by kernel_rfl,by decide⟩)|refine allI_c ?_ ?_|exact allI_n|refine allMP_c ?_ ?_|exact allMP_n|(refine many_step ?_ ?_ ?_;kernel_rfl;kernel_rfl)) <;> (try (conv=>whnf)))
  all_goals first
   | exact le_of h0 rfl ⟨rfl,rfl,rfl,trivial⟩ ⟨rfl,rfl,rfl,trivial⟩ rfl rfl rfl
 repeat' ((first|refine aops_go ?_|refine S1 ?_|refine Z1 ?_|refine Z2 ?_|(refine And.intro ?_ ?_<;>intro h<;>try first|(exfalso;omega)|exact absurd rfl h)|refine Z3 ?_|refine Z4 ?_|intro el hel hbB|intro el hel|intro ex|refine Z5 ?_|(refine free_i ?_ ?_;exact ⟨by kernel_rfl,by decide⟩)|refine allI_c ?_ ?_|exact allI_n|refine allMP_c ?_ ?_|exact allMP_n|(refine many_step ?_ ?_ ?_;kernel_rfl;kernel_rfl)) <;> (try (conv=>whnf)))
 exact retg_vs (rvs:=[.cell 4 58]) (vs:=[_]) ⟨1,_,_,rfl,rfl,inferInstance,rfl,rfl,trivial⟩ rfl rfl (le_of h0 rfl ⟨rfl,trivial⟩ ⟨rfl,trivial⟩ rfl rfl rfl) rfl
def whoC:Col:=⟨[119,104,111],1,0,0,0,[],false⟩
def sexC:Col:=⟨[115,101,120],2,0,0,0,[],false⟩
def jobC:Col:=⟨[106,111,98],2,1,0,0,[],false⟩
def meaN (n:Nat):List UInt8:=[109] ++ itoaN n
def meaAdd (l:List UInt8):List Col × Nat → Nat → List Col × Nat
 | s,0=>s
 | s,k + 1=>meaAdd l (s.1 ++ [(meaS l s.2 (meaN s.1.length)).1],(meaS l s.2 (meaN s.1.length)).2) k
abbrev twoN:List UInt8:=[116,119,111]
abbrev oneL:List UInt8:=[111,110,101]
def baseC (b:Bool):List Col:=cond b [whoC,sexC,jobC] [whoC,sexC]
def schS (l:List UInt8) (a:Nat):Sch × Nat :=
 let l1:=listS l a
 let l2:=listS l l1.2
 let b:=nxt l l2.2 2
 let m:=nxt l b.2 3
 let r:=meaAdd l (baseC (decide ((b.1:Int) = 1)),m.2) (1 + m.1)
 (⟨[(oneL,l1.1),(twoN,l2.1)],r.1⟩,r.2)
structure MeaOk (c:Col) (nm:List UInt8):Prop where
 name:c.name = nm
 kind:c.kind = 3
 lst:c.lst = 0
 low:-4 ≤ c.low ∧ c.low ≤ 2
 high:c.low ≤ c.high ∧ c.high ≤ c.low + 44
 wid:c.widths ∈ wOpts
theorem meaS_ok (l:List UInt8) (a:Nat) (nm:List UInt8):MeaOk (meaS l a nm).1 nm:=by
 have h7:=nxt_lt l a (n:=7) (by omega)
 have h4:=nxt_lt l (nxt l a 7).2 (n:=4) (by omega)
 have h45:=nxt_lt l (nxt l (nxt l (nxt l a 7).2 4).2 3).2 (n:=45) (by omega)
 refine ⟨rfl,rfl,rfl,?_,?_,?_⟩
 ·simp only [meaS];omega
 ·simp only [meaS];omega
 ·simp only [meaS]
  have hlt:(nxt l (nxt l a 7).2 4).1 < wOpts.length:=by show _ < 4;omega
  rw [List.getD_eq_getElem?_getD,List.getElem?_eq_getElem hlt]
  exact List.getElem_mem hlt
theorem meaAdd_spec (l:List UInt8):∀ (k:Nat) (s:List Col × Nat), ∃ ms,(meaAdd l s k).1 = s.1 ++ ms ∧ ms.length = k ∧ ∀ (i:Nat) c,ms[i]? = some c → MeaOk c (meaN (s.1.length + i))
 | 0,s=>⟨[],by simp [meaAdd],rfl,fun i c h=>by simp at h⟩
 | k + 1,s=>by
  obtain ⟨ms,h1,h2,h3⟩:=meaAdd_spec l k (s.1 ++ [(meaS l s.2 (meaN s.1.length)).1],(meaS l s.2 (meaN s.1.length)).2)
  refine ⟨(meaS l s.2 (meaN s.1.length)).1 :: ms,?_,by simp [h2],fun i c hc=>?_⟩
  ·rw [meaAdd,h1];simp
  ·cases i with
   | zero=>simp at hc;subst hc;exact meaS_ok _ _ _
   | succ i =>
    have:=h3 i c (by simpa using hc)
    simp only [List.length_append,List.length_singleton] at this
    rwa [show s.1.length + (i + 1) = s.1.length + 1 + i by omega]
structure Drawn (s:Sch):Prop where
 ls:∃ l1 l2,l1 ∈ fam ∧ l2 ∈ fam ∧ s.lists = [(oneL,l1),(twoN,l2)]
 cs:∃ b ms,s.cols = baseC b ++ ms ∧ 1 ≤ ms.length ∧ ms.length ≤ 3 ∧ ∀ (i:Nat) c,ms[i]? = some c → MeaOk c (meaN ((baseC b).length + i))
theorem schS_drawn (l:List UInt8) (a:Nat):Drawn (schS l a).1:=by
 refine ⟨⟨_,_,listS_mem l a,listS_mem l (listS l a).2,rfl⟩,?_⟩
 have h3:=nxt_lt l (nxt l (listS l (listS l a).2).2 2).2 (n:=3) (by omega)
 obtain ⟨ms,h1,h2,h4⟩:=meaAdd_spec l (1 + (nxt l (nxt l (listS l (listS l a).2).2 2).2 3).1) (baseC (decide (((nxt l (listS l (listS l a).2).2 2).1:Int) = 1)),(nxt l (nxt l (listS l (listS l a).2).2 2).2 3).2)
 exact ⟨_,ms,h1,by omega,by omega,h4⟩
def namesD (b:Bool) (n:Nat):List (List UInt8):=(baseC b).map (·.name) ++ (List.range n).map fun i=>meaN ((baseC b).length + i)
def nmsOk (l:List (List UInt8)):Bool:=(List.range l.length).all fun i=>nameB (l.getD i []) && !((l.take i).any fun x=>decide (x = l.getD i []))
theorem names_ok:([true,false].all fun b=>[1,2,3].all fun n=>nmsOk (namesD b n)) = true:=by decide +kernel
def lstOkB (cs:List Code):Bool:=decide (chk oneL cs = 0) && decide (chk twoN cs = 0) && decide (1 ≤ levelsS oneL cs ∧ levelsS oneL cs ≤ 5) && decide (cs.length ≤ 10) && decide (1 ≤ (atS oneL cs (levelsS oneL cs - 1)).length ∧ (atS oneL cs (levelsS oneL cs - 1)).length ≤ 10) && ((atS oneL cs (levelsS oneL cs - 1)).all fun k=>decide (k < cs.length))
theorem fam_lst:fam.all lstOkB = true:=by decide +kernel
structure LstOk (cs:List Code):Prop where
 one:chk oneL cs = 0
 two:chk twoN cs = 0
 lv:1 ≤ levelsS oneL cs ∧ levelsS oneL cs ≤ 5
 len:cs.length ≤ 10
 at':1 ≤ (atS oneL cs (levelsS oneL cs - 1)).length ∧ (atS oneL cs (levelsS oneL cs - 1)).length ≤ 10
 mem:∀ k ∈ atS oneL cs (levelsS oneL cs - 1),k < cs.length
theorem fam_ok {cs:List Code} (h:cs ∈ fam):LstOk cs:=by
 have:=List.all_eq_true.1 fam_lst _ h
 simp only [lstOkB,Bool.and_eq_true,decide_eq_true_eq,List.all_eq_true] at this
 obtain ⟨⟨⟨⟨⟨h1,h2⟩,h3⟩,h4⟩,h5⟩,h6⟩:=this
 exact ⟨h1,h2,h3,h4,h5,h6⟩
theorem chk_nm {a b:List UInt8} (h:nameB a = nameB b) (cs:List Code):chk a cs = chk b cs:=by unfold chk;rw [h]
theorem hasB_nm {a b:List UInt8} (h:nameB a = nameB b) (cs:List Code) (k:Int):hasB a cs k = hasB b cs k:=by unfold hasB;rw [chk_nm h]
theorem levelsS_nm {a b:List UInt8} (h:nameB a = nameB b) (cs:List Code):levelsS a cs = levelsS b cs:=by unfold levelsS;rw [chk_nm h]
theorem upS_nm {a b:List UInt8} (h:nameB a = nameB b) (cs:List Code) (k lv:Int):upS a cs k lv = upS b cs k lv:=by unfold upS;rw [hasB_nm h]
theorem atS_nm {a b:List UInt8} (h:nameB a = nameB b) (cs:List Code) (lv:Int):atS a cs lv = atS b cs lv:=by unfold atS;rw [chk_nm h]
theorem nm_two:nameB twoN = nameB oneL:=by decide
theorem firstE_all {α:Type} {f:Nat → α → Int}:∀ {l:List α} {k:Nat},(∀ (i:Nat) x,l[i]? = some x → f (k + i) x = 0) → firstE f k l = 0
 | [],k,_=>rfl
 | y :: r,k,h=>by
  have h0:=h 0 y rfl
  simp only [Nat.add_zero] at h0
  rw [firstE,if_pos h0]
  refine firstE_all fun i x hx=>?_
  have:=h (i + 1) x (by simpa using hx)
  rwa [show k + (i + 1) = k + 1 + i by omega] at this
theorem MeaOk.meaE {c:Col} {nm:List UInt8} (h:MeaOk c nm):meaE c = 0:=by
 have h1:=h.low
 have h2:=h.high
 have h3:=h.wid
 unfold Go.Proofs.YtjmbhlgocikfiaaGreatDoor.meaE
 rw [if_neg (by omega)]
 simp only [wOpts,List.mem_cons,List.not_mem_nil,or_false] at h3
 rcases h3 with h3 | h3 | h3 | h3 <;> rw [h3] <;> decide
theorem MeaOk.used {c:Col} {nm:List UInt8} (h:MeaOk c nm):usedB c = true:=by
 unfold usedB
 rw [h.kind,h.lst]
 simp
theorem MeaOk.kindE {c:Col} {nm:List UInt8} (h:MeaOk c nm) (s:Sch) (i:Nat):kindE s i c = 0:=by
 unfold Go.Proofs.YtjmbhlgocikfiaaGreatDoor.kindE
 rw [h.kind]
 simp [h.meaE]
theorem Drawn.col {s:Sch} (h:Drawn s) {i:Nat} {c:Col} (hc:s.cols[i]? = some c):(i = 0 ∧ c = whoC) ∨ (0 < i ∧ (c = sexC ∨ c = jobC)) ∨ (0 < i ∧ ∃ nm,MeaOk c nm):=by
 obtain ⟨b,ms,h1,_,_,h4⟩:=h.cs
 rw [h1,List.getElem?_append] at hc
 split at hc
 ·cases b <;> simp only [baseC,_root_.cond_true,_root_.cond_false,List.length_cons,List.length_nil] at hc
  ·match i,hc with
   | 0,hc=>cases hc;exact .inl ⟨rfl,rfl⟩
   | 1,hc=>cases hc;exact .inr (.inl ⟨by omega, .inl rfl⟩)
   | n + 2,hc=>simp at hc
  ·match i,hc with
   | 0,hc=>cases hc;exact .inl ⟨rfl,rfl⟩
   | 1,hc=>cases hc;exact .inr (.inl ⟨by omega, .inl rfl⟩)
   | 2,hc=>cases hc;exact .inr (.inl ⟨by omega, .inr rfl⟩)
   | n + 3,hc=>simp at hc
 ·rename_i hlt
  refine .inr (.inr ⟨?_,_,h4 _ c hc⟩)
  cases b <;> simp [baseC] at hlt <;> omega
theorem Drawn.names {s:Sch} (h:Drawn s):nmsOk (s.cols.map (·.name)) = true:=by
 obtain ⟨b,ms,h1,h2,h3,h4⟩:=h.cs
 have e:s.cols.map (·.name) = namesD b ms.length:=by
  rw [h1,List.map_append]
  unfold namesD
  congr 1
  refine List.ext_getElem? fun i=>?_
  rw [List.getElem?_map,List.getElem?_map]
  by_cases hi:i < ms.length
  ·rw [List.getElem?_eq_getElem hi,List.getElem?_range hi]
   simp only [Option.map_some]
   rw [(h4 i _ (List.getElem?_eq_getElem hi)).name]
  ·rw [List.getElem?_eq_none (by omega),List.getElem?_eq_none (by simp;omega)];rfl
 rw [e]
 have h5:=List.all_eq_true.1 (List.all_eq_true.1 names_ok b (by cases b <;> simp)) ms.length
 refine h5 ?_
 have:ms.length = 1 ∨ ms.length = 2 ∨ ms.length = 3:=by omega
 rcases this with h | h | h <;> rw [h] <;> simp
theorem Drawn.colE {s:Sch} (h:Drawn s) {i:Nat} {c:Col} (hc:s.cols[i]? = some c):colE s i c = 0:=by
 have hi:=lt_of_get hc
 have hn:=List.all_eq_true.1 h.names i (by simpa using hi)
 simp only [Bool.and_eq_true,Bool.not_eq_true'] at hn
 have hg:(s.cols.map (·.name)).getD i [] = c.name:=by
  rw [List.getD_eq_getElem?_getD,List.getElem?_map,hc];rfl
 rw [hg] at hn
 have hd:dupB s i c = false:=by
  unfold dupB
  rw [← hn.2, ← List.map_take,List.any_map]
  rfl
 have hl:s.lists.length = 2:=by obtain ⟨l1,l2,_,_,h⟩:=h.ls;rw [h];rfl
 have hk:kindE s i c = 0 ∧ usedB c = true:=by
  rcases h.col hc with ⟨rfl,rfl⟩ | ⟨h0,rfl | rfl⟩ | ⟨h0,nm,hm⟩
  ·exact ⟨by unfold kindE;simp [whoC],by decide⟩
  ·exact ⟨by unfold kindE;rw [hl];simp [sexC],by decide⟩
  ·exact ⟨by unfold kindE;rw [hl];simp [jobC],by decide⟩
  ·exact ⟨hm.kindE s i,hm.used⟩
 unfold Go.Proofs.YtjmbhlgocikfiaaGreatDoor.colE
 rw [hn.1,hd,hk.1,hk.2]
 rfl
theorem Drawn.lens {s:Sch} (h:Drawn s):s.lists.length = 2 ∧ 3 ≤ s.cols.length ∧ s.cols.length ≤ 6:=by
 obtain ⟨l1,l2,_,_,h1⟩:=h.ls
 obtain ⟨b,ms,h2,h3,h4,_⟩:=h.cs
 refine ⟨by rw [h1];rfl,?_⟩
 rw [h2,List.length_append]
 cases b <;> simp [baseC] <;> omega
theorem Drawn.ok {s:Sch} (h:Drawn s):schE s = 0:=by
 have hl:=h.lens
 obtain ⟨l1,l2,m1,m2,e⟩:=h.ls
 unfold schE
 rw [if_neg (by omega)]
 have h1:firstE (lstE s.lists) 0 s.lists = 0:=by
  refine firstE_all fun i x hx=>?_
  rw [e] at hx ⊢
  rw [Nat.zero_add]
  match i,hx with
  | 0,hx=>cases hx;unfold lstE;rw [if_pos (fam_ok m1).one];rfl
  | 1,hx=>cases hx;unfold lstE;rw [if_pos (fam_ok m2).two];rfl
  | n + 2,hx=>simp at hx
 have h2:s.cols.head?.map (·.kind) = some 1:=by
  obtain ⟨b,ms,h2,_⟩:=h.cs
  rw [h2];cases b <;> rfl
 rw [if_pos h1,if_pos h2]
 exact firstE_all fun i x hx=>by rw [Nat.zero_add];exact h.colE hx
def NLs:List AV → List AV → Prop
 | [],[]=>True
 | x :: r,y :: s=>NL x y ∧ NLs r s
 | _,_=>False
def NLss:List (List AV) → List (List AV) → Prop
 | [],[]=>True
 | x :: r,y :: s=>NLs x y ∧ NLss r s
 | _,_=>False
theorem NLs.get:∀ {l m:List AV},NLs l m → l.length = m.length ∧ ∀ (j:Nat) x y,l[j]? = some x → m[j]? = some y → NL x y
 | [],[],_=>⟨rfl,fun j x y h=>by simp at h⟩
 | a :: r,b :: s,h=>by
  obtain ⟨h1,h2⟩:=NLs.get h.2
  refine ⟨by simp [h1],fun j x y hx hy=>?_⟩
  cases j with
  | zero=>simp at hx hy;subst hx hy;exact h.1
  | succ j=>exact h2 j x y (by simpa using hx) (by simpa using hy)
 | [],_ :: _,h=>h.elim
 | _ :: _,[],h=>h.elim
theorem NLss.get:∀ {l m:List (List AV)},NLss l m → l.length = m.length ∧ ∀ (i:Nat) e e',l[i]? = some e → m[i]? = some e' → NLs e e'
 | [],[],_=>⟨rfl,fun j x y h=>by simp at h⟩
 | a :: r,b :: s,h=>by
  obtain ⟨h1,h2⟩:=NLss.get h.2
  refine ⟨by simp [h1],fun j x y hx hy=>?_⟩
  cases j with
  | zero=>simp at hx hy;subst hx hy;exact h.1
  | succ j=>exact h2 j x y (by simpa using hx) (by simpa using hy)
 | [],_ :: _,h=>h.elim
 | _ :: _,[],h=>h.elim
theorem NLs.refl:∀ (l:List AV),NLs l l
 | []=>trivial
 | x :: r=>⟨.refl x,NLs.refl r⟩
theorem NLss.refl:∀ (l:List (List AV)),NLss l l
 | []=>trivial
 | x :: r=>⟨NLs.refl x,NLss.refl r⟩
theorem nl_agg {l m:List AV} (h:NLs l m):NL (.agg l) (.agg m):=.agg l m h.get.1 h.get.2
theorem nl_sl {sz:Nat} {l m:List (List AV)} (h:NLss l m):NL (.sl sz l) (.sl sz m) :=
 .sl sz l m h.get.1 (fun i e e' he he'=>(h.get.2 i e e' he he').get.1) (fun i e e' he he'=>(h.get.2 i e e' he he').get.2)
theorem fcall_nl {P:Program} {f:Nat} {l l':List AV} {r:AV} (h:FCall P f l r) (hn:NLs l' l):FCall P f l' r:=by
 obtain ⟨h1,h2⟩:=hn.get
 unfold FCall at h ⊢
 refine ⟨h.1,fun X w vs hX htb hl hv=>h.2 X w vs hX htb (by omega) fun j a v ha hv2=>?_⟩
 obtain ⟨x,hx⟩:=get_of_len h1 ha
 exact (h2 j x a hx ha).im (hv j x v hx hv2)
theorem le_nl {E:Env} {n:Nat} {σ:St} (i:Nat) {e sz v:Nat} {l:List (List AV)} (l':List (List AV)) (hb:lookB σ.hp i = some (.row e sz v l)) (hn:NLss l l'):St.le E n σ (σ.set i (.row e sz v l')):=by
 unfold St.le
 rintro a w ⟨θ,h⟩
 obtain ⟨hlen,hel⟩:=hn.get
 obtain ⟨_,xs,ho,hsz,him⟩:=h.owns i _ hb
 have hsl:∃ x m c,θ i = .slice x m c:=by
  rcases ho.2 with ⟨h1,_⟩ | ⟨g,cap,cur,h1,_⟩
  ·exact ⟨_,_,_,h1⟩
  ·exact ⟨_,_,_,h1⟩
 have ht:=h.turn (v':=θ i) (b':=.row e sz v l') (w':=w) hb rfl rfl rfl (Nat.le_refl _) (fun _ _ _=>rfl) (fun k hk=>.inl hk) ⟨hsl,e,v,l,rfl, .inr ⟨rfl,hlen,rfl⟩⟩ fun le=>?_
 ·exact ⟨_,ht⟩
 ·refine ⟨xs,?_,fun e' he'=>?_,fun k el' hk j x hx=>?_⟩
  ·simp only [cx,upd_self]
   rw [← hlen]
   exact ho
  ·obtain ⟨k,hk,rfl⟩:=List.getElem_of_mem he'
   obtain ⟨x,hx⟩:=get_of_len hlen (List.getElem?_eq_getElem hk)
   rw [← (hel k x _ hx (List.getElem?_eq_getElem hk)).get.1]
   exact hsz x (List.mem_of_getElem? hx)
  ·obtain ⟨el,hk0⟩:=get_of_len hlen hk
   obtain ⟨q1,q2⟩:=(hel k el el' hk0 hk).get
   obtain ⟨x0,hx0⟩:=get_of_len q1 hx
   obtain ⟨y,hy,hi⟩:=him k el hk0 j x0 hx0
   exact ⟨y,hy,(q2 j x0 x hx0 hx).im (hi.mono le.heap le.U)⟩
abbrev colT:Nat:=58
abbrev clT:Nat:=68
abbrev sB (l:List UInt8) (a:Nat) (s:Sch):Hp:=[(0,some (.box [.sl 1 (l.map u8A), .i a])),(1,some (.row clT 2 0 (s.lists.map clL))),(2,some (.row colT 7 0 (s.cols.map colL)))]
set_option maxHeartbeats 4000000 in
theorem sch_call (l:List UInt8) (a:Nat) (hl:l.length ≤ 400):GCall Tryz.prog 11 1 (drB l a) [.ref 0 0] 3 (sB l (schS l a).2 (schS l a).1) (.agg [.row 1 0 2, .row 2 0 (schS l a).1.cols.length]):=by
 have hc1:=list_call l a oneL hl
 have hc2:=list_call l (listS l a).2 twoN hl
 have e:schS l a = (⟨[(oneL,(listS l a).1),(twoN,(listS l (listS l a).2).1)],(meaAdd l (baseC (decide (((nxt l (listS l (listS l a).2).2 2).1:Int) = 1)),(nxt l (nxt l (listS l (listS l a).2).2 2).2 3).2) (1 + (nxt l (nxt l (listS l (listS l a).2).2 2).2 3).1)).1⟩,(meaAdd l (baseC (decide (((nxt l (listS l (listS l a).2).2 2).1:Int) = 1)),(nxt l (nxt l (listS l (listS l a).2).2 2).2 3).2) (1 + (nxt l (nxt l (listS l (listS l a).2).2 2).2 3).1)).2):=rfl
 rw [e]
 clear e
 generalize hl1:listS l a = l1 at *
 generalize hl2:listS l l1.2 = l2 at *
 obtain ⟨c1,a1⟩:=l1
 obtain ⟨c2,a2⟩:=l2
 dsimp only at hl2 hc1 hc2 ⊢
 have hc3:=one_call l a2 2 hl (by omega)
 generalize hb:nxt l a2 2 = b at *
 obtain ⟨b1,b2⟩:=b
 dsimp only at hc3 ⊢
 have hc4:=range_call l b2 1 3 hl (by omega) (by omega) (by omega)
 have h3:=nxt_lt l b2 (n:=3) (by omega)
 rw [show (3:Int) - 1 + 1 = 3 from rfl] at hc4
 generalize hm:nxt l b2 3 = m at *
 obtain ⟨m1,m2⟩:=m
 dsimp only at hc4 h3 ⊢
 refine gci Tryz.func11 41 fun E h0=>?_
 repeat' ((first | refine ⟨ncall_h [0] [0] hc1 rfl rfl rfl rfl rfl ⟨rfl,trivial⟩ rfl rfl rfl rfl rfl ?_⟩ | refine ⟨ncall_h [0] [0] hc2 rfl rfl rfl rfl rfl ⟨rfl,trivial⟩ rfl rfl rfl rfl rfl ?_⟩ | refine own_slice (T:=28) rfl ?_ | (refine frz_cut 3 [0,2,6,8] ?_;(try (conv=>whnf));refine aops_le (le_frz 5) ?_;refine aops_cut [0,2,6,8] ?_;(try (conv=>whnf));refine own_slice (T:=27) rfl ?_) | refine ⟨ncall_h [0] [0] hc3 rfl rfl rfl rfl rfl ⟨rfl,trivial⟩ rfl rfl rfl rfl rfl ?_⟩ | refine ⟨ncall_h [0] [0] hc4 rfl rfl rfl rfl rfl ⟨rfl,trivial⟩ rfl rfl rfl rfl rfl ?_⟩ |refine aops_go ?_|refine S1 ?_|refine Z1 ?_|refine Z2 ?_|(refine And.intro ?_ ?_<;>intro h<;>try first|(exfalso;omega)|exact absurd rfl h)|refine Z3 ?_|refine Z4 ?_|intro el hel hbB|intro el hel|intro ex|refine Z5 ?_|(refine free_i ?_ ?_;exact ⟨by kernel_rfl,by decide⟩)|refine allI_c ?_ ?_|exact allI_n|refine allMP_c ?_ ?_|exact allMP_n|(refine many_step ?_ ?_ ?_;kernel_rfl;kernel_rfl)) <;> (try (conv=>whnf)))
 all_goals
  refine loop_cut [0,2,3,4] ?_
  (try (conv=>whnf))
 ·have hb1:(b1:Int) = 1:=by omega
  rw [decide_eq_true hb1]
  refine loop_i (ι:=Nat × List Col × Nat) (fun x=>⟨[(0, .ref 0 0),(2, .ref 1 0),(3, .ref 8 0),(4, .i x.1)],9,[(0,some (.box [.sl 1 (l.map u8A), .i x.2.2])),(1,some (.box [.v (.slice none 0 0), .v (.slice none 0 0)])),(6,some (.row clT 2 0 [clL (oneL,c1),clL (twoN,c2)])),(7,some (.row colT 7 0 (x.2.1.map colL))),(8,some (.box [.row 6 0 2, .row 7 0 x.2.1.length]))]⟩)
   (fun x=>x.1 ≤ 3 ∧ x.2.1.length + x.1 ≤ 6 ∧ meaAdd l (baseC true,m2) (1 + m1) = meaAdd l x.2 x.1) (fun x=>x.1) (1 + m1,baseC true,m2) ⟨by dsimp only;omega,by simp only [baseC,_root_.cond_true,_root_.cond_false,List.length_cons,List.length_nil];omega,rfl⟩
   (le_trans (le_nl 7 ((baseC true).map colL) rfl ⟨⟨.refl _, .refl _, .refl _, .refl _, .refl _, .nil 1, .refl _,trivial⟩,⟨.refl _, .refl _, .refl _, .refl _, .refl _, .nil 1, .refl _,trivial⟩,⟨.refl _, .refl _, .refl _, .refl _, .refl _, .nil 1, .refl _,trivial⟩,trivial⟩) (le_of h0 rfl ⟨rfl,rfl,rfl,rfl,trivial⟩ ⟨rfl,rfl,⟨_,rfl⟩,⟨_,rfl⟩,rfl,trivial⟩ rfl rfl rfl)) (fun x hI=>?_)
  obtain ⟨k,cs,a3⟩:=x
  obtain ⟨hk,hlen,hI⟩:=hI
  dsimp only at hk hlen hI ⊢
  have hmea:=mea_call l a3 (meaN cs.length) hl
  have hi1:=itoa_call cs.length (by omega)
  have hil:=itoaN_length cs.length
  repeat' ((first | refine draw_m ⟨[(0, .ref 0 0),(2, .ref 1 0),(3, .ref 8 0),(4, .i k)],9,[(0,some (.box [.sl 1 (l.map u8A), .i (meaS l a3 (meaN cs.length)).2])),(1,some (.box [.v (.slice none 0 0), .v (.slice none 0 0)])),(6,some (.row clT 2 0 [clL (oneL,c1),clL (twoN,c2)])),(7,some (.row colT 7 0 ((cs ++ [(meaS l a3 (meaN cs.length)).1]).map colL))),(8,some (.box [.row 6 0 2, .row 7 0 (cs ++ [(meaS l a3 (meaN cs.length)).1]).length]))]⟩ ?_ ?_ | refine call_i hi1 ?_ | (refine side_i ?_ ?_;(show 1 + (itoaN cs.length).length ≤ _;omega)) | refine ⟨ncall_h [0] [0] hmea rfl rfl rfl rfl rfl ⟨rfl,trivial⟩ rfl rfl rfl rfl rfl ?_⟩ |refine aops_go ?_|refine S1 ?_|refine Z1 ?_|refine Z2 ?_|(refine And.intro ?_ ?_<;>intro h<;>try first|(exfalso;omega)|exact absurd rfl h)|refine Z3 ?_|refine Z4 ?_|intro el hel hbB|intro el hel|intro ex|refine Z5 ?_|(refine free_i ?_ ?_;exact ⟨by kernel_rfl,by decide⟩)|refine allI_c ?_ ?_|exact allI_n|refine allMP_c ?_ ?_|exact allMP_n|(refine many_step ?_ ?_ ?_;kernel_rfl;kernel_rfl)) <;> (try (conv=>whnf)))
  all_goals first
   | exact le_of h0 rfl ⟨rfl,rfl,rfl,rfl,trivial⟩ ⟨rfl,rfl,⟨_,rfl⟩,⟨_,congrArg (Blk.row colT 7 _) (by rw [List.map_append];rfl)⟩,congrArg (fun z=>Blk.box [.row 6 0 2, .row 7 0 z]) (by rw [List.length_append];rfl),trivial⟩ rfl rfl rfl
   | (obtain ⟨k',rfl⟩:∃ k',k = k' + 1:=⟨k - 1,by omega⟩
      exact ⟨(k',cs ++ [(meaS l a3 (meaN cs.length)).1],(meaS l a3 (meaN cs.length)).2),⟨by dsimp only;omega,by dsimp only;rw [List.length_append,List.length_singleton];omega,hI⟩,by dsimp only;omega,le_of h0 rfl ⟨rfl,rfl,rfl,congrArg (fun z=>some (AV.i z)) (by dsimp only;omega),trivial⟩ ⟨rfl,rfl,⟨_,rfl⟩,⟨_,rfl⟩,rfl,trivial⟩ rfl rfl rfl⟩)
   | (obtain rfl:k = 0:=by omega
      rw [hI]
      exact retg_vs (rvs:=[.cell 2 30]) (vs:=[_]) ⟨1,_,_,rfl,rfl,inferInstance,rfl,rfl,trivial⟩ rfl rfl (le_trans (le_swp 1 6 h0 rfl rfl) (le_trans (le_swp 2 7 h0 rfl rfl) (le_of h0 rfl ⟨rfl,trivial⟩ ⟨rfl,⟨_,rfl⟩,⟨_,rfl⟩,trivial⟩ rfl rfl rfl))) rfl)
 ·have hb1:¬ (b1:Int) = 1:=by omega
  rw [decide_eq_false hb1]
  refine loop_i (ι:=Nat × List Col × Nat) (fun x=>⟨[(0, .ref 0 0),(2, .ref 1 0),(3, .ref 8 0),(4, .i x.1)],9,[(0,some (.box [.sl 1 (l.map u8A), .i x.2.2])),(1,some (.box [.v (.slice none 0 0), .v (.slice none 0 0)])),(6,some (.row clT 2 0 [clL (oneL,c1),clL (twoN,c2)])),(7,some (.row colT 7 0 (x.2.1.map colL))),(8,some (.box [.row 6 0 2, .row 7 0 x.2.1.length]))]⟩)
   (fun x=>x.1 ≤ 3 ∧ x.2.1.length + x.1 ≤ 6 ∧ meaAdd l (baseC false,m2) (1 + m1) = meaAdd l x.2 x.1) (fun x=>x.1) (1 + m1,baseC false,m2) ⟨by dsimp only;omega,by simp only [baseC,_root_.cond_true,_root_.cond_false,List.length_cons,List.length_nil];omega,rfl⟩
   (le_trans (le_nl 7 ((baseC false).map colL) rfl ⟨⟨.refl _, .refl _, .refl _, .refl _, .refl _, .nil 1, .refl _,trivial⟩,⟨.refl _, .refl _, .refl _, .refl _, .refl _, .nil 1, .refl _,trivial⟩,trivial⟩) (le_of h0 rfl ⟨rfl,rfl,rfl,rfl,trivial⟩ ⟨rfl,rfl,⟨_,rfl⟩,⟨_,rfl⟩,rfl,trivial⟩ rfl rfl rfl)) (fun x hI=>?_)
  obtain ⟨k,cs,a3⟩:=x
  obtain ⟨hk,hlen,hI⟩:=hI
  dsimp only at hk hlen hI ⊢
  have hmea:=mea_call l a3 (meaN cs.length) hl
  have hi1:=itoa_call cs.length (by omega)
  have hil:=itoaN_length cs.length
  repeat' ((first | refine draw_m ⟨[(0, .ref 0 0),(2, .ref 1 0),(3, .ref 8 0),(4, .i k)],9,[(0,some (.box [.sl 1 (l.map u8A), .i (meaS l a3 (meaN cs.length)).2])),(1,some (.box [.v (.slice none 0 0), .v (.slice none 0 0)])),(6,some (.row clT 2 0 [clL (oneL,c1),clL (twoN,c2)])),(7,some (.row colT 7 0 ((cs ++ [(meaS l a3 (meaN cs.length)).1]).map colL))),(8,some (.box [.row 6 0 2, .row 7 0 (cs ++ [(meaS l a3 (meaN cs.length)).1]).length]))]⟩ ?_ ?_ | refine call_i hi1 ?_ | (refine side_i ?_ ?_;(show 1 + (itoaN cs.length).length ≤ _;omega)) | refine ⟨ncall_h [0] [0] hmea rfl rfl rfl rfl rfl ⟨rfl,trivial⟩ rfl rfl rfl rfl rfl ?_⟩ |refine aops_go ?_|refine S1 ?_|refine Z1 ?_|refine Z2 ?_|(refine And.intro ?_ ?_<;>intro h<;>try first|(exfalso;omega)|exact absurd rfl h)|refine Z3 ?_|refine Z4 ?_|intro el hel hbB|intro el hel|intro ex|refine Z5 ?_|(refine free_i ?_ ?_;exact ⟨by kernel_rfl,by decide⟩)|refine allI_c ?_ ?_|exact allI_n|refine allMP_c ?_ ?_|exact allMP_n|(refine many_step ?_ ?_ ?_;kernel_rfl;kernel_rfl)) <;> (try (conv=>whnf)))
  all_goals first
   | exact le_of h0 rfl ⟨rfl,rfl,rfl,rfl,trivial⟩ ⟨rfl,rfl,⟨_,rfl⟩,⟨_,congrArg (Blk.row colT 7 _) (by rw [List.map_append];rfl)⟩,congrArg (fun z=>Blk.box [.row 6 0 2, .row 7 0 z]) (by rw [List.length_append];rfl),trivial⟩ rfl rfl rfl
   | (obtain ⟨k',rfl⟩:∃ k',k = k' + 1:=⟨k - 1,by omega⟩
      exact ⟨(k',cs ++ [(meaS l a3 (meaN cs.length)).1],(meaS l a3 (meaN cs.length)).2),⟨by dsimp only;omega,by dsimp only;rw [List.length_append,List.length_singleton];omega,hI⟩,by dsimp only;omega,le_of h0 rfl ⟨rfl,rfl,rfl,congrArg (fun z=>some (AV.i z)) (by dsimp only;omega),trivial⟩ ⟨rfl,rfl,⟨_,rfl⟩,⟨_,rfl⟩,rfl,trivial⟩ rfl rfl rfl⟩)
   | (obtain rfl:k = 0:=by omega
      rw [hI]
      exact retg_vs (rvs:=[.cell 2 30]) (vs:=[_]) ⟨1,_,_,rfl,rfl,inferInstance,rfl,rfl,trivial⟩ rfl rfl (le_trans (le_swp 1 6 h0 rfl rfl) (le_trans (le_swp 2 7 h0 rfl rfl) (le_of h0 rfl ⟨rfl,trivial⟩ ⟨rfl,⟨_,rfl⟩,⟨_,rfl⟩,trivial⟩ rfl rfl rfl))) rfl)
end Go.Proofs.YtjmbhlgocikfiaaGreatDoor
