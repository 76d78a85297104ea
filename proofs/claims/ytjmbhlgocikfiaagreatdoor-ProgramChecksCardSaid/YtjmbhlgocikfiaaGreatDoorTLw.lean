/- Chapter 17: the example of the chapter. -/
import Derived.Test.YtjmbhlgocikfiaaGreatDoorTF3
import Derived.Test.YtjmbhlgocikfiaaGreatDoorTF1
import Derived.Test.YtjmbhlgocikfiaaGreatDoorTC1
import Derived.Test.YtjmbhlgocikfiaaGreatDoorTB12
import Derived.Test.YtjmbhlgocikfiaaGreatDoorTB4
import Derived.Test.YtjmbhlgocikfiaaGreatDoorTB13
import Derived.Test.YtjmbhlgocikfiaaGreatDoorTB10
import Derived.Test.YtjmbhlgocikfiaaGreatDoorTC5
import Derived.Test.YtjmbhlgocikfiaaGreatDoorTF6
import Derived.Test.YtjmbhlgocikfiaaGreatDoorTF2
import Derived.Test.YtjmbhlgocikfiaaGreatDoorTCe3
import Derived.Test.YtjmbhlgocikfiaaGreatDoorTSx
import Derived.Test.YtjmbhlgocikfiaaGreatDoorTCe1
import Derived.Test.YtjmbhlgocikfiaaGreatDoorTB11
import Derived.Test.YtjmbhlgocikfiaaGreatDoorTDx5
import Derived.Test.YtjmbhlgocikfiaaGreatDoorTCB
import Derived.Test.YtjmbhlgocikfiaaGreatDoorTLr1
import Derived.Test.YtjmbhlgocikfiaaGreatDoorTPm4
import Derived.Test.YtjmbhlgocikfiaaGreatDoorTE3
import Derived.Lib.LaidTab
import Derived.Stop.LaidErr
import Derived.MakeChecks
import Derived.Shelf.Vars
set_option linter.unusedVariables false
set_option linter.unnecessarySimpa false
set_option linter.unusedSimpArgs false
namespace Go.Proofs.YtjmbhlgocikfiaaGreatDoor
open Go Go.Av
attribute [local irreducible] AWp AOps AAny MAny DQ retQ retG St.le FCall GCall
set_option maxRecDepth 100000
def z7:Cnd:=.mk 0 0 0 0 0 []
def x7:Xpr:=.mk 6 0 [] 0 [] [] z7 z7 [.mk 2 0 [116] 0 [] [] z7 z7 [], .mk 1 0 [] 0 [] [] z7 z7 []]
end Go.Proofs.YtjmbhlgocikfiaaGreatDoor
namespace Go.Proofs.YtjmbhlgocikfiaaGreatDoor
open Go Go.Av
attribute [local irreducible] AWp AOps AAny MAny DQ retQ retG St.le FCall GCall
set_option maxRecDepth 100000
def PAt (f g:Int → Int) (l:List Int) (i k:Nat):Prop:=(∀ i':Nat,i' < i → ∀ k':Nat,k' < i' → pairOk f g (l.getD i' 0) (l.getD k' 0) = true) ∧ ∀ k':Nat,k' < k → pairOk f g (l.getD i 0) (l.getD k' 0) = true
theorem PAt.zero (f g:Int → Int) (l:List Int):PAt f g l 0 0:=⟨fun i' h=>absurd h (Nat.not_lt_zero _),fun k' h=>absurd h (Nat.not_lt_zero _)⟩
theorem PAt.done {f g:Int → Int} {l:List Int} {i:Nat} (h:PAt f g l i 0) (hi:¬ (i:Int) < l.length):divB f g l = true:=by
 unfold divB
 simp only [List.all_eq_true,List.mem_range]
 intro i' h1 k' h2
 exact h.1 i' (by omega) k' h2
theorem Drawn.coa {s:Sch} (h:Drawn s) {i:Nat} {c:Col} {n:Nat} (hi:0 < i) (hc:s.cols[i]? = some c) (hn:finC s c = n) {lv:Nat} (hlv:lv ≤ n) (v:Int):coaS s i lv v = coaC s c lv v:=by
 have hlt:=lt_of_get hc
 have hca:colAt s i = c:=colAt_get (by simpa using hc)
 have hfs:finS s i = n:=by unfold finS;rw [if_neg (by omega),hca];exact hn
 have hfe:finestS s i = n:=by unfold finestS;rw [if_pos h.ok];exact hfs
 unfold coaS
 rw [hfe,if_neg (by omega),hca]
theorem Drawn.divB {s:Sch} (h:Drawn s) {i:Nat} {c:Col} {n:Nat} (hi:0 < i) (hc:s.cols[i]? = some c) (hb:ColB s c n) {o L:Nat} (ho:o ≤ L) (hL:L ≤ n):divB (coaS s i L) (coaS s i o) (allC s c) = decide (blkC s c o = blkC s c L):=by
 have e1:coaS s i L = coaC s c L:=funext fun v=>h.coa hi hc hb.fin hL v
 have e2:coaS s i o = coaC s c o:=funext fun v=>h.coa hi hc hb.fin (by omega) v
 rw [e1,e2]
 have:=hb.divs o L ho hL
 rw [← divB_iff] at this
 by_cases hd:blkC s c o = blkC s c L
 ·rw [decide_eq_true hd];exact this.2 hd
 ·rw [decide_eq_false hd]
  cases hx:Go.Proofs.YtjmbhlgocikfiaaGreatDoor.divB (coaC s c L) (coaC s c o) (allC s c) with
  | false=>rfl
  | true=>exact absurd (this.1 hx) hd
end Go.Proofs.YtjmbhlgocikfiaaGreatDoor
namespace Go.Proofs.YtjmbhlgocikfiaaGreatDoor
open Go Go.Av
attribute [local irreducible] AWp AOps AAny MAny DQ retQ retG St.le FCall GCall
set_option maxRecDepth 100000
theorem sh_cndc {f:Nat} {l:List AV} (h:Sh Tryz.prog f 50 l):∃ c:Cnd,l = cndX c:=sh_cnd (f + 1) f (by omega) h
theorem sh_xpr:∀ (n f:Nat),f < n → ∀ {l:List AV},Sh Tryz.prog f 53 l → ∃ c:Xpr,l = xprX c:=by
 intro n
 induction n with
 | zero=>intro f hf;omega
 | succ n ih =>
  intro f hf l h
  obtain ⟨f',hs,e0⟩:=sh_struct (ts:=[3,3,9,3,46,47,50,50,51]) Tryz.underlying53 (by kernel_rfl) h
  obtain ⟨x1,r1,h1,⟨x2,r2,h2,⟨x3,r3,h3,⟨x4,r4,h4,⟨x5,r5,h5,⟨x6,r6,h6,⟨x7,r7,h7,⟨x8,r8,h8,⟨x9,r9,h9,h10,rfl⟩,rfl⟩,rfl⟩,rfl⟩,rfl⟩,rfl⟩,rfl⟩,rfl⟩,rfl⟩:=hs
  obtain ⟨y1,_,rfl⟩:=sh_i h1
  obtain ⟨y2,_,rfl⟩:=sh_i h2
  obtain ⟨y3,_,rfl⟩:=sh_s h3
  obtain ⟨y4,_,rfl⟩:=sh_i h4
  obtain ⟨y5,_,rfl⟩:=sh_ints h5
  obtain ⟨f6,l6,_,hall6,rfl,_⟩:=sh_slice (c:=2) Tryz.underlying47 (by kernel_rfl) h6
  obtain ⟨y6,rfl,_⟩:=all_form (F:=pkL) (R:=fun _=>True) (fun x hx=>sh_pick (hall6 x hx))
  obtain ⟨y7,rfl⟩:=sh_cndc h7
  obtain ⟨y8,rfl⟩:=sh_cndc h8
  obtain ⟨f2,ls,_,hall,rfl,e⟩:=sh_slice (c:=19) Tryz.underlying51 (by kernel_rfl) h9
  obtain ⟨ks,rfl,_⟩:=all_form (F:=xprL) (R:=fun _=>True) (fun x hx=>by
   obtain ⟨c,hc⟩:=ih f2 (by omega) (hall x hx)
   exact ⟨c,trivial,by rw [hc,xprX_eq]⟩)
  cases h10
  exact ⟨.mk y1 y2 y3 y4 y5 y6 y7 y8 ks,rfl⟩
theorem sh_stm {f:Nat} {l:List AV} (h:Sh Tryz.prog f 55 l):∃ t:Stm,True ∧ l = stmL t:=by
 obtain ⟨f',hs,_⟩:=sh_struct (ts:=[9,4,53]) Tryz.underlying55 (by kernel_rfl) h
 obtain ⟨x1,r1,h1,⟨x2,r2,h2,⟨x3,r3,h3,h4,rfl⟩,rfl⟩,rfl⟩:=hs
 obtain ⟨y1,_,rfl⟩:=sh_s h1
 obtain ⟨y2,rfl⟩:=sh_b h2
 obtain ⟨y3,rfl⟩:=sh_xpr _ _ (Nat.lt_succ_self _) h3
 cases h4
 exact ⟨⟨y1,y2,y3⟩,trivial,by simp only [stmL,List.append_nil];rfl⟩
theorem ash_stms {a:AV} (h:AShape Tryz.prog 23 a):∃ ws:List Stm,ws.length ≤ maxLen ∧ a = .sl 21 (ws.map stmL):=by
 obtain ⟨f2,ls,hl,hall,rfl⟩:=ash_slice (c:=21) Tryz.underlying23 (by kernel_rfl) h
 obtain ⟨ws,rfl,_⟩:=all_form (F:=stmL) (R:=fun _=>True) (fun x hx=>sh_stm (hall x hx))
 exact ⟨ws,by rw [List.length_map] at hl;exact hl,rfl⟩
end Go.Proofs.YtjmbhlgocikfiaaGreatDoor
namespace Go.Proofs.YtjmbhlgocikfiaaGreatDoor
open Go Go.Av
attribute [local irreducible] AWp AOps AAny MAny DQ retQ retG St.le FCall GCall
set_option maxRecDepth 100000
theorem right_lens {s:Sch} {e:Xpr} (h:RigE s e):e.cols.length ≤ 10 ∧ e.dims.length ≤ 10 ∧ e.kids.length ≤ 10:=by
 obtain ⟨_,_,_,u4,u5,_,_,u8⟩:=h.unu
 have hp:=h.par
 unfold parB at hp
 refine ⟨?_,?_,?_⟩
 ·rcases u4 with u | u
  ·have u:e.op = 11:=u
   rw [if_neg (by omega),if_neg (by omega),if_neg (by omega),if_neg (by omega),if_pos u,Bool.and_eq_true] at hp
   have:=of_decide_eq_true hp.2
   unfold trmsE at this
   split at this
   ·omega
   ·omega
  ·omega
 ·rcases u5 with u | u
  ·have u:e.op = 10:=u
   rw [if_neg (by omega),if_neg (by omega),if_neg (by omega),if_pos u,Bool.and_eq_true] at hp
   have:=of_decide_eq_true hp.1
   unfold dimsE at this
   split at this
   ·omega
   ·omega
  ·omega
 ·rcases u8 with u | u
  ·have:=h.pair u;omega
  ·omega
set_option maxHeartbeats 4000000 in
theorem spo16_e (l:List UInt8) (s:Sch) (a a1:Nat) (hpro:GCall Tryz.prog 16 1 (drB l a) [.ref 0 0,sA s, .i 4] 2 [(0,drX l a1),(1,some (.row stmT 21 0 (([]:List Stm).map stmL)))] (.row 1 0 0)) (by':Int) (nm:List UInt8):∃ (L2:List Stm) (b:Nat),GCall Tryz.prog 12 1 (drB l a) [.ref 0 0,sA s, .i by', .str nm] 1 (drB l b) (.sl 21 (L2.map stmL)):=by
 refine ⟨[],a1,?_⟩
 refine gci Tryz.func12 162 fun E h0=>?_
 repeat' ((first|refine aops_go ?_|refine S1 ?_|refine Z1 ?_|refine Z2 ?_|(refine And.intro ?_ ?_<;>intro h<;>try first|(exfalso;omega)|exact absurd rfl h)|refine Z3 ?_|refine Z4 ?_|intro el hel hbB|intro el hel|intro ex|refine Z5 ?_|(refine free_i ?_ ?_;exact ⟨by kernel_rfl,by decide⟩)|refine allI_c ?_ ?_|exact allI_n|refine allMP_c ?_ ?_|exact allMP_n|(refine many_step ?_ ?_ ?_;kernel_rfl;kernel_rfl) | refine nc [0] [0] hpro rfl rfl rfl ⟨rfl,trivial⟩ ?_) <;> (try (conv=>whnf)))
 all_goals first
  | exact retg_tmp (le_of h0 rfl ⟨rfl,trivial⟩ ⟨rfl,trivial⟩ rfl rfl rfl)
  | (exfalso;omega)
theorem spo_call (l:List UInt8) (s:Sch) (hd:Drawn s) (hl:l.length ≤ 400) (a:Nat) (by':Int) (nm:List UInt8):∃ (L2:List Stm) (b:Nat),GCall Tryz.prog 12 1 (drB l a) [.ref 0 0,sA s, .i by', .str nm] 1 (drB l b) (.sl 21 (L2.map stmL)):=by
 have hpro:=program_drawR l s hd hl a 4 (by omega)
 obtain ⟨hok,hpl⟩:=proD_ok hd l a 4 (by omega)
 generalize proD l a s 4 = X at *
 obtain ⟨L,nms,a1⟩:=X
 dsimp only at hpro hok hpl
 have hLl:=hok.len
 by_cases hz:L.length = 0
 ·obtain rfl:L = []:=List.eq_nil_of_length_eq_zero hz
  exact spo16_e l s a a1 hpro by' nm
 have hk:=next_call l a1 (L.length:Int) hl
 have hkl:=nxt_lt l a1 (n:=(L.length:Int)) (by omega)
 generalize nxt l a1 (L.length:Int) = K at *
 obtain ⟨k,a2⟩:=K
 dsimp only at hk hkl
 have hkl:k < L.length:=by omega
 have hw:=next_call l a2 16 hl
 have hwl:=nxt_lt l a2 (n:=16) (by omega)
 generalize nxt l a2 16 = K at *
 obtain ⟨w,a3⟩:=K
 dsimp only at hw hwl
 have hx:L[k]? = some L[k]:=List.getElem?_eq_getElem hkl
 obtain ⟨_,ns,hxo,_⟩:=hok.st k _ hx
 have hcl:=right_lens (rig_parts hxo.rig)
 generalize L[k] = x at *
 by_cases h1:w = 1
 ·exact spo16_1 l s hd hl a a1 a2 a3 L hLl hpro k hkl hk x hx hcl w hw by' nm h1
 by_cases h2:w = 2
 ·exact spo16_2 l s hd hl a a1 a2 a3 L hLl hpro k hkl hk x hx hcl w hw by' nm h2
 by_cases h3:w = 3
 ·exact spo16_3 l s hd hl a a1 a2 a3 L hLl hpro k hkl hk x hx hcl w hw by' nm h3
 by_cases h4:w = 4
 ·exact spo16_4 l s hd hl a a1 a2 a3 L hLl hpro k hkl hk x hx hcl w hw by' nm h4
 by_cases h5:w = 5
 ·exact spo16_5 l s hd hl a a1 a2 a3 L hLl hpro k hkl hk x hx hcl w hw by' nm h5
 by_cases h6:w = 6
 ·exact spo16_6 l s hd hl a a1 a2 a3 L hLl hpro k hkl hk x hx hcl w hw by' nm h6
 by_cases h7:w = 7
 ·exact spo16_7 l s hd hl a a1 a2 a3 L hLl hpro k hkl hk x hx hcl w hw by' nm h7
 by_cases h8:w = 8
 ·exact spo16_8 l s hd hl a a1 a2 a3 L hLl hpro k hkl hk x hx hcl w hw by' nm h8
 by_cases h9:w = 9
 ·exact spo16_9 l s hd hl a a1 a2 a3 L hLl hpro k hkl hk x hx hcl w hw by' nm h9
 by_cases h10:w = 10
 ·exact spo16_10 l s hd hl a a1 a2 a3 L hLl hpro k hkl hk x hx hcl w hw by' nm h10
 by_cases h11:w = 11
 ·exact spo16_11 l s hd hl a a1 a2 a3 L hLl hpro k hkl hk x hx hcl w hw by' nm h11 L[0] (List.getElem?_eq_getElem (by omega))
 by_cases h12:w = 12
 ·have hn:=next_call l a3 14 hl
  have hnl:=nxt_lt l a3 (n:=14) (by omega)
  exact spo16_12 l s hd hl a a1 a2 a3 L hLl hpro k hkl hk x hx hcl w hw by' nm h12 _ _ (by omega) hn
 by_cases h13:w = 13
 ·exact spo16_13 l s hd hl a a1 a2 a3 L hLl hpro k hkl hk x hx hcl w hw by' nm h13
 exact spo16_no l s hd hl a a1 a2 a3 L hLl hpro k hkl hk x hx hcl w hw by' nm (by omega)
abbrev bV0:List UInt8:=[118,48]
set_option maxHeartbeats 8000000 in
theorem checks_call (l:List UInt8) (hl:l.length ≤ maxLen) (ws:List Stm) (hws:ws.length ≤ maxLen) (by':Int) (nm:List UInt8):FCall Tryz.prog 3 [.sl 1 (l.map u8A), .sl 21 (ws.map stmL), .i by', .str nm] (.b true):=by
 unfold maxLen at hl hws
 have ha:=awake8_call
 have hL:(l.take 400).length ≤ 400:=List.length_take_le _ _
 have hnew:=new_call l (by omega)
 have hsch:=schc_draw (l.take 400) 0 hL
 have hd:=schS_drawn (l.take 400) 0
 generalize schS (l.take 400) 0 = s0 at *
 obtain ⟨s,a0⟩:=s0
 dsimp only at hsch hd
 generalize l.take 400 = t at *
 obtain ⟨L1,b1,h1⟩:=spo_call t s hd hL a0 by' nm
 have hmod:=mod_call by' 18 (by omega)
 have hml:=mod_lt (k:=by') (n:=18) (by omega)
 generalize mod' by' 18 = m at *
 obtain ⟨L2,b2,h2⟩:=spo_call t s hd hL b1 (m - 2) bV0
 obtain ⟨V,hV,hVl⟩:∃ V:List (List Stm),V = [L1,L2,ws] ∧ V.length = 3:=⟨_,rfl,rfl⟩
 refine fci Tryz.func3 65 fun hrd E h0=>?_
 clear hrd
 repeat' ((first | (refine draw_id 5 ?_;refine draw_le (id:=5) (σ':=⟨[(1, .sl 21 (ws.map stmL)),(2, .i by'),(3, .str nm),(9, .ref 0 0),(10, .iptr (sL s))],1,[(0,drX t a0)]⟩) (le_of h0 rfl ⟨rfl,rfl,rfl,rfl,rfl,trivial⟩ ⟨rfl,trivial⟩ rfl rfl rfl) ?_;refine draw_m (id:=5) ⟨[(10, .iptr (sL s)),(37, .sl 1 (V.map fun z=>[AV.sl 21 (z.map stmL)])),(38, .i 3),(39, .i 0)],0,[]⟩ ?_ ?_) | refine call_i ha ?_ | refine call_i hmod ?_ | refine ncall_g [] [] hnew rfl rfl rfl rfl rfl trivial rfl rfl rfl rfl rfl ?_ |refine aops_go ?_|refine S1 ?_|refine Z1 ?_|refine Z2 ?_|(refine And.intro ?_ ?_<;>intro h<;>try first|(exfalso;omega)|exact absurd rfl h)|refine Z3 ?_|refine Z4 ?_|intro el hel hbB|intro el hel|intro ex|refine Z5 ?_|(refine free_i ?_ ?_;exact ⟨by kernel_rfl,by decide⟩)|refine allI_c ?_ ?_|exact allI_n|refine allMP_c ?_ ?_|exact allMP_n|(refine many_step ?_ ?_ ?_;kernel_rfl;kernel_rfl) | refine nc [0] [0] hsch rfl rfl rfl ⟨rfl,trivial⟩ ?_ | refine nc [0] [0] h1 rfl rfl rfl ⟨rfl,trivial⟩ ?_ | refine nc [0] [0] h2 rfl rfl rfl ⟨rfl,trivial⟩ ?_) <;> (try (conv=>whnf)))
 all_goals first
  | exact ret_tmp rfl rfl
  | exact le_of h0 rfl ⟨rfl,congrArg (fun z:List (List Stm)=>some (AV.sl 1 (z.map fun y:List Stm=>[AV.sl 21 (y.map stmL)]))) hV.symm,rfl,rfl,trivial⟩ trivial rfl rfl rfl
  | (exfalso;omega)
  | skip
 refine loop_i (ι:=Nat) (fun k=>⟨[(10, .iptr (sL s)),(37, .sl 1 (V.map fun z=>[AV.sl 21 (z.map stmL)])),(38, .i 3),(39, .i k)],0,[]⟩) (fun k=>k ≤ 3) (fun k=>3 - k) 0 (by omega) (le_of h0 rfl ⟨rfl,rfl,rfl,rfl,trivial⟩ trivial rfl rfl rfl) (fun k hI=>?_)
 repeat' ((first | refine call_i ha ?_ | refine call_i (pCheck_call s _) ?_ | refine call_i (rpCheck_call s _) ?_ |refine aops_go ?_|refine S1 ?_|refine Z1 ?_|refine Z2 ?_|(refine And.intro ?_ ?_<;>intro h<;>try first|(exfalso;omega)|exact absurd rfl h)|refine Z3 ?_|refine Z4 ?_|intro el hel hbB|intro el hel|intro ex|refine Z5 ?_|(refine free_i ?_ ?_;exact ⟨by kernel_rfl,by decide⟩)|refine allI_c ?_ ?_|exact allI_n|refine allMP_c ?_ ?_|exact allMP_n|(refine many_step ?_ ?_ ?_;kernel_rfl;kernel_rfl)) <;> (try (conv=>whnf)))
 all_goals first
  | exact ret_tmp rfl rfl
  | exact ⟨k + 1,by omega,by omega,le_of h0 rfl ⟨rfl,rfl,rfl,rfl,trivial⟩ trivial rfl rfl rfl⟩
  | (exfalso;omega)
theorem checks_all (l:List AV) (h:AShapes Tryz.prog Tryz.f3.params.toList l):FCall Tryz.prog 3 l (.b true):=by
 obtain ⟨a1,r1,rfl,h1,a2,r2,rfl,h2,a3,r3,rfl,h3,a4,r4,rfl,h4,rfl⟩:=h
 obtain ⟨l,hl,rfl⟩:=ash_by h1
 obtain ⟨ws,hws,rfl⟩:=ash_stms h2
 obtain ⟨n,_,rfl⟩:=ash_i h3
 obtain ⟨nm,_,rfl⟩:=ash_s h4
 exact checks_call l hl ws hws n nm
end Go.Proofs.YtjmbhlgocikfiaaGreatDoor
namespace Go.Av
open Go Go.RowKit
theorem var_heap {P:Program} {W:World} {n:String} {cs:Array Value} {g:Nat} (hg:P.globalNamed n = some g) (h:W.var? P n = some cs):∃ t fr,W.heap[g]? = some (.cells cs t fr):=by
 unfold World.var? at h
 rw [hg] at h
 simp only [Option.bind_some] at h
 split at h
 ·rename_i c t fr he
  cases h
  exact ⟨t,fr,he⟩
 ·cases h
theorem tab_heap {P:Program} {W:World} {name:String} {k:IntKind} {zs:List Int} {rest:List (String × DataW Unit)} {g:Nat} {t e:TypeId} {n:Nat}
  (hg:P.globalNamed name = some g) (hty:(P.globals[g]?).map (·.type) = some t) (ht:P.underlying t = some (.array n e)) (he:P.underlying e = some (.int k)) (hce:P.cellsOf e = 1) (hct:P.cellsOf t = n)
  (h:laidMet P ((name,Lib.tabData k zs) :: rest) W):∃ t fr,W.heap[g]? = some (.cells (zs.map (Value.int k)).toArray t fr):=by
 have h1:=Lib.tabIs_of_head hg hty ht he hce hct h
 unfold Lib.TabIs at h1
 exact var_heap hg h1
def fld1 (P:Program) (te ts:TypeId):Bool:=match P.underlying te with
 | some (.struct ⟨[f]⟩)=>decide (f.type = ts) && decide (f.offset = 0)
 | _=>false
def ifcB (P:Program) (ti:TypeId):Bool:=match P.underlying ti with
 | some (.interface _)=>true
 | _=>false
theorem err_heap {P:Program} {n nm:String} {text:List UInt8} {r:List (String × DataW Unit)} {W:World} {g:Nat} {ti tp te ts:TypeId}
  (h:laidMet P ((n, .iface nm (.ptr (.agg [.lit (.string text)]))) :: r) W)
  (hg:P.globalNamed n = some g) (ht:(P.globals[g]?).map (·.type) = some ti) (hi:ifcB P ti = true) (hrow:∀ u,P.typeName? 3 u = some nm → u = tp)
  (hp:P.underlying tp = some (.pointer te)) (he:fld1 P te ts = true) (hs:P.underlying ts = some .string) (hc:P.cellsOf te = 1) (hcs:P.cellsOf ts = 1) :
  ∃ te pe t fr,W.heap[g]? = some (.cells #[.iface te pe] t fr):=by
 unfold fld1 at he
 unfold ifcB at hi
 split at he
 ·rename_i f hf
  simp only [Bool.and_eq_true,decide_eq_true_eq] at he
  split at hi
  ·rename_i ms hms
   obtain ⟨a,s,h1,_⟩:=laid_sentinel h hg ht hms hrow hp hf he.1 he.2 hs hc hcs
   obtain ⟨t,fr,h2⟩:=var_heap hg h1
   exact ⟨_,_,t,fr,h2⟩
  ·cases hi
 ·cases he
def AllTabs (W:World):List (Nat × IntKind × List Int) → Prop
 | []=>True
 | (g,k,l) :: r=>(∃ t fr,W.heap[g]? = some (.cells (l.map (Value.int k)).toArray t fr)) ∧ AllTabs W r
def AllErrs (W:World):List Nat → Prop
 | []=>True
 | g :: r=>(∃ te pe t fr,W.heap[g]? = some (.cells #[.iface te pe] t fr)) ∧ AllErrs W r
theorem allTabs_get {W:World}:∀ {T:List (Nat × IntKind × List Int)} {g:Nat} {k:IntKind} {l:List Int},AllTabs W T → look T g = some (k,l) → ∃ t fr,W.heap[g]? = some (.cells (l.map (Value.int k)).toArray t fr)
 | [],g,k,l,_,h=>by cases h
 | (g',k',l') :: r,g,k,l,h,hg=>by
  rw [look_cons] at hg
  by_cases e:g' = g
  ·rw [if_pos e] at hg;cases hg;subst e;exact h.1
  ·rw [if_neg e] at hg;exact allTabs_get h.2 hg
theorem allErrs_get {W:World}:∀ {T:List Nat} {g:Nat},AllErrs W T → g ∈ T → ∃ te pe t fr,W.heap[g]? = some (.cells #[.iface te pe] t fr)
 | [],g,_,h=>by cases h
 | g' :: r,g,h,hg=>by
  rcases List.mem_cons.1 hg with rfl | hg
  ·exact h.1
  ·exact allErrs_get h.2 hg
def AllNums (W:World):List Nat → Prop
 | []=>True
 | g :: r=>(∃ m t fr,W.heap[g]? = some (.cells #[.int .i64 m] t fr)) ∧ AllNums W r
theorem allNums_get {W:World}:∀ {T:List Nat} {g:Nat},AllNums W T → g ∈ T → ∃ m t fr,W.heap[g]? = some (.cells #[.int .i64 m] t fr)
 | [],g,_,h=>by cases h
 | g' :: r,g,h,hg=>by
  rcases List.mem_cons.1 hg with rfl | hg
  ·exact h.1
  ·exact allNums_get h.2 hg
theorem num_heap {P:Program} {W:World} {g t:Nat} (hs:W.ShapedOpen P) (hg:Nat.blt g P.globals.size = true) (h0:((begin P (fun _ _=>0) default).world.heap[g]?).bind Obj.row? = some (#[.int .i64 0],t))
  (hb:P.buildable t = true) (hc:P.cellTypes P.depth t = some [t]) (hu:P.underlying t = some (.int .i64)):∃ m t fr,W.heap[g]? = some (.cells #[.int .i64 m] t fr):=by
 have hlt:g < P.globals.size:=Nat.blt_eq ▸ hg
 obtain ⟨cs,hh,hsz,_⟩:=hs.1 g #[.int .i64 0] t hlt h0
 obtain ⟨m,hm⟩:=Go.Proofs.cell_of_shapedOpen_int hs hlt h0 rfl hb hc hu
 have h1:cs.size = 1:=hsz
 have h2:cs[0]? = some (.int .i64 m):=by
  unfold World.cell? at hm
  simpa [hh] using hm
 refine ⟨m,t,(0,0),hh.trans ?_⟩
 have:cs = #[.int .i64 m]:=by
  apply Array.ext
  ·rw [h1];rfl
  ·intro i hi _
   have:i = 0:=by omega
   subst this
   have h3:=Array.getElem?_eq_some_iff.1 h2
   obtain ⟨_,h3⟩:=h3
   rw [h3];rfl
 rw [this]
theorem tabOk_of {W:World} (h1:AllTabs W tabs) (h2:AllErrs W errs) (h3:AllNums W nums):TabOk noU W :=
 ⟨fun g k l h=>⟨fun hu=>hu.elim,allTabs_get h1 h⟩,fun g h=>⟨fun hu=>hu.elim,allErrs_get h2 h⟩,fun g h=>⟨fun hu=>hu.elim,allNums_get h3 h⟩⟩
end Go.Av
