/- Chapter 16: the text of a program: Print. -/
import Derived.Test.YtjmbhlgocikfiaaGreatDoorTSb
import Derived.Test.YtjmbhlgocikfiaaGreatDoorTXt3
import Derived.Test.YtjmbhlgocikfiaaGreatDoorTF1
import Derived.Test.YtjmbhlgocikfiaaGreatDoorTPg7
import Derived.Test.YtjmbhlgocikfiaaGreatDoorTB12
import Derived.Test.YtjmbhlgocikfiaaGreatDoorTB10
set_option linter.unusedVariables false
set_option linter.unnecessarySimpa false
set_option linter.unusedSimpArgs false
namespace Go.Proofs.YtjmbhlgocikfiaaGreatDoor
open Go Go.Av
attribute [local irreducible] AWp AOps AAny MAny DQ retQ retG St.le FCall GCall
set_option maxRecDepth 100000
theorem stmE_parts {s:Sch} {b:List Stm} {x:Stm} (h:stmE s b x = 0):nameB x.name = true ∧ rigX s x.x = true ∧ totS (treeX x.x) ≤ 60:=by
 unfold stmE at h
 split at h
 ·cases h
 rename_i hn
 split at h
 ·cases h
 split at h
 ·cases h
 split at h
 ·cases h
 split at h
 ·cases h
 rename_i hx1
 exact ⟨by simpa using hn,by simpa using hx1,by omega⟩
theorem proE_more {s:Sch} {L:List Stm}:∀ {l:List Stm} {k:Nat},(proE s L k l).2 = 0 → ∀ x ∈ l,nameB x.name = true ∧ rigX s x.x = true ∧ totS (treeX x.x) ≤ 60
 | [],_,_,x,hx=>by cases hx
 | y :: r,k,h,x,hx=>by
  unfold proE at h
  split at h
  ·rename_i h0
   rcases List.mem_cons.1 hx with rfl | hx
   ·exact stmE_parts h0
   ·exact proE_more h x hx
  ·exact absurd h (by assumption)
theorem pro_more {s:Sch} {l:List Stm} (h:(proS s l).2 = 0):l.length ≤ 30 ∧ ∀ x ∈ l,rigS s x.x = true ∧ totS (treeX x.x) ≤ 60 ∧ x.name.length ≤ 16:=by
 unfold proS at h
 split at h
 ·split at h
  ·cases h
  ·refine ⟨by omega,fun x hx=>?_⟩
   obtain ⟨h1,h2,h3⟩:=proE_more h x hx
   exact ⟨(rigX_parts h2).2,h3,nameB_len h1⟩
 ·rename_i hs
  exact absurd h hs
def lineX (s:Sch) (x:Stm):List UInt8:=(if x.out = true then bOut else bLet) ++ x.name ++ [32,61,32] ++ txtX s x.x ++ [10]
theorem txtP_snoc (s:Sch) (l:List Stm) (k:Nat) {x:Stm} (h:l[k]? = some x):txtP s (l.take (k + 1)) = txtP s (l.take k) ++ lineX s x:=by
 unfold txtP lineX
 rw [List.take_add_one,h,List.flatMap_append]
 simp [txtT]
theorem lineX_len {s:Sch} (hr:schE s = 0) {x:Stm} (h1:rigS s x.x = true) (h2:totS (treeX x.x) ≤ 60) (h3:x.name.length ≤ 16):(lineX s x).length ≤ 1300000:=by
 have:=txtX_len hr x.x h1
 unfold lineX
 simp only [List.length_append,List.length_cons,List.length_nil]
 split <;> simp only [List.length_cons,List.length_nil] <;> omega
theorem txtP_cap {s:Sch} (hr:schE s = 0):∀ l:List Stm,(∀ x ∈ l,(lineX s x).length ≤ 1300000) → (txtP s l).length ≤ 1300000 * l.length
 | [],_=>Nat.le_refl _
 | x :: r,h=>by
  have ih:=txtP_cap hr r (fun y hy=>h y (List.mem_cons_of_mem _ hy))
  have hx:=h x (by simp)
  have e:txtP s (x :: r) = lineX s x ++ txtP s r:=by unfold txtP lineX;rw [List.flatMap_cons];rfl
  rw [e,List.length_append,List.length_cons]
  omega
def prnSt (s:Sch) (l:List Stm):Nat → St
 | 0=>⟨[(2, .iptr (sL s)),(8, .ref 1 0),(21, .sl 21 (l.map stmL)),(22, .i l.length),(23, .i 0)],2,[(1,some bld0)]⟩
 | k + 1=>⟨[(2, .iptr (sL s)),(8, .ref 1 0),(21, .sl 21 (l.map stmL)),(22, .i l.length),(23, .i ((k + 1:Nat):Int))],3,[(1,some (.bx bB [.ref 1 0, .row 2 0 (txtP s (l.take (k + 1))).length])),(2,some (.row eB 1 0 (byt (txtP s (l.take (k + 1))))))]⟩
set_option maxHeartbeats 16000000 in
theorem pPrint_call (s:Sch) (l:List Stm):FCall Tryz.prog 17 [sA s, .sl 21 (l.map stmL)] (.tup [.str (priP s l).1, .i (priP s l).2]):=by
 have h1:=pCheck_call s l
 unfold priP
 by_cases h:(proS s l).2 = 0
 case neg =>
  rw [if_neg h]
  generalize proS s l = Z at *
  obtain ⟨z1,z2⟩:=Z
  dsimp only at *
  refine fci Tryz.func17 45 fun hrd E h0=>?_
  clear hrd
  repeat' ((first | refine call_i h1 ?_ |refine aops_go ?_|refine S1 ?_|refine Z1 ?_|refine Z2 ?_|(refine And.intro ?_ ?_<;>intro h<;>try first|(exfalso;omega)|exact absurd rfl h)|refine Z3 ?_|refine Z4 ?_|intro el hel hbB|intro el hel|intro ex|refine Z5 ?_|(refine free_i ?_ ?_;exact ⟨by kernel_rfl,by decide⟩)|refine allI_c ?_ ?_|exact allI_n|refine allMP_c ?_ ?_|exact allMP_n|(refine many_step ?_ ?_ ?_;kernel_rfl;kernel_rfl)) <;> (try (conv=>whnf)))
  all_goals first
   | exact ret_tmp2 rfl rfl rfl
   | (exfalso;omega)
 rw [if_pos h]
 obtain ⟨hr,_⟩:=pro_stms h
 obtain ⟨hl,hx⟩:=pro_more h
 have hlen:∀ k,(txtP s (l.take k)).length ≤ 39000000:=fun k=>by
  have:=txtP_cap hr (l.take k) (fun x hxm=>by
   obtain ⟨q1,q2,q3⟩:=hx x (List.mem_of_mem_take hxm)
   exact lineX_len hr q1 q2 q3)
  have h5:(l.take k).length ≤ 30:=by rw [List.length_take];omega
  omega
 generalize hZ:(if 20000 < (txtP s l).length then (([]:List UInt8),(1:Int)) else (txtP s l,0)) = Z
 rw [h] at h1
 generalize (proS s l).1 = z1 at h1
 refine fci Tryz.func17 45 fun hrd E h0=>?_
 clear hrd
 repeat' ((first | refine call_i h1 ?_ | refine aops_allocT (T:=83) rfl ?_ |refine aops_go ?_|refine S1 ?_|refine Z1 ?_|refine Z2 ?_|(refine And.intro ?_ ?_<;>intro h<;>try first|(exfalso;omega)|exact absurd rfl h)|refine Z3 ?_|refine Z4 ?_|intro el hel hbB|intro el hel|intro ex|refine Z5 ?_|(refine free_i ?_ ?_;exact ⟨by kernel_rfl,by decide⟩)|refine allI_c ?_ ?_|exact allI_n|refine allMP_c ?_ ?_|exact allMP_n|(refine many_step ?_ ?_ ?_;kernel_rfl;kernel_rfl)) <;> (try (conv=>whnf)))
 all_goals first
  | (exfalso;omega)
  | skip
 refine loop_i (ι:=Nat) (prnSt s l) (fun k=>k ≤ l.length) (fun k=>l.length - k) 0 (Nat.zero_le _) (le_of h0 rfl ⟨rfl,rfl,rfl,rfl,rfl,trivial⟩ ⟨rfl,trivial⟩ rfl rfl rfl) (fun k hk=>?_)
 clear h1 h
 by_cases hlt:k < l.length
 ·obtain ⟨x,hxg⟩:∃ x,l[k]? = some x:=⟨_,List.getElem?_eq_getElem hlt⟩
  obtain ⟨q1,q2,q3⟩:=hx x (List.mem_of_getElem? hxg)
  have ht:=ptext_call s hr x.x q1 (by omega)
  have hlt2:=txtX_len hr x.x q1
  have hsn:=txtP_snoc s l k hxg
  have hc0:=hlen k
  unfold lineX at hsn
  clear hx hlen hZ
  generalize txtX s x.x = zt at *
  have lz:zt.length ≤ 2000000:=by omega
  clear hlt2
  cases k with
  | zero =>
   have e0:txtP s (l.take 0) = []:=rfl
   rw [e0,List.nil_append] at hsn
   have w1:=ws_fresh (bLet ++ x.name ++ [32,61,32] ++ zt ++ [10]) (by simp only [List.length_append,List.length_cons,List.length_nil];omega)
   have w2:=ws_fresh (bOut ++ x.name ++ [32,61,32] ++ zt ++ [10]) (by simp only [List.length_append,List.length_cons,List.length_nil];omega)
   clear e0 hc0
   rw [prnSt]
   repeat' ((first | (refine draw_id 11 ?_;refine draw_le (id:=11) (σ':=⟨[(2, .iptr (sL s)),(8, .ref 1 0),(10, .iptr (stmL x)),(11, .str bLet),(21, .sl 21 (l.map stmL)),(22, .i l.length),(23, .i 0)],2,[(1,some bld0)]⟩) (le_of h0 rfl ⟨rfl,rfl,rfl,rfl,rfl,rfl,rfl,trivial⟩ ⟨rfl,trivial⟩ rfl rfl rfl) ?_;refine draw_m (id:=11) ⟨[(2, .iptr (sL s)),(8, .ref 1 0),(21, .sl 21 (l.map stmL)),(22, .i l.length),(23, .i 0)],3,[(1,some (.bx bB [.ref 1 0, .row 2 1 (bLet ++ x.name ++ [32,61,32] ++ zt ++ [10]).length])),(2,some (.row eB 1 1 (byt (bLet ++ x.name ++ [32,61,32] ++ zt ++ [10]))))]⟩ ?_ ?_) | (refine draw_id 11 ?_;refine draw_le (id:=11) (σ':=⟨[(2, .iptr (sL s)),(8, .ref 1 0),(10, .iptr (stmL x)),(11, .str bOut),(21, .sl 21 (l.map stmL)),(22, .i l.length),(23, .i 0)],2,[(1,some bld0)]⟩) (le_of h0 rfl ⟨rfl,rfl,rfl,rfl,rfl,rfl,rfl,trivial⟩ ⟨rfl,trivial⟩ rfl rfl rfl) ?_;refine draw_m (id:=11) ⟨[(2, .iptr (sL s)),(8, .ref 1 0),(21, .sl 21 (l.map stmL)),(22, .i l.length),(23, .i 0)],3,[(1,some (.bx bB [.ref 1 0, .row 2 1 (bOut ++ x.name ++ [32,61,32] ++ zt ++ [10]).length])),(2,some (.row eB 1 1 (byt (bOut ++ x.name ++ [32,61,32] ++ zt ++ [10]))))]⟩ ?_ ?_) | (refine each_knownm (x:=x) hxg (by omega) ?_) | refine call_i ht ?_ | (refine side_i ?_ ?_;(simp only [List.length_append,List.length_cons,List.length_nil];omega)) |refine aops_go ?_|refine S1 ?_|refine Z1 ?_|refine Z2 ?_|(refine And.intro ?_ ?_<;>intro h<;>try first|(exfalso;omega)|exact absurd rfl h)|refine Z3 ?_|refine Z4 ?_|intro el hel hbB|intro el hel|intro ex|refine Z5 ?_|(refine free_i ?_ ?_;exact ⟨by kernel_rfl,by decide⟩)|refine allI_c ?_ ?_|exact allI_n|refine allMP_c ?_ ?_|exact allMP_n|(refine many_step ?_ ?_ ?_;kernel_rfl;kernel_rfl) | refine nc [1] [0] w1 rfl rfl rfl ⟨rfl,trivial⟩ ?_ | refine nc [1] [0] w2 rfl rfl rfl ⟨rfl,trivial⟩ ?_) <;> (try (conv=>whnf)))
   all_goals first
    | exact le_of h0 rfl ⟨rfl,rfl,rfl,rfl,rfl,trivial⟩ ⟨rfl,⟨_,rfl⟩,trivial⟩ rfl rfl rfl
    | (rw [if_pos (by assumption)] at hsn;exact ⟨0 + 1,by omega,by omega,le_of h0 rfl ⟨rfl,rfl,rfl,rfl,congrArg (fun z:Int=>some (AV.i z)) (by omega),trivial⟩ ⟨congrArg (fun z:List UInt8=>Blk.bx bB [.ref 1 0, .row 2 0 z.length]) hsn,⟨_,congrArg (fun z:List UInt8=>Blk.row eB 1 _ (byt z)) hsn⟩,trivial⟩ rfl rfl rfl⟩)
    | (rw [if_neg (by simp [*])] at hsn;exact ⟨0 + 1,by omega,by omega,le_of h0 rfl ⟨rfl,rfl,rfl,rfl,congrArg (fun z:Int=>some (AV.i z)) (by omega),trivial⟩ ⟨congrArg (fun z:List UInt8=>Blk.bx bB [.ref 1 0, .row 2 0 z.length]) hsn,⟨_,congrArg (fun z:List UInt8=>Blk.row eB 1 _ (byt z)) hsn⟩,trivial⟩ rfl rfl rfl⟩)
    | (exfalso;omega)
  | succ k =>
   rw [prnSt]
   have w1:=ws_used (txtP s (l.take (k + 1))) (bLet ++ x.name ++ [32,61,32] ++ zt ++ [10]) (by simp only [List.length_append,List.length_cons,List.length_nil];omega)
   have w2:=ws_used (txtP s (l.take (k + 1))) (bOut ++ x.name ++ [32,61,32] ++ zt ++ [10]) (by simp only [List.length_append,List.length_cons,List.length_nil];omega)
   generalize txtP s (l.take (k + 1)) = T at *
   repeat' ((first | (refine draw_id 11 ?_;refine draw_le (id:=11) (σ':=⟨[(2, .iptr (sL s)),(8, .ref 1 0),(10, .iptr (stmL x)),(11, .str bLet),(21, .sl 21 (l.map stmL)),(22, .i l.length),(23, .i ((k + 1:Nat):Int))],3,[(1,some (.bx bB [.ref 1 0, .row 2 0 T.length])),(2,some (.row eB 1 0 (byt T)))]⟩) (le_of h0 rfl ⟨rfl,rfl,rfl,rfl,rfl,rfl,rfl,trivial⟩ ⟨rfl,⟨_,rfl⟩,trivial⟩ rfl rfl rfl) ?_;refine draw_m (id:=11) ⟨[(2, .iptr (sL s)),(8, .ref 1 0),(21, .sl 21 (l.map stmL)),(22, .i l.length),(23, .i ((k + 1:Nat):Int))],3,[(1,some (.bx bB [.ref 1 0, .row 2 1 (T ++ (bLet ++ x.name ++ [32,61,32] ++ zt ++ [10])).length])),(2,some (.row eB 1 1 (byt (T ++ (bLet ++ x.name ++ [32,61,32] ++ zt ++ [10])))))]⟩ ?_ ?_) | (refine draw_id 11 ?_;refine draw_le (id:=11) (σ':=⟨[(2, .iptr (sL s)),(8, .ref 1 0),(10, .iptr (stmL x)),(11, .str bOut),(21, .sl 21 (l.map stmL)),(22, .i l.length),(23, .i ((k + 1:Nat):Int))],3,[(1,some (.bx bB [.ref 1 0, .row 2 0 T.length])),(2,some (.row eB 1 0 (byt T)))]⟩) (le_of h0 rfl ⟨rfl,rfl,rfl,rfl,rfl,rfl,rfl,trivial⟩ ⟨rfl,⟨_,rfl⟩,trivial⟩ rfl rfl rfl) ?_;refine draw_m (id:=11) ⟨[(2, .iptr (sL s)),(8, .ref 1 0),(21, .sl 21 (l.map stmL)),(22, .i l.length),(23, .i ((k + 1:Nat):Int))],3,[(1,some (.bx bB [.ref 1 0, .row 2 1 (T ++ (bOut ++ x.name ++ [32,61,32] ++ zt ++ [10])).length])),(2,some (.row eB 1 1 (byt (T ++ (bOut ++ x.name ++ [32,61,32] ++ zt ++ [10])))))]⟩ ?_ ?_) | (refine each_knownm (x:=x) hxg (by omega) ?_) | refine call_i ht ?_ | (refine side_i ?_ ?_;(simp only [List.length_append,List.length_cons,List.length_nil];omega)) |refine aops_go ?_|refine S1 ?_|refine Z1 ?_|refine Z2 ?_|(refine And.intro ?_ ?_<;>intro h<;>try first|(exfalso;omega)|exact absurd rfl h)|refine Z3 ?_|refine Z4 ?_|intro el hel hbB|intro el hel|intro ex|refine Z5 ?_|(refine free_i ?_ ?_;exact ⟨by kernel_rfl,by decide⟩)|refine allI_c ?_ ?_|exact allI_n|refine allMP_c ?_ ?_|exact allMP_n|(refine many_step ?_ ?_ ?_;kernel_rfl;kernel_rfl) | refine nc [1,2] [0,0] w1 rfl rfl rfl ⟨rfl,rfl,trivial⟩ ?_ | refine nc [1,2] [0,0] w2 rfl rfl rfl ⟨rfl,rfl,trivial⟩ ?_) <;> (try (conv=>whnf)))
   all_goals first
    | exact le_of h0 rfl ⟨rfl,rfl,rfl,rfl,rfl,trivial⟩ ⟨rfl,⟨_,rfl⟩,trivial⟩ rfl rfl rfl
    | (rw [if_pos (by assumption)] at hsn;exact ⟨k + 1 + 1,by omega,by omega,le_of h0 rfl ⟨rfl,rfl,rfl,rfl,congrArg (fun z:Int=>some (AV.i z)) (by omega),trivial⟩ ⟨congrArg (fun z:List UInt8=>Blk.bx bB [.ref 1 0, .row 2 0 z.length]) hsn,⟨_,congrArg (fun z:List UInt8=>Blk.row eB 1 _ (byt z)) hsn⟩,trivial⟩ rfl rfl rfl⟩)
    | (rw [if_neg (by simp [*])] at hsn;exact ⟨k + 1 + 1,by omega,by omega,le_of h0 rfl ⟨rfl,rfl,rfl,rfl,congrArg (fun z:Int=>some (AV.i z)) (by omega),trivial⟩ ⟨congrArg (fun z:List UInt8=>Blk.bx bB [.ref 1 0, .row 2 0 z.length]) hsn,⟨_,congrArg (fun z:List UInt8=>Blk.row eB 1 _ (byt z)) hsn⟩,trivial⟩ rfl rfl rfl⟩)
    | (exfalso;omega)
 ·have hke:k = l.length:=by omega
  have e1:txtP s (l.take k) = txtP s l:=by rw [hke,List.take_length]
  have hc0:=hlen k
  clear hx hlen
  cases k with
  | zero =>
   have e2:txtP s l = []:=by rw [← e1];rfl
   rw [e2,if_neg (by decide)] at hZ
   subst hZ
   rw [prnSt]
   clear e1 e2
   repeat' ((first|refine aops_go ?_|refine S1 ?_|refine Z1 ?_|refine Z2 ?_|(refine And.intro ?_ ?_<;>intro h<;>try first|(exfalso;omega)|exact absurd rfl h)|refine Z3 ?_|refine Z4 ?_|intro el hel hbB|intro el hel|intro ex|refine Z5 ?_|(refine free_i ?_ ?_;exact ⟨by kernel_rfl,by decide⟩)|refine allI_c ?_ ?_|exact allI_n|refine allMP_c ?_ ?_|exact allMP_n|(refine many_step ?_ ?_ ?_;kernel_rfl;kernel_rfl) | refine nc [1] [0] bl_len0 rfl rfl rfl ⟨rfl,trivial⟩ ?_ | refine nc [1] [0] bl_str0 rfl rfl rfl ⟨rfl,trivial⟩ ?_) <;> (try (conv=>whnf)))
   all_goals first
    | exact ret_tmp2 rfl rfl rfl
    | (exfalso;omega)
  | succ k =>
   rw [prnSt]
   rw [e1]
   rw [e1] at hc0
   have hne:txtP s l ≠ []:=by
    intro e0
    have:=txtP_len s l
    rw [e0,List.length_nil] at this
    omega
   have g1:=bl_len eB (txtP s l).length (byt (txtP s l))
   have g2:=bl_str (txtP s l) hne
   clear hne e1
   generalize txtP s l = T at *
   repeat' ((first|refine aops_go ?_|refine S1 ?_|refine Z1 ?_|refine Z2 ?_|(refine And.intro ?_ ?_<;>intro h<;>try first|(exfalso;omega)|exact absurd rfl h)|refine Z3 ?_|refine Z4 ?_|intro el hel hbB|intro el hel|intro ex|refine Z5 ?_|(refine free_i ?_ ?_;exact ⟨by kernel_rfl,by decide⟩)|refine allI_c ?_ ?_|exact allI_n|refine allMP_c ?_ ?_|exact allMP_n|(refine many_step ?_ ?_ ?_;kernel_rfl;kernel_rfl) | refine nc [1,2] [0,0] g1 rfl rfl rfl ⟨rfl,rfl,trivial⟩ ?_ | refine nc [1,2] [0,1] g2 rfl rfl rfl ⟨rfl,rfl,trivial⟩ ?_) <;> (try (conv=>whnf)))
   all_goals first
    | (rw [if_pos (by omega)] at hZ;subst hZ;exact ret_tmp2 rfl rfl rfl)
    | (rw [if_neg (by omega)] at hZ;subst hZ;exact ret_tmp2 rfl rfl rfl)
    | (exfalso;omega)
end Go.Proofs.YtjmbhlgocikfiaaGreatDoor
namespace Go.Proofs.YtjmbhlgocikfiaaGreatDoor
open Go Go.Av
attribute [local irreducible] AWp AOps AAny MAny DQ retQ retG St.le FCall GCall
set_option maxRecDepth 100000
def ex16:Sch:=⟨[],[⟨[119,104,111],1,0,0,0,[],false⟩,⟨[109],3,0,0,9,[1],false⟩]⟩
abbrev ex16A:AV:=.agg [.v (.slice none 0 0), .sl 7 [[.str [119,104,111], .i 1, .i 0, .i 0, .i 0, .v (.slice none 0 0), .b false],[.str [109], .i 3, .i 0, .i 0, .i 9, .sl 1 [[.i 1]], .b false]]]
theorem ex16A_nl:NL ex16A (sA ex16):=nl_agg ⟨.nil 2,nl_sl ⟨⟨.refl _, .refl _, .refl _, .refl _, .refl _, .nil 1, .refl _,trivial⟩,⟨.refl _, .refl _, .refl _, .refl _, .refl _, .refl _, .refl _,trivial⟩,trivial⟩,trivial⟩
theorem ex16_nl {f:Nat} {l:List AV} {r:AV} (h:FCall Tryz.prog f (sA ex16 :: l) r):FCall Tryz.prog f (ex16A :: l) r:=fcall_nl h ⟨ex16A_nl,NLs.refl l⟩
abbrev ex16T:List UInt8:=[111,117,116,32,110,32,61,32,40,99,111,117,110,116,40,97,108,108,41,32,45,32,49,41,10]
abbrev ex16U:List UInt8:=[108,101,116,32,97,32,61,32,98,10]
def ex16X:Stm:=⟨[110],true, .mk 7 0 [] 0 [] [] zX zX [.mk 3 0 [] 0 [] [] (.mk 1 0 0 0 0 []) zX [], .mk 1 1 [] 0 [] [] zX zX []]⟩
theorem ex16_p1:parP ex16 ex16T = ([ex16X],0,0):=by kernel_rfl
theorem ex16_p2:parP ex16 ex16U = ([],1,24):=by kernel_rfl
theorem ex16_p3:priP ex16 [ex16X] = (ex16T,0):=by kernel_rfl
theorem ex16_p4:proS ex16 [ex16X] = (1,0):=by kernel_rfl
set_option maxHeartbeats 4000000 in
theorem awake8_call:FCall Tryz.prog 9 [] (.b true):=by
 have c1:FCall Tryz.prog 18 [ex16A, .str ex16T] (.tup [.sl 21 [stmL ex16X], .i 0, .i 0]):=ex16_nl ((pParse_call ex16 ex16T (by decide)).congr (congrArg (fun z:List Stm × Int × Int=>AV.tup [.sl 21 (z.1.map stmL), .i z.2.1, .i z.2.2]) ex16_p1))
 have c2:FCall Tryz.prog 17 [ex16A, .sl 21 [stmL ex16X]] (.tup [.str ex16T, .i 0]):=ex16_nl ((pPrint_call ex16 [ex16X]).congr (congrArg (fun z:List UInt8 × Int=>AV.tup [.str z.1, .i z.2]) ex16_p3))
 have c3:FCall Tryz.prog 14 [ex16A, .sl 21 [stmL ex16X]] (.tup [.i 1, .i 0]):=ex16_nl ((pCheck_call ex16 [ex16X]).congr (congrArg (fun z:Int × Int=>AV.tup [.i z.1, .i z.2]) ex16_p4))
 have c4:FCall Tryz.prog 18 [ex16A, .str ex16U] (.tup [.sl 21 [], .i 1, .i 24]):=ex16_nl ((pParse_call ex16 ex16U (by decide)).congr (congrArg (fun z:List Stm × Int × Int=>AV.tup [.sl 21 (z.1.map stmL), .i z.2.1, .i z.2.2]) ex16_p2))
 have hx:[stmL ex16X][(0:Int).toNat]? = some (stmL ex16X):=rfl
 refine fci Tryz.func9 82 fun hrd E h0=>?_
 clear hrd
 repeat' ((first | refine call_i c1 ?_ | refine call_i c2 ?_ | refine call_i c3 ?_ | refine call_i c4 ?_ | (refine each_known (x:=stmL ex16X) hx (by omega) ?_) |refine aops_go ?_|refine S1 ?_|refine Z1 ?_|refine Z2 ?_|(refine And.intro ?_ ?_<;>intro h<;>try first|(exfalso;omega)|exact absurd rfl h)|refine Z3 ?_|refine Z4 ?_|intro el hel hbB|intro el hel|intro ex|refine Z5 ?_|(refine free_i ?_ ?_;exact ⟨by kernel_rfl,by decide⟩)|refine allI_c ?_ ?_|exact allI_n|refine allMP_c ?_ ?_|exact allMP_n|(refine many_step ?_ ?_ ?_;kernel_rfl;kernel_rfl)) <;> (try (conv=>whnf)))
 all_goals first
  | exact ret_tmp rfl rfl
end Go.Proofs.YtjmbhlgocikfiaaGreatDoor
namespace Go.Proofs.YtjmbhlgocikfiaaGreatDoor
open Go Go.Av
attribute [local irreducible] AWp AOps AAny MAny DQ retQ retG St.le FCall GCall
set_option maxRecDepth 100000
set_option maxHeartbeats 4000000 in
theorem rpick_call (s:Sch) (p:Pk):FCall Tryz.prog 143 [sA s,pkA p] (.i (pickE s p)):=by
 have hfin:=rfinest_call s p.col
 have hin:=in_call p.lev 0 (finestS s p.col)
 refine fci Tryz.func143 30 fun hrd E h0=>?_
 obtain ⟨hl1,hl2,hl3⟩:=rd_lists (s:=s) (hrd _ (by simp))
 clear hrd
 repeat' ((first | refine call_i (rscheck_call s) ?_ | refine call_i hfin ?_ | refine call_i hin ?_ | (refine draw_q ?_ ?_;kernel_rfl) |refine aops_go ?_|refine S1 ?_|refine Z1 ?_|refine Z2 ?_|(refine And.intro ?_ ?_<;>intro h<;>try first|(exfalso;omega)|exact absurd rfl h)|refine Z3 ?_|refine Z4 ?_|intro el hel hbB|intro el hel|intro ex|refine Z5 ?_|(refine free_i ?_ ?_;exact ⟨by kernel_rfl,by decide⟩)|refine allI_c ?_ ?_|exact allI_n|refine allMP_c ?_ ?_|exact allMP_n|(refine many_step ?_ ?_ ?_;kernel_rfl;kernel_rfl)) <;> (try (conv=>whnf)))
 all_goals first
  | exact ret_tmp rfl (congrArg AV.i (by rw [pickE,if_neg (by assumption)]))
  | skip
 all_goals
  have hr:schE s = 0:=Classical.byContradiction (by assumption)
  rw [pickE,if_pos hr,pkE]
  have e:finestS s p.col = finS s p.col:=by rw [finestS,if_pos hr]
  refine ret_tmp rfl (congrArg AV.i ?_)
 all_goals first
  | (rw [if_pos (by unfold finS;rw [if_pos (by omega)];decide)];done)
  | (have hnn:0 ≤ finS s p.col:=by
      have:=finS_nn hr (column:=p.col) (by omega) (by omega)
      exact this
     first
      | (rw [if_neg (by omega),if_pos (by omega)];done)
      | (rw [if_neg (by omega),if_neg (by omega)];done))
end Go.Proofs.YtjmbhlgocikfiaaGreatDoor
namespace Go.Proofs.YtjmbhlgocikfiaaGreatDoor
open Go Go.Av
attribute [local irreducible] AWp AOps AAny MAny DQ retQ retG St.le FCall GCall
set_option maxRecDepth 100000
end Go.Proofs.YtjmbhlgocikfiaaGreatDoor
