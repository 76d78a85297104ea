/- Chapter 16: what is known of a right expression. -/
import Derived.Test.YtjmbhlgocikfiaaGreatDoorRF1
import Derived.Test.YtjmbhlgocikfiaaGreatDoorRCd1
import Derived.Test.YtjmbhlgocikfiaaGreatDoorRXt0
import Derived.Test.YtjmbhlgocikfiaaGreatDoorRXt1
set_option linter.unusedVariables false
set_option linter.unnecessarySimpa false
set_option linter.unusedSimpArgs false
namespace Go.Proofs.YtjmbhlgocikfiaaGreatDoor
open Go Go.Av
attribute [local irreducible] AWp AOps AAny MAny DQ retQ retG St.le FCall GCall
set_option maxRecDepth 100000
structure RigE (s:Sch) (e:Xpr):Prop where
 op:1 ≤ e.op ∧ e.op ≤ 14
 unu:unuX e
 par:parB s e = true
 cnd:usCnd e.op → cndE s e.cnd = 0
 evt:usEvt e.op → cndE s e.evt = 0
 pair:pairP e.op → e.kids.length = 2
 kid:∀ k ∈ e.kids,numP k.op ∧ rigS s k = true
theorem rig_parts {s:Sch} {e:Xpr} (h:rigS s e = true):RigE s e:=by
 rw [rigS_eq] at h
 simp only [Bool.and_eq_true,Bool.not_eq_true',oneX] at h
 obtain ⟨⟨⟨⟨⟨⟨h1,h2⟩,h3⟩,h4⟩,h5⟩,h6⟩,h7⟩:=h
 refine ⟨of_decide_eq_true h1,of_decide_eq_true h2,h3,fun hc=>?_,fun hc=>?_,fun hc=>?_,fun k hk=>?_⟩
 ·rw [decide_eq_false (fun hn=>hn hc),Bool.false_or] at h4;exact of_decide_eq_true h4
 ·rw [decide_eq_false (fun hn=>hn hc),Bool.false_or] at h5;exact of_decide_eq_true h5
 ·rw [decide_eq_false (fun hn=>hn hc),Bool.false_or] at h6;exact of_decide_eq_true h6
 ·have:=List.any_eq_false.1 h7 k hk
  simp only [badK,Bool.or_eq_true,not_or,Bool.not_eq_true',Bool.not_eq_false] at this
  exact ⟨of_decide_eq_true this.1,this.2⟩
theorem isB_col {s:Sch} {col kind:Int} (h:isB s col kind = true):0 ≤ col ∧ col < s.cols.length ∧ ∃ c,s.cols[col.toNat]? = some c ∧ c.kind = kind:=by
 obtain ⟨h0,h1,h2⟩:0 ≤ col ∧ col < s.cols.length ∧ (colAt s col).kind = kind:=by simpa [isB] using h
 have hc:s.cols[col.toNat]? = some (s.cols[col.toNat]'(by omega)):=List.getElem?_eq_getElem (by omega)
 exact ⟨h0,h1,_,hc,by rw [colAt_get hc] at h2;exact h2⟩
theorem RigE.col {s:Sch} {e:Xpr} (h:RigE s e) (ho:usCol e.op):(e.op = 10 ∧ e.col = -1) ∨ isB s e.col 3 = true:=by
 have hp:=h.par
 have hop:=h.op
 simp only [usCol] at ho
 unfold parB at hp
 rw [if_neg (by omega),if_neg (by omega)] at hp
 by_cases h4:e.op = 4 ∨ e.op = 5 ∨ e.op = 14
 ·rw [if_pos h4] at hp;exact .inr hp
 rw [if_neg h4] at hp
 by_cases h10:e.op = 10
 ·rw [if_pos h10] at hp
  simp only [Bool.and_eq_true,Bool.or_eq_true] at hp
  rcases hp.2 with h | h
  ·exact .inl ⟨h10,of_decide_eq_true h⟩
  ·exact .inr h
 rw [if_neg h10] at hp
 by_cases h11:e.op = 11
 ·rw [if_pos h11] at hp
  simp only [Bool.and_eq_true] at hp
  exact .inr hp.1
 rw [if_neg h11] at hp
 by_cases h12:e.op = 12
 ·rw [if_pos h12] at hp
  simp only [Bool.and_eq_true] at hp
  exact .inr hp.1
 rw [if_neg h12,if_pos (by omega)] at hp
 simp only [Bool.and_eq_true] at hp
 exact .inr hp.1
theorem RigE.lens {s:Sch} {e:Xpr} (h:RigE s e):e.dims.length ≤ 3 ∧ e.cols.length ≤ 3 ∧ e.kids.length ≤ 2:=by
 obtain ⟨_,_,_,h4,h5,_,_,h8⟩:=h.unu
 have hp:=h.par
 unfold parB at hp
 refine ⟨?_,?_,?_⟩
 ·rcases h5 with h5 | h5
  ·have h10:e.op = 10:=h5
   rw [if_neg (by omega),if_neg (by omega),if_neg (by omega),if_pos h10] at hp
   simp only [Bool.and_eq_true] at hp
   have:=of_decide_eq_true hp.1
   unfold dimsE at this
   split at this
   ·cases this
   ·omega
  ·omega
 ·rcases h4 with h4 | h4
  ·have h11:e.op = 11:=h4
   rw [if_neg (by omega),if_neg (by omega),if_neg (by omega),if_neg (by omega),if_pos h11] at hp
   simp only [Bool.and_eq_true] at hp
   have:=of_decide_eq_true hp.2
   unfold trmsE at this
   split at this
   ·cases this
   ·omega
  ·omega
 ·rcases h8 with h8 | h8
  ·have:=h.pair h8;omega
  ·omega
theorem RigE.trm {s:Sch} {e:Xpr} (h:RigE s e):∀ c ∈ e.cols,isB s c 3 = true:=by
 intro c hc
 have hpar:=h.par
 have h4:=h.unu.2.2.2.1
 unfold parB at hpar
 have h11:e.op = 11:=by
  rcases h4 with h | h
  ·exact h
  ·rw [List.eq_nil_of_length_eq_zero h] at hc;cases hc
 rw [if_neg (by omega),if_neg (by omega),if_neg (by omega),if_neg (by omega),if_pos h11] at hpar
 simp only [Bool.and_eq_true] at hpar
 have hde:=of_decide_eq_true hpar.2
 unfold trmsE at hde
 split at hde
 ·cases hde
 ·obtain ⟨i,hi,he⟩:=List.getElem_of_mem hc
  have:=firstE_zero hde i c (by rw [List.getElem?_eq_getElem hi,he])
  unfold trmE at this
  split at this
  ·cases this
  ·rename_i hb;simpa using hb
theorem RigE.dim {s:Sch} {e:Xpr} (h:RigE s e):∀ d ∈ e.dims,pickE s d = 0:=by
 intro d hd
 have hpar:=h.par
 have h5:=h.unu.2.2.2.2.1
 unfold parB at hpar
 have h10:e.op = 10:=by
  rcases h5 with h | h
  ·exact h
  ·rw [List.eq_nil_of_length_eq_zero h] at hd;cases hd
 rw [if_neg (by omega),if_neg (by omega),if_neg (by omega),if_pos h10] at hpar
 simp only [Bool.and_eq_true] at hpar
 have hde:=of_decide_eq_true hpar.1
 unfold dimsE at hde
 split at hde
 ·cases hde
 ·obtain ⟨i,hi,he⟩:=List.getElem_of_mem hd
  have:=firstE_zero hde i d (by rw [List.getElem?_eq_getElem hi,he])
  unfold dimE at this
  split at this
  ·exact absurd this (by assumption)
  ·rename_i hpe;exact Decidable.of_not_not hpe
end Go.Proofs.YtjmbhlgocikfiaaGreatDoor
namespace Go.Proofs.YtjmbhlgocikfiaaGreatDoor
open Go Go.Av
attribute [local irreducible] AWp AOps AAny MAny DQ retQ retG St.le FCall GCall
set_option maxRecDepth 100000
def isN (b:UInt8):Bool:=decide (b.toNat ≠ 32 ∧ b.toNat ≠ 40 ∧ b.toNat ≠ 41)
def digV (l:List UInt8):Nat:=l.foldl (fun n b=>10 * n + (b.toNat - 48)) 0
theorem digV_snoc (l:List UInt8) (b:UInt8):digV (l ++ [b]) = 10 * digV l + (b.toNat - 48):=by
 unfold digV;rw [List.foldl_append];rfl
theorem digV_dec (u:Nat):digV (Lib.decDigits u) = u ∧ (Lib.decDigits u).all digB = true ∧ 1 ≤ (Lib.decDigits u).length:=by
 induction u using Nat.strongRecOn with
 | ind u ih =>
  rw [Lib.decDigits]
  by_cases h1:u < 10
  ·rw [dif_pos h1]
   have e:=dig_n h1
   refine ⟨?_,?_,by simp⟩
   ·have:=digV_snoc [] (UInt8.ofNat (48 + u))
    rw [List.nil_append] at this
    rw [this,e]
    show 10 * 0 + (48 + u - 48) = u
    omega
   ·simp only [List.all_cons,List.all_nil,Bool.and_true,digB,decide_eq_true_eq]
    omega
  ·rw [dif_neg h1]
   obtain ⟨i1,i2,i3⟩:=ih (u / 10) (by omega)
   have hd:u % 10 < 10:=by omega
   have e:=dig_n hd
   refine ⟨?_,?_,by simp⟩
   ·rw [digV_snoc,i1,e];omega
   ·rw [List.all_append,i2]
    simp only [List.all_cons,List.all_nil,Bool.and_true,Bool.true_and,digB,decide_eq_true_eq]
    omega
def StopN (u:List UInt8):Prop:=∀ b r,u = b :: r → isN b = false
theorem isW_N {b:UInt8} (h:isW b = true):isN b = true:=by
 unfold isW at h
 unfold isN
 have:=of_decide_eq_true h
 exact decide_eq_true (by omega)
theorem StopN.stops {u:List UInt8} (h:StopN u):Stops u:=fun b r e=>by
 have h1:=h b r e
 cases hw:isW b
 ·rfl
 ·rw [isW_N hw] at h1;cases h1
end Go.Proofs.YtjmbhlgocikfiaaGreatDoor
namespace Go.Proofs.YtjmbhlgocikfiaaGreatDoor
open Go Go.Av
attribute [local irreducible] AWp AOps AAny MAny DQ retQ retG St.le FCall GCall
set_option maxRecDepth 100000
abbrev okD (s:Sch) (d:Pk):Prop:=(0 ≤ d.col ∧ d.col < s.cols.length) ∧ 0 ≤ d.lev ∧ d.lev ≤ 61
def hdOk (s:Sch) (o c:Int) (ds:List Pk):Prop:=if o = 3 then c = 0 ∧ ds = [] else if o = 10 then ds ≠ [] ∧ (∀ d ∈ ds,okD s d) ∧ (c = -1 ∨ 0 ≤ c ∧ c < s.cols.length) else (0 ≤ c ∧ c < s.cols.length) ∧ ds = []
def mdOk (s:Sch) (o n:Int) (cs:List Int) (ev:Cnd):Prop:=if o = 11 then n = 0 ∧ ev = zX ∧ cs ≠ [] ∧ ∀ c ∈ cs,0 ≤ c ∧ c < s.cols.length else if o = 12 then n = 0 ∧ cs = [] ∧ cndE s ev = 0 else if o = 13 then (0 ≤ n ∧ n ≤ 1000000) ∧ cs = [] ∧ ev = zX else n = 0 ∧ cs = [] ∧ ev = zX
theorem emp_zX {c:Cnd} (h:empP c):c = zX:=by
 obtain ⟨o,cl,k,lo,hi,ks⟩:=c
 obtain ⟨h1,h2,h3,h4,h5,h6⟩:=h
 dsimp only [Cnd.op,Cnd.col,Cnd.code,Cnd.lo,Cnd.hi,Cnd.kids] at *
 subst h1 h2 h3 h4 h5
 rw [List.eq_nil_of_length_eq_zero h6];rfl
def StopX (u:List UInt8):Prop:=∀ b r,u = b :: r → b.toNat = 32 ∨ b.toNat = 41
theorem StopX.stops {u:List UInt8} (h:StopX u):Stops u:=fun b r e=>by
 have:=h b r e
 unfold isW
 exact decide_eq_false (by omega)
theorem wrd_W (o:Int):(wrdX o).all isW = true ∧ ∃ b r,wrdX o = b :: r ∧ 97 ≤ b.toNat ∧ b.toNat ≤ 122:=by
 unfold wrdX
 (repeat' split) <;> exact ⟨by rfl,_,_,rfl,by decide,by decide⟩
theorem xkids_two {e:Xpr} (h:e.kids.length = 2):∃ x y,e.kids = [x,y]:=by
 match hk:e.kids,h with
 | [x,y],_=>exact ⟨x,y,rfl⟩
theorem mea_wid {s:Sch} (hr:schE s = 0) {c:Int} {x:Col} (hx:s.cols[c.toNat]? = some x) (hk:x.kind = 3):∀ w ∈ x.widths,1 ≤ w ∧ w ≤ 1000000:=by
 have h:=(schE_parts hr).2.2.2.1 _ x hx
 unfold colE at h
 split at h
 ·cases h
 ·split at h
  ·cases h
  ·split at h
   ·rename_i hk2
    exact widths_bd (meaE_parts (kindE_mea hk2 hk)).2.2.2.2.2
   ·exact absurd h (by assumption)
theorem rig_call {s:Sch} (hr:schE s = 0) {e:Xpr} (hg:RigE s e) (h1:¬ e.op = 1) (h2:¬ e.op = 2) (h3:¬ (6 ≤ e.op ∧ e.op ≤ 9)):e.name = [] ∧ e.kids = [] ∧ hdOk s e.op e.col e.dims ∧ mdOk s e.op e.num e.cols e.evt ∧ cndE s e.cnd = 0:=by
 obtain ⟨u1,u2,u3,u4,u5,u6,u7,u8⟩:=hg.unu
 have hop:=hg.op
 simp only [usNum,usName,usCol,usCols,usDims,usCnd,usEvt,pairP] at u1 u2 u3 u4 u5 u6 u7 u8
 have hc:=hg.cnd (by simp only [usCnd];omega)
 have nil:∀ {α:Type} {l:List α},l.length = 0 → l = []:=fun h=>List.eq_nil_of_length_eq_zero h
 have k0:e.kids = []:=nil (by omega)
 have n0:e.name = []:=nil (by omega)
 refine ⟨n0,k0,?_,?_,hc⟩
 ·unfold hdOk
  by_cases o3:e.op = 3
  ·rw [if_pos o3];exact ⟨by omega,nil (by omega)⟩
  ·rw [if_neg o3]
   have hcol:=hg.col (by simp only [usCol];omega)
   by_cases o10:e.op = 10
   ·rw [if_pos o10]
    have hd:=hg.dim
    have hpar:=hg.par
    unfold parB at hpar
    rw [if_neg h1,if_neg h2,if_neg (by omega),if_pos o10] at hpar
    simp only [Bool.and_eq_true] at hpar
    have hde:=of_decide_eq_true hpar.1
    refine ⟨fun hn=>?_,fun d hm=>?_,?_⟩
    ·rw [hn] at hde;simp [dimsE] at hde
    ·have hp:=hd d hm
     unfold pickE pkE at hp
     rw [if_pos hr] at hp
     have hb:=finS_bd hr d.col
     split at hp
     ·cases hp
     ·split at hp
      ·cases hp
      ·rename_i q1 q2
       refine ⟨?_,by omega,by omega⟩
       unfold finS at q1
       by_cases hcc:d.col < 1 ∨ (s.cols.length:Int) ≤ d.col
       ·rw [if_pos hcc] at q1;omega
       ·omega
    ·rcases hcol with ⟨_,h⟩ | h
     ·exact .inl h
     ·obtain ⟨a,b,_⟩:=isB_col h;exact .inr ⟨a,b⟩
   ·rw [if_neg o10]
    rcases hcol with ⟨h,_⟩ | h
    ·exact absurd h o10
    ·obtain ⟨a,b,_⟩:=isB_col h;exact ⟨⟨a,b⟩,nil (by omega)⟩
 ·unfold mdOk
  by_cases o11:e.op = 11
  ·rw [if_pos o11]
   have hpar:=hg.par
   unfold parB at hpar
   rw [if_neg h1,if_neg h2,if_neg (by omega),if_neg (by omega),if_pos o11] at hpar
   simp only [Bool.and_eq_true] at hpar
   have hte:=of_decide_eq_true hpar.2
   refine ⟨by omega,emp_zX (u7.resolve_left (by omega)),fun hn=>?_,fun c hm=>?_⟩
   ·rw [hn] at hte;simp [trmsE] at hte
   ·obtain ⟨a,b,_⟩:=isB_col (hg.trm c hm);exact ⟨a,b⟩
  ·rw [if_neg o11]
   have c0:e.cols = []:=nil (by omega)
   by_cases o12:e.op = 12
   ·rw [if_pos o12]
    exact ⟨by omega,c0,hg.evt o12⟩
   ·rw [if_neg o12]
    have e0:=emp_zX (u7.resolve_left (by omega))
    by_cases o13:e.op = 13
    ·rw [if_pos o13]
     have hpar:=hg.par
     unfold parB at hpar
     rw [if_neg h1,if_neg h2,if_neg (by omega),if_neg (by omega),if_neg o11,if_neg o12,if_pos o13] at hpar
     simp only [Bool.and_eq_true] at hpar
     obtain ⟨w,hw,he⟩:=List.any_eq_true.1 hpar.2
     have hwe:=of_decide_eq_true he
     obtain ⟨_,_,x,hx,hk⟩:=isB_col hpar.1
     rw [colAt_get hx] at hw
     have hb:=mea_wid hr hx hk w hw
     exact ⟨by omega,c0,e0⟩
    ·rw [if_neg o13]
     exact ⟨by omega,c0,e0⟩
end Go.Proofs.YtjmbhlgocikfiaaGreatDoor
