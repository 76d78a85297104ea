/- Chapter 16: which statement a line is, and which program a text is. -/
import Derived.Test.YtjmbhlgocikfiaaGreatDoorTXt2
set_option linter.unusedVariables false
set_option linter.unnecessarySimpa false
set_option linter.unusedSimpArgs false
namespace Go.Proofs.YtjmbhlgocikfiaaGreatDoor
open Go Go.Av
attribute [local irreducible] AWp AOps AAny MAny DQ retQ retG St.le FCall GCall
set_option maxRecDepth 100000
structure StmR (s:Sch) (x:Stm):Prop where
 ne:x.name ≠ []
 sp:x.name.all (notB 32) = true
 rig:rigX s x.x = true
theorem rigX_parts {s:Sch} {e:Xpr} (h:rigX s e = true):schE s = 0 ∧ rigS s e = true:=by
 unfold rigX at h
 rw [Bool.and_eq_true] at h
 exact ⟨of_decide_eq_true h.1,h.2⟩
theorem txtP_cons (s:Sch) (x:Stm) (l:List Stm):txtP s (x :: l) = txtT s x ++ 10 :: txtP s l:=by
 unfold txtP
 rw [List.flatMap_cons,List.append_assoc];rfl
abbrev badB (c:UInt8):Prop:=c = 10 ∨ c = 44 ∨ c = 59
theorem no_W {c:UInt8} (hc:badB c) {l:List UInt8} (h:l.all isW = true):l.all (notB c) = true:=by
 rw [List.all_eq_true] at h ⊢
 intro b hb
 have:=h b hb
 unfold isW at this
 have:=of_decide_eq_true this
 unfold notB
 rw [decide_eq_false (by intro e;subst e;revert this;rcases hc with rfl | rfl | rfl <;> decide)];rfl
theorem no_app (c:UInt8) (a b:List UInt8):(a ++ b).all (notB c) = (a.all (notB c) && b.all (notB c)):=List.all_append
theorem no_itoa {c:UInt8} (hc:badB c) (n:Int):(Lib.itoa n).all (notB c) = true:=by
 unfold Lib.itoa
 by_cases h:n < 0
 ·rw [if_pos h,List.all_cons]
  obtain ⟨_,d2,_⟩:=digV_dec n.natAbs
  rw [no_W hc (by rw [List.all_eq_true] at d2 ⊢;exact fun c hc=>digB_w (d2 c hc))]
  rcases hc with rfl | rfl | rfl <;> rfl
 ·rw [if_neg h]
  obtain ⟨_,d2,_⟩:=digV_dec n.toNat
  exact no_W hc (by rw [List.all_eq_true] at d2 ⊢;exact fun c hc=>digB_w (d2 c hc))
theorem no_name {c:UInt8} (hc:badB c) {nm:List UInt8} (h:nameB nm = true):nm.all (notB c) = true:=no_W hc (name_w h).1
theorem no_col {c:UInt8} (hc:badB c) {s:Sch} (hr:schE s = 0) (k:Int):(colNm s k).all (notB c) = true:=by
 unfold colNm colAt
 rw [List.getD_eq_getElem?_getD]
 cases hx:s.cols[k.toNat]? with
 | none=>rfl
 | some x=>exact no_name hc (col_parts hr hx).1
theorem no_cod {c:UInt8} (hc:badB c) {s:Sch} (hr:schE s = 0) (i k:Int):(codNm s i k).all (notB c) = true:=by
 unfold codNm lstOf
 rw [List.getD_eq_getElem?_getD,List.getD_eq_getElem?_getD]
 cases hl:s.lists[(colAt s i).lst.toNat]? with
 | none=>rfl
 | some l =>
  rw [Option.getD_some]
  cases hx:l.2[k.toNat]? with
  | none=>rfl
  | some x=>exact no_name hc (cod_name hr (List.mem_of_getElem? hl) hx)
theorem no_const {c:UInt8} (hc:badB c):bUnder.all (notB c) = true ∧ bFrom.all (notB c) = true ∧ bTo.all (notB c) = true ∧ bMiss.all (notB c) = true ∧ bAnd.all (notB c) = true ∧ bOr.all (notB c) = true ∧ bNot.all (notB c) = true ∧ bAll.all (notB c) = true ∧ [(40:UInt8)].all (notB c) = true ∧ [(41:UInt8)].all (notB c) = true ∧ [(45:UInt8)].all (notB c) = true ∧ [(47:UInt8)].all (notB c) = true:=by
 rcases hc with rfl | rfl | rfl <;> decide
theorem no_txtS {c:UInt8} (hc:badB c) {s:Sch} (hr:schE s = 0) (x:Cnd):(txtS s x).all (notB c) = true:=by
 obtain ⟨q1,q2,q3,q4,q5,q6,q7,q8,q9,q10,_,_⟩:=no_const hc
 refine cnd_ind (p:=fun x=>(txtS s x).all (notB c) = true) (fun x ih=>?_) x
 have kid:∀ i:Nat,((x.kids.map (txtS s)).getD i []).all (notB c) = true:=fun i=>by
  rw [List.getD_eq_getElem?_getD,List.getElem?_map]
  cases hk:x.kids[i]? with
  | none=>rfl
  | some k=>exact ih k (List.mem_of_getElem? hk)
 rw [txtS_eq]
 (repeat' split) <;> simp only [no_app,no_col hc hr,no_cod hc hr,no_itoa hc,kid,q1,q2,q3,q4,q5,q6,q7,q8,q9,q10,Bool.and_true]
theorem no_nmD {c:UInt8} (hc:badB c) {s:Sch} (hr:schE s = 0) (k:Int):(nmD s k).all (notB c) = true:=by
 unfold nmD
 split
 ·exact (no_const hc).2.2.2.2.2.2.2.2.2.2.1
 ·exact no_col hc hr k
theorem no_dimT {c:UInt8} (hc:badB c) {s:Sch} (hr:schE s = 0) (d:Pk):(dimT s d).all (notB c) = true:=by
 unfold dimT
 rw [no_app,no_app,no_nmD hc hr,no_itoa hc,(no_const hc).2.2.2.2.2.2.2.2.2.2.2];rfl
theorem no_jn {c:UInt8} {sep:List UInt8} (hs:sep.all (notB c) = true):∀ {l:List (List UInt8)},(∀ x ∈ l,x.all (notB c) = true) → (jnS sep l).all (notB c) = true
 | [],_=>rfl
 | [x],h=>h x (by simp)
 | x :: y :: r,h=>by
  rw [jnS,no_app,no_app,h x (by simp),hs,no_jn hs fun z hz=>h z (by simp [hz])];rfl
theorem no_dims {c:UInt8} (hc:c = 10 ∨ c = 59) {s:Sch} (hr:schE s = 0) (ds:List Pk):(jnS bCom (ds.map (dimT s))).all (notB c) = true :=
 no_jn (by rcases hc with rfl | rfl <;> rfl) fun x hx=>by
  obtain ⟨d,_,rfl⟩:=List.mem_map.1 hx
  exact no_dimT (hc.imp id .inr) hr d
theorem no_cols {c:UInt8} (hc:c = 10 ∨ c = 59) {s:Sch} (hr:schE s = 0) (cs:List Int):(jnS bCom (cs.map (nmD s))).all (notB c) = true :=
 no_jn (by rcases hc with rfl | rfl <;> rfl) fun x hx=>by
  obtain ⟨d,_,rfl⟩:=List.mem_map.1 hx
  exact no_nmD (hc.imp id .inr) hr d
theorem no_hdX {c:UInt8} (hc:c = 10 ∨ c = 59) {s:Sch} (hr:schE s = 0) (o k:Int) (ds:List Pk):∀ x ∈ hdX s o k ds,x.all (notB c) = true:=fun x hx=>by
 have hb:badB c:=hc.imp id .inr
 unfold hdX at hx
 (repeat' split at hx) <;> simp only [List.mem_cons,List.not_mem_nil,or_false] at hx
 ·rcases hx with rfl | rfl
  ·exact no_dims hc hr _
  ·exact no_nmD hb hr _
 ·subst hx;exact no_nmD hb hr _
theorem no_mdX {c:UInt8} (hc:c = 10 ∨ c = 59) {s:Sch} (hr:schE s = 0) (o n:Int) (cs:List Int) (ev:Cnd):∀ x ∈ mdX s o n cs ev,x.all (notB c) = true:=fun x hx=>by
 have hb:badB c:=hc.imp id .inr
 unfold mdX at hx
 (repeat' split at hx) <;> simp only [List.mem_cons,List.not_mem_nil,or_false] at hx
 ·subst hx;exact no_cols hc hr _
 ·subst hx;exact no_txtS hb hr _
 ·subst hx;exact no_itoa hb _
theorem no10_txtX {s:Sch} (hr:schE s = 0) (e:Xpr):rigS s e = true → (txtX s e).all (notB 10) = true:=by
 have hb:badB 10:=.inl rfl
 refine xpr_ind (p:=fun e=>rigS s e = true → (txtX s e).all (notB 10) = true) (fun e ih h=>?_) e
 have hg:=rig_parts h
 have kid:∀ i:Nat,((e.kids.map (txtX s)).getD i []).all (notB 10) = true:=fun i=>by
  rw [List.getD_eq_getElem?_getD,List.getElem?_map]
  cases hk:e.kids[i]? with
  | none=>rfl
  | some k=>exact ih k (List.mem_of_getElem? hk) (hg.kid k (List.mem_of_getElem? hk)).2
 rw [txtX_eq]
 split
 ·exact no_itoa hb _
 ·split
  ·rename_i h1 h2
   have hpar:=hg.par
   unfold parB at hpar
   rw [if_neg h1,if_pos h2] at hpar
   exact no_name hb hpar
  ·split
   ·have hs:(sgnX e.op).all (notB 10) = true:=by unfold sgnX;(repeat' split) <;> rfl
    simp only [no_app,kid,hs,Bool.and_true];rfl
   ·have hw:=no_W hb (wrd_W e.op).1
    have hj:(jnS bSep (prtX s e.op e.num e.col e.cols e.dims e.evt ++ [txtS s e.cnd])).all (notB 10) = true:=no_jn (by rfl) fun x hx=>by
     rw [prtX_eq] at hx
     rcases List.mem_append.1 hx with hx | hx
     ·rcases List.mem_append.1 hx with hx | hx
      ·exact no_hdX (.inl rfl) hr _ _ _ x hx
      ·exact no_mdX (.inl rfl) hr _ _ _ _ x hx
     ·rw [List.mem_singleton] at hx
      subst hx;exact no_txtS hb hr _
    simp only [no_app,hw,hj,Bool.and_true];rfl
theorem no10_txtT {s:Sch} {x:Stm} (h:StmR s x) (hn:x.name.all (notB 10) = true):(txtT s x).all (notB 10) = true:=by
 obtain ⟨hr,hg⟩:=rigX_parts h.rig
 unfold txtT
 simp only [no_app,hn,no10_txtX hr x.x hg,Bool.and_true]
 split <;> rfl
theorem proE_stm {s:Sch} {L:List Stm}:∀ {l:List Stm} {k:Nat},(proE s L k l).2 = 0 → ∀ x ∈ l,nameB x.name = true ∧ rigX s x.x = true
 | [],k,_,x,hx=>by cases hx
 | t :: r,k,h,x,hx=>by
  rw [proE] at h
  split at h
  ·rename_i h0
   rcases List.mem_cons.1 hx with rfl | hx
   ·unfold stmE at h0
    constructor
    ·split at h0
     ·cases h0
     ·rename_i hn;simpa using hn
    ·split at h0
     ·cases h0
     ·split at h0
      ·cases h0
      ·split at h0
       ·cases h0
       ·split at h0
        ·cases h0
        ·split at h0
         ·cases h0
         ·rename_i hx;simpa using hx
   ·exact proE_stm h x hx
  ·exact absurd h (by assumption)
theorem no32_name {nm:List UInt8} (h:nameB nm = true):nm ≠ [] ∧ nm.all (notB 32) = true:=by
 obtain ⟨h1,_,b,r,hb,_⟩:=name_w h
 refine ⟨by rw [hb];simp,?_⟩
 rw [List.all_eq_true] at h1 ⊢
 intro c hc
 have:=h1 c hc
 unfold isW at this
 have:=of_decide_eq_true this
 unfold notB
 rw [decide_eq_false (by intro e;subst e;revert this;decide)];rfl
theorem pro_stms {s:Sch} {l:List Stm} (h:(proS s l).2 = 0):schE s = 0 ∧ ∀ x ∈ l,StmR s x ∧ (txtT s x).all (notB 10) = true:=by
 unfold proS at h
 split at h
 ·rename_i hr
  split at h
  ·cases h
  ·refine ⟨hr,fun x hx=>?_⟩
   obtain ⟨h1,h2⟩:=proE_stm h x hx
   obtain ⟨n1,n2⟩:=no32_name h1
   have hs:StmR s x:=⟨n1,n2,h2⟩
   exact ⟨hs,no10_txtT hs (no_name (.inl rfl) h1)⟩
 ·exact absurd h (by assumption)
theorem txtP_len (s:Sch):∀ l:List Stm,l.length ≤ (txtP s l).length
 | []=>by simp
 | x :: l=>by
  have:=txtP_len s l
  rw [txtP_cons,List.length_append,List.length_cons,List.length_cons];omega
end Go.Proofs.YtjmbhlgocikfiaaGreatDoor
