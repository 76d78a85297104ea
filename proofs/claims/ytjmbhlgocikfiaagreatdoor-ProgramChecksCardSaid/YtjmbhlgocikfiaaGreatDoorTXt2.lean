/- Chapter 16: a text that the program reads is the text of what it reads. -/
import Derived.Test.YtjmbhlgocikfiaaGreatDoorTXc
import Derived.Test.YtjmbhlgocikfiaaGreatDoorTF3
set_option linter.unusedVariables false
set_option linter.unnecessarySimpa false
set_option linter.unusedSimpArgs false
namespace Go.Proofs.YtjmbhlgocikfiaaGreatDoor
open Go Go.Av
attribute [local irreducible] AWp AOps AAny MAny DQ retQ retG St.le FCall GCall
set_option maxRecDepth 100000
theorem takO_inv {w t u:List UInt8} (h:takO w t = some u):t = w ++ u:=by
 unfold takO at h
 split at h
 ·rename_i hc
  have:=cut_inv hc
  cases h;exact this
 ·cases h
theorem takO_len {w t u:List UInt8} (h:takO w t = some u):u.length + w.length = t.length:=by
 have:=takO_inv h
 rw [this,List.length_append];omega
theorem colO_inv {s:Sch} {t u:List UInt8} {c:Int} (h:colO s t = some (c,u)):t = nmD s c ++ u ∧ 0 ≤ c ∧ c < s.cols.length:=by
 unfold colO at h
 split at h
 ·rename_i hc
  cases h
  obtain ⟨h1,h2⟩:=col_found hc
  refine ⟨?_,hc,h2⟩
  unfold nmD
  rw [if_neg (by omega),h1,tw_split]
 ·cases h
theorem numO_inv {t u:List UInt8} {v:Int} (h:numO t = some (v,u)):t = Lib.itoa v ++ u:=by
 unfold numO at h
 split at h
 ·rename_i hc
  cases h
  exact num_inv hc.1
 ·cases h
theorem cndO_inv {s:Sch} {t u:List UInt8} {c:Cnd} (h:cndO s t = some (c,u)):t = txtS s c ++ u:=by
 unfold cndO at h
 split at h
 ·rename_i hc
  cases h
  exact con_inv s 10 40 t hc
 ·cases h
theorem jnS_cons (sep x:List UInt8) {l:List (List UInt8)} (h:l ≠ []):jnS sep (x :: l) = x ++ sep ++ jnS sep l:=by
 cases l with
 | nil=>exact absurd rfl h
 | cons y r=>rfl
theorem dimsO_inv {s:Sch}:∀ (n:Nat) (acc:List Pk) (t u:List UInt8) (ds:List Pk),dimsO s n acc t = some (ds,u) → ∃ r,r ≠ [] ∧ ds = acc ++ r ∧ t = jnS bCom (r.map (dimT s)) ++ u
 | 0,acc,t,u,ds,h=>by cases h
 | n + 1,acc,t,u,ds,h=>by
  rw [dimsO] at h
  cases h1:colO s t with
  | none=>rw [h1] at h;cases h
  | some z =>
   obtain ⟨c,t1⟩:=z
   rw [h1] at h;dsimp only at h
   cases h2:takO [47] t1 with
   | none=>rw [h2] at h;cases h
   | some t2 =>
    rw [h2] at h;dsimp only at h
    cases h3:numO t2 with
    | none=>rw [h3] at h;cases h
    | some z =>
     obtain ⟨v,t3⟩:=z
     rw [h3] at h;dsimp only at h
     have e1:=(colO_inv h1).1
     have e2:=takO_inv h2
     have e3:=numO_inv h3
     cases h4:takO bCom t3 with
     | none =>
      rw [h4] at h;dsimp only at h
      cases h
      refine ⟨[⟨c,v⟩],by simp,rfl,?_⟩
      rw [e1,e2,e3]
      show _ = dimT s ⟨c,v⟩ ++ _
      unfold dimT
      simp only [List.append_assoc]
     | some t4 =>
      rw [h4] at h;dsimp only at h
      have e4:=takO_inv h4
      obtain ⟨r,r1,r2,r3⟩:=dimsO_inv n _ t4 u ds h
      refine ⟨⟨c,v⟩ :: r,by simp,by rw [r2,List.append_assoc];rfl,?_⟩
      rw [List.map_cons,jnS_cons _ _ (by simpa using r1),e1,e2,e3,e4,r3]
      unfold dimT
      simp only [List.append_assoc]
theorem colsO_inv {s:Sch}:∀ (n:Nat) (acc:List Int) (t u:List UInt8) (ds:List Int),colsO s n acc t = some (ds,u) → ∃ r,r ≠ [] ∧ ds = acc ++ r ∧ t = jnS bCom (r.map (nmD s)) ++ u
 | 0,acc,t,u,ds,h=>by cases h
 | n + 1,acc,t,u,ds,h=>by
  rw [colsO] at h
  cases h1:colO s t with
  | none=>rw [h1] at h;cases h
  | some z =>
   obtain ⟨c,t1⟩:=z
   rw [h1] at h;dsimp only at h
   have e1:=(colO_inv h1).1
   cases h4:takO bCom t1 with
   | none =>
    rw [h4] at h;dsimp only at h
    cases h
    exact ⟨[c],by simp,rfl,e1⟩
   | some t4 =>
    rw [h4] at h;dsimp only at h
    have e4:=takO_inv h4
    obtain ⟨r,r1,r2,r3⟩:=colsO_inv n _ t4 u ds h
    refine ⟨c :: r,by simp,by rw [r2,List.append_assoc];rfl,?_⟩
    rw [List.map_cons,jnS_cons _ _ (by simpa using r1),e1,e4,r3]
    simp only [List.append_assoc]
theorem tabO_inv {s:Sch} {t u:List UInt8} {c:Int} {ds:List Pk} (h:tabO s t = some ((c,ds),u)):t = jnS bCom (ds.map (dimT s)) ++ bSep ++ nmD s c ++ u:=by
 unfold tabO at h
 cases h1:dimsO s (t.length + 1) [] t with
 | none=>rw [h1] at h;cases h
 | some z =>
  obtain ⟨d,t1⟩:=z
  rw [h1] at h;dsimp only at h
  obtain ⟨r,_,r2,r3⟩:=dimsO_inv _ _ _ _ _ h1
  rw [List.nil_append] at r2
  subst r2
  cases h2:takO bSep t1 with
  | none=>rw [h2] at h;cases h
  | some t2 =>
   rw [h2] at h;dsimp only at h
   have e2:=takO_inv h2
   cases h3:takO [45] t2 with
   | some t3 =>
    rw [h3] at h;dsimp only at h
    have e3:=takO_inv h3
    cases h
    rw [r3,e2,e3]
    show _ = _ ++ _ ++ [45] ++ _
    simp only [List.append_assoc]
   | none =>
    rw [h3] at h;dsimp only at h
    cases h4:colO s t2 with
    | none=>rw [h4] at h;cases h
    | some z =>
     obtain ⟨c',t3⟩:=z
     rw [h4] at h;dsimp only at h
     have e4:=(colO_inv h4).1
     cases h
     rw [r3,e2,e4]
     simp only [List.append_assoc]
def hdX (s:Sch) (o c:Int) (ds:List Pk):List (List UInt8):=if o = 3 then [] else if o = 10 then [jnS bCom (ds.map (dimT s)),nmD s c] else [nmD s c]
def mdX (s:Sch) (o n:Int) (cs:List Int) (ev:Cnd):List (List UInt8):=if o = 11 then [jnS bCom (cs.map (nmD s))] else if o = 12 then [txtS s ev] else if o = 13 then [Lib.itoa n] else []
theorem prtX_eq (s:Sch) (o n c:Int) (cs:List Int) (ds:List Pk) (ev:Cnd):prtX s o n c cs ds ev = hdX s o c ds ++ mdX s o n cs ev:=by
 unfold prtX hdX mdX
 by_cases h1:o = 3
 ·subst h1;rfl
 ·by_cases h2:o = 10
  ·subst h2;rfl
  ·rw [if_neg h1,if_neg h2,if_neg h1,if_neg h2]
   split
   ·rfl
   ·split
    ·rfl
    ·split <;> rfl
def sepB (l:List (List UInt8)):List UInt8:=l.flatMap fun x=>x ++ bSep
theorem jn_sepB (x:List UInt8):∀ l:List (List UInt8),jnS bSep (l ++ [x]) = sepB l ++ x
 | []=>rfl
 | y :: r=>by
  rw [List.cons_append,jnS_cons _ _ (by simp),jn_sepB x r]
  unfold sepB
  rw [List.flatMap_cons]
  simp only [List.append_assoc]
theorem sepB_app (a b:List (List UInt8)):sepB (a ++ b) = sepB a ++ sepB b:=by unfold sepB;rw [List.flatMap_append]
theorem headO_inv {s:Sch} {o:Int} {t u:List UInt8} {z:Int × List Pk} (h:headO s o t = some (z,u)):t = sepB (hdX s o z.1 z.2) ++ u:=by
 unfold headO at h
 by_cases h3:o = 3
 ·rw [if_pos h3] at h;cases h
  unfold hdX;rw [if_pos h3];rfl
 ·rw [if_neg h3] at h
  by_cases h10:o = 10
  ·rw [if_pos h10] at h
   cases h1:tabO s t with
   | none=>rw [h1] at h;cases h
   | some y =>
    obtain ⟨y,t1⟩:=y
    rw [h1] at h;dsimp only at h
    cases h2:takO bSep t1 with
    | none=>rw [h2] at h;cases h
    | some t2 =>
     rw [h2] at h;cases h
     obtain ⟨c,ds⟩:=z
     have e1:=tabO_inv h1
     have e2:=takO_inv h2
     unfold hdX
     rw [if_neg h3,if_pos h10,e1,e2]
     unfold sepB
     simp only [List.flatMap_cons,List.flatMap_nil,List.append_assoc,List.append_nil,List.nil_append]
  ·rw [if_neg h10] at h
   cases h1:colO s t with
   | none=>rw [h1] at h;cases h
   | some y =>
    obtain ⟨c,t1⟩:=y
    rw [h1] at h;dsimp only at h
    cases h2:takO bSep t1 with
    | none=>rw [h2] at h;cases h
    | some t2 =>
     rw [h2] at h;cases h
     have e1:=(colO_inv h1).1
     have e2:=takO_inv h2
     unfold hdX
     rw [if_neg h3,if_neg h10,e1,e2]
     unfold sepB
     simp only [List.flatMap_cons,List.flatMap_nil,List.append_assoc,List.append_nil,List.nil_append]
theorem midO_inv {s:Sch} {o:Int} {t u:List UInt8} {m:Mid} (h:midO s o t = some (m,u)):t = sepB (mdX s o m.num m.cols m.evt) ++ u:=by
 unfold midO at h
 by_cases h11:o = 11
 ·rw [if_pos h11] at h
  cases h1:colsO s (t.length + 1) [] t with
  | none=>rw [h1] at h;cases h
  | some y =>
   obtain ⟨y,t1⟩:=y
   rw [h1] at h;dsimp only at h
   cases h2:takO bSep t1 with
   | none=>rw [h2] at h;cases h
   | some t2 =>
    rw [h2] at h;cases h
    obtain ⟨r,_,r2,r3⟩:=colsO_inv _ _ _ _ _ h1
    rw [List.nil_append] at r2
    subst r2
    have e2:=takO_inv h2
    unfold mdX
    rw [if_pos h11,r3,e2]
    unfold sepB
    simp only [List.flatMap_cons,List.flatMap_nil,List.append_assoc,List.append_nil,List.nil_append]
 ·rw [if_neg h11] at h
  by_cases h12:o = 12
  ·rw [if_pos h12] at h
   cases h1:cndO s t with
   | none=>rw [h1] at h;cases h
   | some y =>
    obtain ⟨y,t1⟩:=y
    rw [h1] at h;dsimp only at h
    cases h2:takO bSep t1 with
    | none=>rw [h2] at h;cases h
    | some t2 =>
     rw [h2] at h;cases h
     have e1:=cndO_inv h1
     have e2:=takO_inv h2
     unfold mdX
     rw [if_neg h11,if_pos h12,e1,e2]
     unfold sepB
     simp only [List.flatMap_cons,List.flatMap_nil,List.append_assoc,List.append_nil,List.nil_append]
  ·rw [if_neg h12] at h
   by_cases h13:o = 13
   ·rw [if_pos h13] at h
    cases h1:numO t with
    | none=>rw [h1] at h;cases h
    | some y =>
     obtain ⟨y,t1⟩:=y
     rw [h1] at h;dsimp only at h
     cases h2:takO bSep t1 with
     | none=>rw [h2] at h;cases h
     | some t2 =>
      rw [h2] at h;cases h
      have e1:=numO_inv h1
      have e2:=takO_inv h2
      unfold mdX
      rw [if_neg h11,if_neg h12,if_pos h13,e1,e2]
      unfold sepB
      simp only [List.flatMap_cons,List.flatMap_nil,List.append_assoc,List.append_nil,List.nil_append]
   ·rw [if_neg h13] at h;cases h
    unfold mdX
    rw [if_neg h11,if_neg h12,if_neg h13];rfl
theorem txt_call (s:Sch) (o n c:Int) (cs:List Int) (ds:List Pk) (cd ev:Cnd) (h1:¬ o = 1) (h2:¬ o = 2) (h3:¬ (6 ≤ o ∧ o ≤ 9)):txtX s (.mk o n [] c cs ds cd ev []) = wrdX o ++ [40] ++ (sepB (hdX s o c ds) ++ (sepB (mdX s o n cs ev) ++ txtS s cd)) ++ [41]:=by
 rw [txtX,if_neg h1,if_neg h2,if_neg h3,prtX_eq,jn_sepB,sepB_app]
 simp only [List.append_assoc]
theorem parsO_inv {s:Sch} {o:Int} {t u:List UInt8} {e:Xpr} (h1:¬ o = 1) (h2:¬ o = 2) (h3:¬ (6 ≤ o ∧ o ≤ 9)) (h:parsO s o t = some (e,u)):wrdX o ++ [40] ++ t = txtX s e ++ u:=by
 unfold parsO at h
 cases g1:headO s o t with
 | none=>rw [g1] at h;cases h
 | some y =>
  obtain ⟨z,t1⟩:=y
  rw [g1] at h;dsimp only at h
  cases g2:midO s o t1 with
  | none=>rw [g2] at h;cases h
  | some y =>
   obtain ⟨m,t2⟩:=y
   rw [g2] at h;dsimp only at h
   cases g3:cndO s t2 with
   | none=>rw [g3] at h;cases h
   | some y =>
    obtain ⟨cd,t3⟩:=y
    rw [g3] at h;dsimp only at h
    cases g4:takO [41] t3 with
    | none=>rw [g4] at h;cases h
    | some t4 =>
     rw [g4] at h;cases h
     rw [txt_call s o m.num z.1 m.cols z.2 cd m.evt h1 h2 h3,headO_inv g1,midO_inv g2,cndO_inv g3,takO_inv g4]
     simp only [List.append_assoc]
theorem opsX_inv {w:List UInt8} (h:0 < opsX w):w = wrdX (opsX w) ∧ ¬ opsX w = 1 ∧ ¬ opsX w = 2 ∧ ¬ (6 ≤ opsX w ∧ opsX w ≤ 9):=by
 unfold opsX at h ⊢
 (repeat' split) <;> first | (rename_i hw;exact ⟨hw,by decide,by decide,by decide⟩) | (split at h <;> omega) | skip
 all_goals (simp_all)
theorem sgnO_inv {t u:List UInt8} {o:Int} (h:sgnO t = some (o,u)):t = sgnX o ++ u ∧ 6 ≤ o ∧ o ≤ 9:=by
 unfold sgnO at h
 cases h6:takO (sgnX 6) t with
 | some v=>rw [h6] at h;cases h;exact ⟨takO_inv h6,by decide,by decide⟩
 | none =>
  rw [h6] at h;dsimp only at h
  cases h7:takO (sgnX 7) t with
  | some v=>rw [h7] at h;cases h;exact ⟨takO_inv h7,by decide,by decide⟩
  | none =>
   rw [h7] at h;dsimp only at h
   cases h8:takO (sgnX 8) t with
   | some v=>rw [h8] at h;cases h;exact ⟨takO_inv h8,by decide,by decide⟩
   | none =>
    rw [h8] at h;dsimp only at h
    cases h9:takO (sgnX 9) t with
    | some v=>rw [h9] at h;cases h;exact ⟨takO_inv h9,by decide,by decide⟩
    | none=>rw [h9] at h;cases h
theorem txt_pair (s:Sch) (o:Int) (x y:Xpr) (h:6 ≤ o ∧ o ≤ 9):txtX s (.mk o 0 [] 0 [] [] zX zX [x,y]) = [40] ++ txtX s x ++ sgnX o ++ txtX s y ++ [41]:=by
 rw [txtX,if_neg (by omega),if_neg (by omega),if_pos h,txtXs_map];rfl
theorem pairO_inv {s:Sch} {f:List UInt8 → Option (Xpr × List UInt8)} (hf:∀ t e u,f t = some (e,u) → t = txtX s e ++ u) {t u:List UInt8} {e:Xpr} (h:pairO f t = some (e,u)):[40] ++ t = txtX s e ++ u:=by
 unfold pairO at h
 cases g1:f t with
 | none=>rw [g1] at h;cases h
 | some y =>
  obtain ⟨x,t1⟩:=y
  rw [g1] at h;dsimp only at h
  cases g2:sgnO t1 with
  | none=>rw [g2] at h;cases h
  | some y =>
   obtain ⟨o,t2⟩:=y
   rw [g2] at h;dsimp only at h
   cases g3:f t2 with
   | none=>rw [g3] at h;cases h
   | some y =>
    obtain ⟨y,t3⟩:=y
    rw [g3] at h;dsimp only at h
    cases g4:takO [41] t3 with
    | none=>rw [g4] at h;cases h
    | some t4 =>
     rw [g4] at h;cases h
     obtain ⟨e2,e3⟩:=sgnO_inv g2
     rw [txt_pair s o x y e3,hf _ _ _ g1,e2,hf _ _ _ g3,takO_inv g4]
     simp only [List.append_assoc]
theorem namO_inv {s:Sch} {w t u:List UInt8} {e:Xpr} (h:namO w t = some (e,u)):w ++ t = txtX s e ++ u:=by
 unfold namO at h
 split at h
 ·cases h
 ·cases h
  rw [txtX,if_neg (by decide),if_pos rfl]
theorem leafO_inv {s:Sch} {t u:List UInt8} {e:Xpr} (h:leafO s t = some (e,u)):t = txtX s e ++ u:=by
 unfold leafO at h
 split at h
 ·cases h
 ·split at h
  ·cases g:numO t with
   | none=>rw [g] at h;cases h
   | some y =>
    obtain ⟨v,t1⟩:=y
    rw [g] at h;cases h
    rw [txtX,if_pos rfl]
    exact numO_inv g
  ·have hs:=tw_split t
   unfold wordO at h
   split at h
   ·rename_i hop
    obtain ⟨o1,o2,o3,o4⟩:=opsX_inv hop
    cases g:takO [40] (t.dropWhile isW) with
    | none =>
     rw [g] at h
     rw [← hs];exact namO_inv h
    | some v =>
     rw [g] at h;dsimp only at h
     have:=parsO_inv o2 o3 o4 h
     rw [← hs, ← this, ← o1,takO_inv g,List.append_assoc]
   ·rw [← hs];exact namO_inv h
theorem exprO_inv (s:Sch):∀ (n:Nat) (t:List UInt8) (e:Xpr) (u:List UInt8),exprO s n t = some (e,u) → t = txtX s e ++ u
 | 0,t,e,u,h=>by cases h
 | n + 1,t,e,u,h=>by
  rw [exprO] at h
  cases g:takO [40] t with
  | none=>rw [g] at h;exact leafO_inv h
  | some v =>
   rw [g] at h;dsimp only at h
   have:=pairO_inv (exprO_inv s n) h
   rw [← this];exact takO_inv g
end Go.Proofs.YtjmbhlgocikfiaaGreatDoor
namespace Go.Proofs.YtjmbhlgocikfiaaGreatDoor
open Go Go.Av
attribute [local irreducible] AWp AOps AAny MAny DQ retQ retG St.le FCall GCall
set_option maxRecDepth 100000
def isN (b:UInt8):Bool:=decide (b.toNat ≠ 32 ∧ b.toNat ≠ 40 ∧ b.toNat ≠ 41)
def digV (l:List UInt8):Nat:=l.foldl (fun n b=>10 * n + (b.toNat - 48)) 0
theorem digV_snoc (l:List UInt8) (b:UInt8):digV (l ++ [b]) = 10 * digV l + (b.toNat - 48):=by
 unfold digV;rw [List.foldl_append];rfl
theorem digV_dec (u:Nat):digV (Lib.decDigits u) = u ∧ (Lib.decDigits u).all digB = true ∧ 1 ≤ (Lib.decDigits u).length:=by
 induction u using Nat.strongRecOn with
 | ind u ih =>
  rw [Lib.decDigits]
  by_cases h1:u < 10
  ·rw [dif_pos h1]
   have e:=dig_n h1
   refine ⟨?_,?_,by simp⟩
   ·have:=digV_snoc [] (UInt8.ofNat (48 + u))
    rw [List.nil_append] at this
    rw [this,e]
    show 10 * 0 + (48 + u - 48) = u
    omega
   ·simp only [List.all_cons,List.all_nil,Bool.and_true,digB,decide_eq_true_eq]
    omega
  ·rw [dif_neg h1]
   obtain ⟨i1,i2,i3⟩:=ih (u / 10) (by omega)
   have hd:u % 10 < 10:=by omega
   have e:=dig_n hd
   refine ⟨?_,?_,by simp⟩
   ·rw [digV_snoc,i1,e];omega
   ·rw [List.all_append,i2]
    simp only [List.all_cons,List.all_nil,Bool.and_true,Bool.true_and,digB,decide_eq_true_eq]
    omega
def StopN (u:List UInt8):Prop:=∀ b r,u = b :: r → isN b = false
theorem isW_N {b:UInt8} (h:isW b = true):isN b = true:=by
 unfold isW at h
 unfold isN
 have:=of_decide_eq_true h
 exact decide_eq_true (by omega)
theorem StopN.stops {u:List UInt8} (h:StopN u):Stops u:=fun b r e=>by
 have h1:=h b r e
 cases hw:isW b
 ·rfl
 ·rw [isW_N hw] at h1;cases h1
end Go.Proofs.YtjmbhlgocikfiaaGreatDoor
namespace Go.Proofs.YtjmbhlgocikfiaaGreatDoor
open Go Go.Av
attribute [local irreducible] AWp AOps AAny MAny DQ retQ retG St.le FCall GCall
set_option maxRecDepth 100000
abbrev okD (s:Sch) (d:Pk):Prop:=(0 ≤ d.col ∧ d.col < s.cols.length) ∧ 0 ≤ d.lev ∧ d.lev ≤ 61
def hdOk (s:Sch) (o c:Int) (ds:List Pk):Prop:=if o = 3 then c = 0 ∧ ds = [] else if o = 10 then ds ≠ [] ∧ (∀ d ∈ ds,okD s d) ∧ (c = -1 ∨ 0 ≤ c ∧ c < s.cols.length) else (0 ≤ c ∧ c < s.cols.length) ∧ ds = []
def mdOk (s:Sch) (o n:Int) (cs:List Int) (ev:Cnd):Prop:=if o = 11 then n = 0 ∧ ev = zX ∧ cs ≠ [] ∧ ∀ c ∈ cs,0 ≤ c ∧ c < s.cols.length else if o = 12 then n = 0 ∧ cs = [] ∧ cndE s ev = 0 else if o = 13 then (0 ≤ n ∧ n ≤ 1000000) ∧ cs = [] ∧ ev = zX else n = 0 ∧ cs = [] ∧ ev = zX
theorem emp_zX {c:Cnd} (h:empP c):c = zX:=by
 obtain ⟨o,cl,k,lo,hi,ks⟩:=c
 obtain ⟨h1,h2,h3,h4,h5,h6⟩:=h
 dsimp only [Cnd.op,Cnd.col,Cnd.code,Cnd.lo,Cnd.hi,Cnd.kids] at *
 subst h1 h2 h3 h4 h5
 rw [List.eq_nil_of_length_eq_zero h6];rfl
def StopX (u:List UInt8):Prop:=∀ b r,u = b :: r → b.toNat = 32 ∨ b.toNat = 41
theorem StopX.stops {u:List UInt8} (h:StopX u):Stops u:=fun b r e=>by
 have:=h b r e
 unfold isW
 exact decide_eq_false (by omega)
theorem wrd_W (o:Int):(wrdX o).all isW = true ∧ ∃ b r,wrdX o = b :: r ∧ 97 ≤ b.toNat ∧ b.toNat ≤ 122:=by
 unfold wrdX
 (repeat' split) <;> exact ⟨by rfl,_,_,rfl,by decide,by decide⟩
theorem xkids_two {e:Xpr} (h:e.kids.length = 2):∃ x y,e.kids = [x,y]:=by
 match hk:e.kids,h with
 | [x,y],_=>exact ⟨x,y,rfl⟩
theorem mea_wid {s:Sch} (hr:schE s = 0) {c:Int} {x:Col} (hx:s.cols[c.toNat]? = some x) (hk:x.kind = 3):∀ w ∈ x.widths,1 ≤ w ∧ w ≤ 1000000:=by
 have h:=(schE_parts hr).2.2.2.1 _ x hx
 unfold colE at h
 split at h
 ·cases h
 ·split at h
  ·cases h
  ·split at h
   ·rename_i hk2
    exact widths_bd (meaE_parts (kindE_mea hk2 hk)).2.2.2.2.2
   ·exact absurd h (by assumption)
theorem rig_call {s:Sch} (hr:schE s = 0) {e:Xpr} (hg:RigE s e) (h1:¬ e.op = 1) (h2:¬ e.op = 2) (h3:¬ (6 ≤ e.op ∧ e.op ≤ 9)):e.name = [] ∧ e.kids = [] ∧ hdOk s e.op e.col e.dims ∧ mdOk s e.op e.num e.cols e.evt ∧ cndE s e.cnd = 0:=by
 obtain ⟨u1,u2,u3,u4,u5,u6,u7,u8⟩:=hg.unu
 have hop:=hg.op
 simp only [usNum,usName,usCol,usCols,usDims,usCnd,usEvt,pairP] at u1 u2 u3 u4 u5 u6 u7 u8
 have hc:=hg.cnd (by simp only [usCnd];omega)
 have nil:∀ {α:Type} {l:List α},l.length = 0 → l = []:=fun h=>List.eq_nil_of_length_eq_zero h
 have k0:e.kids = []:=nil (by omega)
 have n0:e.name = []:=nil (by omega)
 refine ⟨n0,k0,?_,?_,hc⟩
 ·unfold hdOk
  by_cases o3:e.op = 3
  ·rw [if_pos o3];exact ⟨by omega,nil (by omega)⟩
  ·rw [if_neg o3]
   have hcol:=hg.col (by simp only [usCol];omega)
   by_cases o10:e.op = 10
   ·rw [if_pos o10]
    have hd:=hg.dim
    have hpar:=hg.par
    unfold parB at hpar
    rw [if_neg h1,if_neg h2,if_neg (by omega),if_pos o10] at hpar
    simp only [Bool.and_eq_true] at hpar
    have hde:=of_decide_eq_true hpar.1
    refine ⟨fun hn=>?_,fun d hm=>?_,?_⟩
    ·rw [hn] at hde;simp [dimsE] at hde
    ·have hp:=hd d hm
     unfold pickE pkE at hp
     rw [if_pos hr] at hp
     have hb:=finS_bd hr d.col
     split at hp
     ·cases hp
     ·split at hp
      ·cases hp
      ·rename_i q1 q2
       refine ⟨?_,by omega,by omega⟩
       unfold finS at q1
       by_cases hcc:d.col < 1 ∨ (s.cols.length:Int) ≤ d.col
       ·rw [if_pos hcc] at q1;omega
       ·omega
    ·rcases hcol with ⟨_,h⟩ | h
     ·exact .inl h
     ·obtain ⟨a,b,_⟩:=isB_col h;exact .inr ⟨a,b⟩
   ·rw [if_neg o10]
    rcases hcol with ⟨h,_⟩ | h
    ·exact absurd h o10
    ·obtain ⟨a,b,_⟩:=isB_col h;exact ⟨⟨a,b⟩,nil (by omega)⟩
 ·unfold mdOk
  by_cases o11:e.op = 11
  ·rw [if_pos o11]
   have hpar:=hg.par
   unfold parB at hpar
   rw [if_neg h1,if_neg h2,if_neg (by omega),if_neg (by omega),if_pos o11] at hpar
   simp only [Bool.and_eq_true] at hpar
   have hte:=of_decide_eq_true hpar.2
   refine ⟨by omega,emp_zX (u7.resolve_left (by omega)),fun hn=>?_,fun c hm=>?_⟩
   ·rw [hn] at hte;simp [trmsE] at hte
   ·obtain ⟨a,b,_⟩:=isB_col (hg.trm c hm);exact ⟨a,b⟩
  ·rw [if_neg o11]
   have c0:e.cols = []:=nil (by omega)
   by_cases o12:e.op = 12
   ·rw [if_pos o12]
    exact ⟨by omega,c0,hg.evt o12⟩
   ·rw [if_neg o12]
    have e0:=emp_zX (u7.resolve_left (by omega))
    by_cases o13:e.op = 13
    ·rw [if_pos o13]
     have hpar:=hg.par
     unfold parB at hpar
     rw [if_neg h1,if_neg h2,if_neg (by omega),if_neg (by omega),if_neg o11,if_neg o12,if_pos o13] at hpar
     simp only [Bool.and_eq_true] at hpar
     obtain ⟨w,hw,he⟩:=List.any_eq_true.1 hpar.2
     have hwe:=of_decide_eq_true he
     obtain ⟨_,_,x,hx,hk⟩:=isB_col hpar.1
     rw [colAt_get hx] at hw
     have hb:=mea_wid hr hx hk w hw
     exact ⟨by omega,c0,e0⟩
    ·rw [if_neg o13]
     exact ⟨by omega,c0,e0⟩
end Go.Proofs.YtjmbhlgocikfiaaGreatDoor
