/- Rows within rows of one's own. -/
import Derived.Test.YtiphlhoclaogjabGreatDoorQE3
set_option linter.unusedSimpArgs false
set_option linter.unusedVariables false
set_option linter.unnecessarySimpa false
namespace Go.Av
open Go Go.RowKit
section ghost
variable {E:Env} {n:Nat} {θ:Th} {σ:St} {a:Act} {w:World}
def Dm (θ:Th) (i:Nat) (M:Nat → Option Nat):Th:=⟨θ.v,fun j=>if j = i then M else θ.N j⟩
theorem RX (θ:Th) (i:Nat) (M:Nat → Option Nat):(Dm θ i M).N i = M:=by simp [Dm]
theorem Hv (θ:Th) {i j:Nat} (M:Nat → Option Nat) (h:j ≠ i):(Dm θ i M).N j = θ.N j:=by simp [Dm,h]
theorem L6.reN (h:L6 E n θ σ a w) (i:Nat) (hni:∀ b,B3 σ.hp i = some b → Q5 b = false) (M:Nat → Option Nat):L6 E n (Dm θ i M) σ a w:=by
 have fpe:∀ {j:Nat} {b:C6} {k:Nat},B3 σ.hp j = some b → (FP (Dm θ i M) j b k ↔ FP θ j b k):=fun {j b k} hj=>by
  unfold FP
  by_cases e:j = i
  ·subst e
   rw [hni b hj]
   simp [Dm]
  ·rw [Hv _ _ e]
   rfl
 have le:(cx E θ σ w).le (cx E (Dm θ i M) σ w):=⟨Nat.le_refl _,fun j hj=>.inl rfl,fun j hj e' sz' v' l' hl=>⟨e',v',l',hl, .inr ⟨rfl,rfl,rfl⟩⟩,Nat.le_refl _,fun _ _ _=>rfl,fun k hk hu=>by
  rcases hu with hu | ⟨j,b,hj,hk'⟩
  ·exact .inl hu
  ·exact .inr ⟨j,b,hj,(fpe hj).1 hk'⟩⟩
 refine ⟨h.size,h.defers,h.fr,fun s x hs=>(h.slots s x hs).mono le,fun j b hj=>⟨(h.owns j b hj).1,?_⟩,fun j1 j2 b1 b2 k h1 h2 hk1 hk2=>h.apart j1 j2 b1 b2 k h1 h2 ((fpe h1).1 hk1) ((fpe h2).1 hk2),fun j b k hj hk=>h.mine j b k hj ((fpe hj).1 hk),h.X,h.base⟩
 by_cases e:j = i
 ·subst e
  have ho:=(h.owns j b hj).2
  have hnb:=hni b hj
  cases b with
  | bx τ l=>exact ho.mono (c':=cx E θ σ w) ⟨Nat.le_refl _,fun j hj=>.inl rfl,fun j hj e' sz' v' l' hl=>⟨e',v',l',hl, .inr ⟨rfl,rfl,rfl⟩⟩,Nat.le_refl _,fun _ _ _=>rfl,fun _ _ hu=>hu⟩ rfl (fun _=>rfl) (fun _ _=>rfl) |> fun ⟨b',arr,ty,q1,q2,q3,q4⟩=>⟨b',arr,ty,q1,q2,q3,fun j x y hx hy=>(q4 j x y hx hy).mono le⟩
  | row e1 sz1 v1 l1 =>
    obtain ⟨xs,q1,q2,q3,q4⟩:=ho
    refine ⟨xs,q1,q2,fun k el hk j x hx=>?_,fun hE=>?_⟩
    ·obtain ⟨y,hy,hi⟩:=q3 k el hk j x hx
     exact ⟨y,hy,hi.mono le.heap le.U⟩
    ·have:Q5 (.row e1 sz1 v1 l1) = true:=Nat.ble_eq ▸ hE
     rw [hnb] at this;cases this
  | map m =>
    obtain ⟨r,es,clock,q1,q2,q3,q4⟩:=ho
    exact ⟨r,es,clock,q1,q2,q3,fun j kx e hx he=>⟨(q4 j kx e hx he).1,(q4 j kx e hx he).2.mono le.heap le.U⟩⟩
  | it s p=>exact ho
 ·exact (h.owns j b hj).2.mono le rfl (fun k=>congrFun (Hv θ M e) k) fun _ _=>rfl
def PN (x:AV):AV → Prop
 | .own e _ l=>x = .v (.slice none 0 0) ∧ l = [] ∧ e < F8
 | y=>x = y
def y8:List AV → List AV → Prop
 | [],[]=>True
 | a :: r,b :: s=>PN a b ∧ y8 r s
 | _,_=>False
theorem y8.len:∀ {l m:List AV},y8 l m → l.length = m.length
 | [],[],_=>rfl
 | _ :: _,_ :: _,h=>congrArg (· + 1) h.2.len
theorem y8.get:∀ {l m:List AV},y8 l m → ∀ (j:Nat) y,m[j]? = some y → ∃ x,l[j]? = some x ∧ PN x y
 | [],[],_,j,y,h=>by simp at h
 | a :: r,b :: s,h,j,y,hj=>by
   cases j with
   | zero=>simp at hj;subst hj;exact ⟨a,rfl,h.1⟩
   | succ j=>simpa using h.2.get j y (by simpa using hj)
def Ex (l m:List (List AV)):Prop:=l.length = m.length ∧ ∀ (k:Nat) b,m[k]? = some b → ∃ a,l[k]? = some a ∧ y8 a b
theorem PO {α:Type} {f g:α → List AV} {l:List α} (h:∀ x ∈ l,y8 (f x) (g x)):Ex (l.map f) (l.map g):=by
 refine ⟨by simp,fun k b hb=>?_⟩
 rw [List.getElem?_map,Option.map_eq_some_iff] at hb
 obtain ⟨x,hx,rfl⟩:=hb
 exact ⟨f x,by rw [List.getElem?_map,hx];rfl,h x (List.mem_of_getElem? hx)⟩
def CK (F:Nat):Prop:=F = G0 ∨ F = Fh
theorem CK.le {F e:Nat} (h:CK F):G0 ≤ F + e:=by rcases h with rfl | rfl <;> (try unfold Fh G0) <;> omega
theorem CK.cell {F e:Nat} (h:CK F) (he:e < F8):FG (F + e) = e:=by
 rcases h with rfl | rfl
 ·unfold FG
  rw [Gm (by unfold F8 at he;unfold G0;omega),Bool.cond_false,Gn (Nat.le_add_right _ _),Bool.cond_true,Nat.add_sub_cancel_left]
 ·unfold FG
  rw [Gn (by unfold Fh;omega),Bool.cond_true]
  unfold Fh;omega
theorem PP {e:Nat} (he:e < F8):S8 (G0 + e) = false:=by
 cases hb:S8 (G0 + e) with
 | false=>rfl
 | true =>
   simp only [S8,Bool.or_eq_true,Bool.and_eq_true,Nat.ble_eq,Nat.blt_eq] at hb
   unfold F8 at he;unfold E9 G0 L9 Fh at hb;omega
theorem J5.to_nest {w:World} {g e F:Nat} {cur:Array Value} (h:J5 w g cur e) (he:e < F8) (hF:CK F):J5 w g cur (F + e):=by
 refine .inr (.inr (.inl ⟨by have:=hF.le (e:=e);unfold G0 at this;unfold E9;omega,DA hF.le,?_⟩))
 rw [hF.cell he]
 rcases h with ⟨_,h⟩ | ⟨h,_⟩ | ⟨h,_⟩ | ⟨h,_⟩
 ·exact h
 ·omega
 ·unfold F8 at he;unfold E9 at h;omega
 ·rw [AG (X2 he)] at h;cases h
theorem J5.of_nest {w:World} {g e F:Nat} {cur:Array Value} (h:J5 w g cur (F + e)) (he:e < F8) (hF:CK F):J5 w g cur e:=by
 have:=hF.le (e:=e)
 refine .inl ⟨by unfold F8 at he;unfold E9;omega,?_⟩
 rcases h with ⟨h,_⟩ | ⟨_,h,_⟩ | ⟨_,_,h⟩ | ⟨h,_⟩
 ·unfold G0 at this;unfold E9 at h;omega
 ·unfold G0 at this;unfold E9 at h;omega
 ·rwa [hF.cell he] at h
 ·rw [DA this] at h;cases h
theorem Fb {i e sz v F:Nat} {l l':List (List AV)} (hF:CK F) (hb:B3 σ.hp i = some (.row e sz v l)) (hi:F = Fh → E.n0 ≤ i) (he:e < F8) (hl:Ex l l'):St.le E n σ (σ.set i (.row (F + e) sz v l')):=by
 rintro a w ⟨θ,h0⟩
 have h:=h0.reN i (fun b hb2=>by rw [hb] at hb2;cases hb2;exact H7 (M6 he)) (fun _=>none)
 have hb0:=hb
 obtain ⟨_,xs,ho,hsz,him,_⟩:=h.owns i _ hb
 generalize hθ:Dm θ i (fun _=>none) = θ1 at h ho him
 have hN:∀ k,θ1.N i k = none:=fun k=>by rw [← hθ,RX]
 have hsl:∃ x m c,θ1 i = .slice x m c:=by
  rcases ho.2 with ⟨h1,_⟩ | ⟨g,cap,cur,h1,_⟩ <;> exact ⟨_,_,_,h1⟩
 have ho2:N9 w (F + e) sz (θ1 i) l'.length xs:=by
  rw [← hl.1]
  exact ⟨ho.1,ho.2.imp id fun ⟨g,cap,cur,h1,h2,h3,r⟩=>⟨g,cap,cur,h1, .ge hF.le,h3.to_nest he hF,r⟩⟩
 have ht:=h.turn (v':=θ1 i) (b':=.row (F + e) sz v l') (w':=w) (hkp:=fun e2 sz2 v2 l2 h1 h2 h3=>by
  cases h1
  rcases hF with rfl | rfl
  ·rw [PP he] at h2;cases h2
  ·exact absurd (hi rfl) (by omega)) (hne:=fun _=>.inr hN) hb rfl rfl rfl (Nat.le_refl _) (fun _ _ _=>rfl) (fun k hk=>.inl hk) ⟨hsl,e,v,l,rfl, .inr ⟨rfl,hl.1,rfl⟩⟩ fun le=>by
  refine ⟨xs,by simp only [cx,D4];exact ho2,fun el hel=>?_,fun k el hk j x hx=>?_,fun _=>⟨fun k p hk=>?_,fun k el hk j e' sz' m hj=>?_⟩⟩
  ·obtain ⟨k,hk⟩:=List.mem_iff_getElem?.1 hel
   obtain ⟨a0,ha,hn⟩:=hl.2 k el hk
   rw [← hn.len];exact hsz a0 (List.mem_of_getElem? ha)
  ·obtain ⟨a0,ha,hn⟩:=hl.2 k el hk
   obtain ⟨x0,hx0,h1⟩:=hn.get j x hx
   obtain ⟨y,hy,hz⟩:=him k a0 ha j x0 hx0
   refine ⟨y,hy,?_⟩
   cases x with
   | own e' sz' m=>exact .own e' sz' m y
   | _=>simp only [PN] at h1;subst h1;exact hz.mono le.heap le.U
  ·have hk':θ1.N i k = some p:=hk
   rw [hN k] at hk';cases hk'
  ·obtain ⟨a0,ha,hn⟩:=hl.2 k el hk
   obtain ⟨x0,hx0,rfl,rfl,he'⟩:=hn.get j _ hj
   obtain ⟨y,hy,hz⟩:=him k a0 ha j _ hx0
   cases hz
   rcases ho.2 with ⟨_,hn0⟩ | ⟨g,cap,cur,h1,h2,h3,h4⟩
   ·rw [List.eq_nil_of_length_eq_zero hn0] at ha;simp at ha
   ·have hown:=ho
    have h1':θ1 i = .slice (some ⟨g,0,none⟩) l.length cap:=h1
    rw [show (cx E θ1 σ w).θ i = θ1 i from rfl,h1'] at hown
    have hcell:=hown.cells (g:=g) rfl _ _ hy
    rw [addr_add,Nat.zero_add] at hcell
    exact ⟨g,l.length,cap, .slice none 0 0,[],by simp only [cx,D4];exact h1',hcell,⟨by simp, .inl ⟨rfl,rfl⟩⟩,he',(fun el hel=>by cases hel),(fun q el' hq=>by simp at hq),fun b hb=>by cases hb⟩
 exact ⟨_,ht⟩
def Ix:AV → AV
 | .own _ sz l=>.sl sz l
 | x=>x
theorem CM {i e sz v F:Nat} {l l':List (List AV)} (hF:CK F) (hb:B3 σ.hp i = some (.row (F + e) sz v l)) (he:e < F8) (hl:l' = l.map (·.map Ix)):St.le E n σ (σ.set i (.row e sz v l')):=by
 subst hl
 rintro a w ⟨θ,h⟩
 obtain ⟨hnx,xs,ho,hsz,him,hne⟩:=h.owns i _ hb
 have hE:=hF.le (e:=e)
 have hN:Q5 (.row (F + e) sz v l) = true:=Gn hE
 have hsl:∃ x m c,θ i = .slice x m c:=by
  rcases ho.2 with ⟨h1,_⟩ | ⟨g,cap,cur,h1,_⟩ <;> exact ⟨_,_,_,h1⟩
 have ho2:N9 w e sz (θ i) (l.map (·.map Ix)).length xs:=by
  rw [List.length_map]
  exact ⟨ho.1,ho.2.imp id fun ⟨g,cap,cur,h1,h2,h3,r⟩=>⟨g,cap,cur,h1, .lt (X2 he),h3.of_nest he hF,r⟩⟩
 have ht:=h.turn (v':=θ i) (b':=.row e sz v (l.map (·.map Ix))) (w':=w) (hkp:=fun e2 sz2 v2 l2 h1 h2 h3=>by
  cases h1
  rw [BU he] at h2;cases h2) (hne:=fun h=>by rw [H7 (M6 he)] at h;cases h) hb rfl rfl rfl (Nat.le_refl _) (fun _ _ _=>rfl) (fun k hk=>.inl hk) ⟨hsl,F + e,v,l,rfl, .inr ⟨rfl,by simp,rfl⟩⟩ fun le=>by
  refine ⟨xs,by simp only [cx,D4];exact ho2,fun el hel=>?_,fun k el hk j x hx=>?_, .lt (M6 he)⟩
  ·obtain ⟨e0,he0,rfl⟩:=List.mem_map.1 hel
   rw [List.length_map];exact hsz e0 he0
  ·rw [List.getElem?_map,Option.map_eq_some_iff] at hk
   obtain ⟨el0,hk0,rfl⟩:=hk
   rw [List.getElem?_map,Option.map_eq_some_iff] at hx
   obtain ⟨x0,hx0,rfl⟩:=hx
   obtain ⟨y,hy,hz⟩:=him k el0 hk0 j x0 hx0
   refine ⟨y,hy,?_⟩
   cases x0 with
   | own e' sz' m =>
     obtain ⟨g,m',cap,y',ys,q1,q2,q3,q4,q5,q6,q7⟩:=(hne hE).2 k el0 hk0 j e' sz' m hx0
     have hown:=ho
     have q1':θ i = .slice (some ⟨g,0,none⟩) m' cap:=q1
     rw [show (cx E θ σ w).θ i = θ i from rfl,q1'] at hown
     have hcell:=hown.cells (g:=g) rfl _ _ hy
     rw [addr_add,Nat.zero_add] at hcell
     rw [hcell] at q2
     cases q2
     simp only [Ix]
     rcases q3.2 with ⟨h1,h2⟩ | ⟨g2,cap2,cur2,h1,_,h3,h4,h5,h6,h7⟩
     ·rw [h1,List.eq_nil_of_length_eq_zero h2];exact .slnil sz'
     ·have q3':=q3
      rw [h1] at q3' ⊢
      obtain ⟨hgg,hNg⟩:=q7 g2 (by rw [h1];rfl)
      have hnu:¬ (cx E (T6 θ i (θ i)) (σ.set i (.row e sz v (l.map (·.map Ix)))) w).U g2:=by
       rintro (hx | ⟨j2,b2,hj2,hk2⟩)
       ·exact (h.mine i _ g2 hb (.inr ⟨hN,_,hNg⟩)).1 hx
       ·simp only [cx,St.set,F2] at hj2
        by_cases e2:i = j2
        ·subst e2
         rw [if_pos rfl] at hj2
         cases hj2
         rcases hk2 with hk2 | ⟨hk2,_⟩
         ·simp only [cx,D4] at hk2
          rw [q1'] at hk2
          simp [fp] at hk2
          exact hgg hk2.symm
         ·rw [H7 (M6 he)] at hk2;cases hk2
        ·rw [if_neg e2] at hj2
         refine e2 (h.apart i j2 _ b2 g2 hb hj2 (.inr ⟨hN,_,hNg⟩) ?_)
         unfold FP at hk2 ⊢
         simpa only [cx,M0 _ _ (Ne.symm e2),Gl] using hk2
      have hget:∀ i,i < m.length → ∀ j,j < sz' → ∃ y,ys[i * sz' + j]? = some y:=by
       intro i hi j hj
       have h1:(i + 1) * sz' ≤ m.length * sz':=Nat.mul_le_mul_right _ hi
       rw [Nat.add_mul,Nat.one_mul] at h1
       have h2:i * sz' + j < ys.length:=by rw [q3.1];omega
       exact ⟨_,List.getElem?_eq_getElem h2⟩
      refine .sl sz' m ⟨g2,0,none⟩ cap2 (fun i j=>ys.getD (i * sz' + j) undef) h4 h5 (fun _ _=>hnu) q5 (fun i hi j hj=>?_) (fun k el hk j x hx=>?_)
      ·obtain ⟨y,hy⟩:=hget i hi j hj
       have:=q3'.cells (g:=g2) rfl _ _ hy
       rw [addr_add]
       have e:ys.getD (i * sz' + j) undef = y:=by rw [List.getD,hy];rfl
       rw [e]
       show w.cell? _ = _
       have this:w.cell? _ = _:=this
       simpa [addr_add] using this
      ·obtain ⟨y,hy,him⟩:=q6 k el hk j x hx
       have e:ys.getD (k * sz' + j) undef = y:=by rw [List.getD,hy];rfl
       rw [e]
       exact him.mono le.heap le.U
   | _=>exact hz.mono le.heap le.U
 exact ⟨_,ht⟩
theorem L6.take {i ver k off e sz e' sz':Nat} {l m:List (List AV)} {el:List AV} (h:L6 E n θ σ a w) (hb:B3 σ.hp i = some (.row e sz ver l)) (hE:G0 ≤ e) (hk:l[k]? = some el) (hjo:el[off]? = some (.own e' sz' m)) :
  ∃ g n' cap y θ',θ i = .slice (some ⟨g,0,none⟩) n' cap ∧ w.cell? ⟨g,k * sz + off,none⟩ = some y ∧ θ' σ.nx = y ∧
   L6 E n θ' ⟨σ.sl,σ.nx + 1,(σ.nx,some (.row e' sz' 0 m)) :: (i,some (.row e sz ver (l.set k (el.set off .any)))) :: σ.hp⟩ a w:=by
 obtain ⟨hnx,xs,ho,hsz,him,hne⟩:=h.owns i _ hb
 obtain ⟨hN1,hN2⟩:=hne hE
 obtain ⟨g,n',cap,y,ys,q1,q2,q3,q4,q5,q6,q7⟩:=hN2 k el hk off e' sz' m hjo
 have q1':θ i = .slice (some ⟨g,0,none⟩) n' cap:=q1
 have hkl:k < l.length:=(List.getElem?_eq_some_iff.1 hk).1
 have hoff:off < sz:=by rw [← hsz el (List.mem_of_getElem? hk)];exact (List.getElem?_eq_some_iff.1 hjo).1
 have hN:Q5 (.row e sz ver l) = true:=Gn hE
 let θ':Th:=⟨fun j=>if j = σ.nx then y else θ j,fun j b=>if j = i then (if fp y = some b then none else θ.N i b) else θ.N j b⟩
 let b1:C6:=.row e' sz' 0 m
 let b2:C6:=.row e sz ver (l.set k (el.set off .any))
 let σ':St:=⟨σ.sl,σ.nx + 1,(σ.nx,some b1) :: (i,some b2) :: σ.hp⟩
 have hnx':i < σ.nx:=hnx
 have look':∀ j,B3 σ'.hp j = if σ.nx = j then some b1 else if i = j then some b2 else B3 σ.hp j:=fun j=>by simp only [σ',F2]
 have hθ1:∀ j,j < σ.nx → θ' j = θ j:=fun j hj=>by simp only [θ',if_neg (Nat.ne_of_lt hj)]
 have hθ2:θ' σ.nx = y:=by simp only [θ',if_pos]
 have hNi:∀ b p,θ'.N i b = some p → θ.N i b = some p:=fun b p hp=>by
  simp only [θ',if_pos] at hp
  split at hp
  ·cases hp
  ·exact hp
 have hNo:∀ j,j ≠ i → θ'.N j = θ.N j:=fun j hj=>by simp only [θ',if_neg hj]
 -- the blocks under the new names
 have fp1:∀ {q:Nat},FP θ' σ.nx b1 q → fp y = some q:=fun hq=>by
  rcases hq with hq | ⟨hq,_⟩
  ·rwa [hθ2] at hq
  ·have:Q5 b1 = false:=H7 (M6 q4)
   rw [this] at hq;cases hq
 have fp1i:∀ {q:Nat},fp y = some q → FP θ i (.row e sz ver l) q:=fun hq=>.inr ⟨hN,_,(q7 _ hq).2⟩
 have fp2:∀ {q:Nat},FP θ' i b2 q → FP θ i (.row e sz ver l) q ∧ fp y ≠ some q:=fun {q} hq=>by
  rcases hq with hq | ⟨_,p,hp⟩
  ·rw [hθ1 i hnx'] at hq
   refine ⟨.inl hq,fun hy=>(q7 q hy).1 ?_⟩
   rw [q1'] at hq
   simp [fp] at hq
   exact hq.symm
  ·refine ⟨.inr ⟨hN,p,hNi q p hp⟩,fun hy=>?_⟩
   simp only [θ',if_pos,hy] at hp
   cases hp
 have fp3:∀ {j:Nat} {b:C6} {q:Nat},j ≠ i → j < σ.nx → FP θ' j b q → FP θ j b q:=fun hj hlt hq=>by
  unfold FP at hq ⊢
  rwa [hθ1 _ hlt,hNo _ hj] at hq
 have le:(cx E θ σ w).le (cx E θ' σ' w):=by
  refine ⟨Nat.le_succ _,fun j hj=>.inl (hθ1 j hj),fun j hj e2 sz2 v2 l2 hl=>?_,Nat.le_refl _,fun _ _ _=>rfl,fun q _ hu=>?_⟩
  ·have hj':j < σ.nx:=hj
   have hl':B3 σ'.hp j = some (.row e2 sz2 v2 l2):=hl
   rw [look',if_neg (by omega)] at hl'
   by_cases ei:i = j
   ·subst ei
    rw [if_pos rfl] at hl'
    have hl':some (C6.row e sz ver (l.set k (el.set off .any))) = some (.row e2 sz2 v2 l2):=hl'
    cases hl'
    exact ⟨e,ver,l,hb, .inr ⟨rfl,by simp,hθ1 i hnx'⟩⟩
   ·rw [if_neg ei] at hl'
    exact ⟨e2,v2,l2,hl', .inr ⟨rfl,rfl,hθ1 j hj'⟩⟩
  ·rcases hu with hu | ⟨j,b,hj,hq⟩
   ·exact .inl hu
   ·have hj':B3 σ'.hp j = some b:=hj
    rw [look'] at hj'
    by_cases en:σ.nx = j
    ·subst en
     rw [if_pos rfl] at hj'
     cases hj'
     exact .inr ⟨i,_,hb,fp1i (fp1 hq)⟩
    ·rw [if_neg en] at hj'
     by_cases ei:i = j
     ·subst ei
      rw [if_pos rfl] at hj'
      cases hj'
      exact .inr ⟨i,_,hb,(fp2 hq).1⟩
     ·rw [if_neg ei] at hj'
      exact .inr ⟨j,b,hj',fp3 (Ne.symm ei) (h.owns j b hj').1 hq⟩
 refine ⟨g,n',cap,y,θ',q1',q2,hθ2,h.size,h.defers,h.fr,fun s x hs=>(h.slots s x hs).mono le,fun j b hj=>?_,fun j1 j2 c1 c2 q h1 h2 hq1 hq2=>?_,fun j b q hj hq=>?_,h.X,⟨Nat.le_succ_of_le h.base.1,fun j hj=>?_⟩⟩
 ·have hj':B3 σ'.hp j = some b:=hj
  rw [look'] at hj'
  by_cases en:σ.nx = j
  ·subst en
   rw [if_pos rfl] at hj'
   cases hj'
   refine ⟨Nat.lt_succ_self _,ys,?_,q5,fun k el hk j x hx=>?_, .lt (M6 q4)⟩
   ·show N9 w e' sz' (θ' σ.nx) m.length ys
    rw [hθ2];exact q3
   ·obtain ⟨z,hz,hi⟩:=q6 k el hk j x hx
    exact ⟨z,hz,hi.mono le.heap le.U⟩
  ·rw [if_neg en] at hj'
   by_cases ei:i = j
   ·subst ei
    rw [if_pos rfl] at hj'
    cases hj'
    refine ⟨Nat.lt_succ_of_lt hnx',xs,?_,fun el2 hel2=>?_,fun k2 el2 hk2 j2 x2 hx2=>?_,fun _=>⟨fun b p hp=>hN1 b p (hNi b p hp),fun k2 el2 hk2 j2 e2 sz2 m2 hj2=>?_⟩⟩
    ·show N9 w e sz (θ' i) _ xs
     rw [hθ1 i hnx',List.length_set];exact ho
    ·rcases List.mem_or_eq_of_mem_set hel2 with h2 | h2
     ·exact hsz _ h2
     ·rw [h2,List.length_set];exact hsz el (List.mem_of_getElem? hk)
    ·by_cases ek:k = k2
     ·subst ek
      rw [List.getElem?_set_self hkl] at hk2
      cases hk2
      by_cases ej:off = j2
      ·subst ej
       obtain ⟨z,hz,hi⟩:=him k el hk off _ hjo
       have hlt:off < el.length:=(List.getElem?_eq_some_iff.1 hjo).1
       rw [List.getElem?_set_self hlt] at hx2
       cases hx2
       exact ⟨z,hz, .any _⟩
      ·rw [List.getElem?_set_ne ej] at hx2
       obtain ⟨z,hz,hi⟩:=him k el hk j2 x2 hx2
       exact ⟨z,hz,hi.mono le.heap le.U⟩
     ·rw [List.getElem?_set_ne ek] at hk2
      obtain ⟨z,hz,hi⟩:=him k2 el2 hk2 j2 x2 hx2
      exact ⟨z,hz,hi.mono le.heap le.U⟩
    ·obtain ⟨el0,g1,g2,g3⟩:=NW (P:=fun q=>q ≠ k * sz + off) hk hsz hoff (av:=.any) rfl (fun q hq=>hq) k2 el2 hk2 j2 e2 sz2 m2 hj2
     obtain ⟨g',n2,cap2,y2,ys2,r1,r2,r3,r4,r5,r6,r7⟩:=hN2 k2 el0 g1 j2 e2 sz2 m2 g2
     refine ⟨g',n2,cap2,y2,ys2,(hθ1 i hnx').trans r1,r2,r3,r4,r5,fun q el' hq j' x hx=>?_,fun b hb2=>⟨(r7 b hb2).1,?_⟩⟩
     ·obtain ⟨z,hz,hi⟩:=r6 q el' hq j' x hx
      exact ⟨z,hz,hi.mono le.heap le.U⟩
     ·show θ'.N i b = _
      have h3:=(r7 b hb2).2
      have hne2:fp y ≠ some b:=fun hy=>by
       have h4:=(q7 b hy).2
       rw [h4] at h3
       exact g3 (Option.some.inj h3).symm
      simp only [θ',if_pos,if_neg hne2]
      exact h3
   ·rw [if_neg ei] at hj'
    obtain ⟨h1,h2⟩:=h.owns j b hj'
    exact ⟨Nat.lt_succ_of_lt h1,h2.mono le (hθ1 j h1) (fun q=>congrFun (hNo j (Ne.symm ei)) q) fun _ _=>rfl⟩
 ·have h1':B3 σ'.hp j1 = some c1:=h1
  have h2':B3 σ'.hp j2 = some c2:=h2
  rw [look'] at h1' h2'
  by_cases n1:σ.nx = j1 <;> by_cases n2:σ.nx = j2
  ·omega
  ·subst n1
   rw [if_pos rfl] at h1'
   rw [if_neg n2] at h2'
   cases h1'
   have hy:=fp1 hq1
   by_cases ei:i = j2
   ·subst ei
    rw [if_pos rfl] at h2'
    cases h2'
    exact absurd hy (fp2 hq2).2
   ·rw [if_neg ei] at h2'
    exact absurd (h.apart i j2 _ c2 q hb h2' (fp1i hy) (fp3 (Ne.symm ei) (h.owns j2 c2 h2').1 hq2)) ei
  ·subst n2
   rw [if_pos rfl] at h2'
   rw [if_neg n1] at h1'
   cases h2'
   have hy:=fp1 hq2
   by_cases ei:i = j1
   ·subst ei
    rw [if_pos rfl] at h1'
    cases h1'
    exact absurd hy (fp2 hq1).2
   ·rw [if_neg ei] at h1'
    exact absurd (h.apart i j1 _ c1 q hb h1' (fp1i hy) (fp3 (Ne.symm ei) (h.owns j1 c1 h1').1 hq1)) ei
  ·rw [if_neg n1] at h1'
   rw [if_neg n2] at h2'
   by_cases e1:i = j1 <;> by_cases e2:i = j2
   ·omega
   ·subst e1
    rw [if_pos rfl] at h1'
    rw [if_neg e2] at h2'
    cases h1'
    exact h.apart i j2 _ c2 q hb h2' (fp2 hq1).1 (fp3 (Ne.symm e2) (h.owns j2 c2 h2').1 hq2)
   ·subst e2
    rw [if_pos rfl] at h2'
    rw [if_neg e1] at h1'
    cases h2'
    exact h.apart j1 i c1 _ q h1' hb (fp3 (Ne.symm e1) (h.owns j1 c1 h1').1 hq1) (fp2 hq2).1
   ·rw [if_neg e1] at h1'
    rw [if_neg e2] at h2'
    exact h.apart j1 j2 c1 c2 q h1' h2' (fp3 (Ne.symm e1) (h.owns j1 c1 h1').1 hq1) (fp3 (Ne.symm e2) (h.owns j2 c2 h2').1 hq2)
 ·have hj':B3 σ'.hp j = some b:=hj
  rw [look'] at hj'
  by_cases en:σ.nx = j
  ·subst en
   rw [if_pos rfl] at hj'
   cases hj'
   exact h.mine i _ q hb (fp1i (fp1 hq))
  ·rw [if_neg en] at hj'
   by_cases ei:i = j
   ·subst ei
    rw [if_pos rfl] at hj'
    cases hj'
    exact h.mine i _ q hb (fp2 hq).1
   ·rw [if_neg ei] at hj'
    exact h.mine j b q hj' (fp3 (Ne.symm ei) (h.owns j b hj').1 hq)
 ·have hn0:=h.base.1
  rw [hθ1 j (by omega)]
  refine (h.base.2 j hj).imp id fun ⟨h1,h2⟩=>⟨h1,fun ⟨e2,sz2,v2,l2,hl,hkk⟩=>h2 ?_⟩
  have hl':B3 σ'.hp j = some (.row e2 sz2 v2 l2):=hl
  rw [look',if_neg (by omega)] at hl'
  by_cases ei:i = j
  ·subst ei
   rw [if_pos rfl] at hl'
   have hl':some (C6.row e sz ver (l.set k (el.set off .any))) = some (.row e2 sz2 v2 l2):=hl'
   cases hl'
   exact ⟨_,_,_,_,hb,hkk⟩
  ·rw [if_neg ei] at hl'
   exact ⟨_,_,_,_,hl',hkk⟩
theorem L6.give {i ver k off e sz e' sz' m vm g n' cap:Nat} {l l2:List (List AV)} {el:List AV} {w':World} {cur:Array Value} (h:L6 E n θ σ a w) (hb:B3 σ.hp i = some (.row e sz ver l)) (hE:G0 ≤ e) (hk:l[k]? = some el) (hoff:off < sz)
  (hm:B3 σ.hp m = some (.row e' sz' vm l2)) (he':e' < F8) (hmi:m ≠ i) (hθ:θ i = .slice (some ⟨g,0,none⟩) n' cap) (hg:J5 w g cur e) (hbd:k * sz + off < l.length * sz) (hw:w' = w.setRow g (cur.setIfInBounds (k * sz + off) (θ m))) :
  ∃ θ',L6 E n θ' ⟨σ.sl,σ.nx,(m,none) :: (i,some (.row e sz ver (l.set k (el.set off (.own e' sz' l2))))) :: σ.hp⟩ a w':=by
 obtain ⟨hnx,xs,ho,hsz,him,hne⟩:=h.owns i _ hb
 obtain ⟨hnm,ys,hom,hszm,himm,_⟩:=h.owns m _ hm
 obtain ⟨hN1,hN2⟩:=hne hE
 have hkl:k < l.length:=(List.getElem?_eq_some_iff.1 hk).1
 have hN:Q5 (.row e sz ver l) = true:=Gn hE
 have hos:w'.os = w.os:=by rw [hw];rfl
 have hsize:w'.heap.size = w.heap.size:=by rw [hw];simp
 have hh:∀ q,q ≠ g → w'.heap[q]? = w.heap[q]?:=fun q hq=>by rw [hw];exact setRow_other w g q _ hq
 have hcs:∀ q,q ≠ k * sz + off → w'.cell? ⟨g,q,none⟩ = w.cell? ⟨g,q,none⟩:=fun q hq=>by rw [hw];exact Kq hg q hq
 let P0:=k * sz + off
 let θ':Th:=⟨θ.v,fun j b=>if j = i then (if fp (θ m) = some b then some P0 else θ.N i b) else θ.N j b⟩
 let b2:C6:=.row e sz ver (l.set k (el.set off (.own e' sz' l2)))
 let σ':St:=⟨σ.sl,σ.nx,(m,none) :: (i,some b2) :: σ.hp⟩
 have look':∀ j,B3 σ'.hp j = if m = j then none else if i = j then some b2 else B3 σ.hp j:=fun j=>by simp only [σ',F2]
 have hNo:∀ j,j ≠ i → θ'.N j = θ.N j:=fun j hj=>by simp only [θ',if_neg hj]
 have hmb:Q5 (.row e' sz' vm l2) = false:=H7 (M6 he')
 have fp2:∀ {q:Nat},FP θ' i b2 q → FP θ i (.row e sz ver l) q ∨ fp (θ m) = some q:=fun {q} hq=>by
  rcases hq with hq | ⟨_,p,hp⟩
  ·exact .inl (.inl hq)
  ·simp only [θ',if_pos] at hp
   split at hp
   ·rename_i hq;exact .inr hq
   ·exact .inl (.inr ⟨hN,p,hp⟩)
 have fp3:∀ {j:Nat} {b:C6} {q:Nat},j ≠ i → FP θ' j b q → FP θ j b q:=fun hj hq=>by
  unfold FP at hq ⊢
  rwa [hNo _ hj] at hq
 have hgi:FP θ i (.row e sz ver l) g:=.inl (by rw [hθ];rfl)
 have hgm:∀ q,fp (θ m) = some q → q ≠ g:=fun q hq e2=>hmi (h.apart m i _ _ q hm hb (.inl hq) (by rw [e2];exact hgi))
 have le:(cx E θ σ w).le (cx E θ' σ' w'):=by
  refine ⟨Nat.le_refl _,fun j hj=>.inl rfl,fun j hj e2 sz2 v2 l3 hl=>?_,by rw [show (cx E θ' σ' w').w = w' from rfl,hsize];exact Nat.le_refl _,fun q hq hu=>hh q fun e2=>hu (.inr ⟨i,_,hb,by rw [e2];exact hgi⟩),fun q _ hu=>?_⟩
  ·have hl':B3 σ'.hp j = some (.row e2 sz2 v2 l3):=hl
   rw [look'] at hl'
   by_cases em:m = j
   ·rw [if_pos em] at hl';cases hl'
   ·rw [if_neg em] at hl'
    by_cases ei:i = j
    ·subst ei
     rw [if_pos rfl] at hl'
     have hl':some (C6.row e sz ver (l.set k (el.set off (.own e' sz' l2)))) = some (.row e2 sz2 v2 l3):=hl'
     cases hl'
     exact ⟨e,ver,l,hb, .inr ⟨rfl,by simp,rfl⟩⟩
    ·rw [if_neg ei] at hl'
     exact ⟨e2,v2,l3,hl', .inr ⟨rfl,rfl,rfl⟩⟩
  ·rcases hu with hu | ⟨j,b,hj,hq⟩
   ·exact .inl hu
   ·have hj':B3 σ'.hp j = some b:=hj
    rw [look'] at hj'
    by_cases em:m = j
    ·rw [if_pos em] at hj';cases hj'
    ·rw [if_neg em] at hj'
     by_cases ei:i = j
     ·subst ei
      rw [if_pos rfl] at hj'
      cases hj'
      rcases fp2 hq with h1 | h1
      ·exact .inr ⟨i,_,hb,h1⟩
      ·exact .inr ⟨m,_,hm, .inl h1⟩
     ·rw [if_neg ei] at hj'
      exact .inr ⟨j,b,hj',fp3 (Ne.symm ei) hq⟩
 have hbx:∀ {j:Nat} {b:C6} {q:Nat},j ≠ i → B3 σ.hp j = some b → FP θ j b q → q ≠ g:=fun hji hj hq e2=>hji (h.apart _ i _ _ _ hj hb hq (by rw [e2];exact hgi))
 refine ⟨θ',h.size,h.defers,⟨hos.trans h.fr.os,by rw [hw];exact h.fr.tape,by rw [hw];exact h.fr.output,by rw [hsize];exact h.fr.size,fun q hq hO=>?_⟩,fun s x hs=>(h.slots s x hs).mono le,fun j b hj=>?_,fun j1 j2 c1 c2 q h1 h2 hq1 hq2=>?_,fun j b q hj hq=>?_,h.X,⟨h.base.1,fun j hj=>?_⟩⟩
 ·rw [hh q fun e2=>?_]
  ·exact h.fr.block q hq hO
  ·rcases (h.mine i _ g hb hgi).2 with h2 | h2
   ·exact hO (e2 ▸ h2)
   ·omega
 ·have hj':B3 σ'.hp j = some b:=hj
  rw [look'] at hj'
  by_cases em:m = j
  ·rw [if_pos em] at hj';cases hj'
  ·rw [if_neg em] at hj'
   by_cases ei:i = j
   ·subst ei
    rw [if_pos rfl] at hj'
    cases hj'
    have hxs:xs[P0]? = some (xs[P0]'(by rw [ho.1];exact hbd)):=List.getElem?_eq_getElem _
    refine ⟨hnx,xs.set P0 (θ m),?_,fun el2 hel2=>?_,fun k2 el2 hk2 j2 x2 hx2=>?_,fun _=>⟨fun b p hp=>?_,fun k2 el2 hk2 j2 e2 sz2 m2 hj2=>?_⟩⟩
    ·show N9 w' e sz (θ i) _ _
     refine ⟨by rw [List.length_set,List.length_set];exact ho.1,?_⟩
     rcases ho.2 with ⟨hn,_⟩ | ⟨g',cap',cur',r1,r2,r3,r4,r5,r6,r7⟩
     ·rw [show (cx E θ σ w).θ i = θ i from rfl,hθ] at hn;cases hn
     ·have r1':θ i = .slice (some ⟨g',0,none⟩) l.length cap':=r1
      have eg:g' = g:=by rw [hθ] at r1';injection r1' with e1 e2;injection e1 with e1;injection e1 with e1;exact e1.symm
      subst eg
      have ec:cur' = cur:=by
       obtain ⟨_,_,s1,_⟩:=r3.some
       obtain ⟨_,_,s2,_⟩:=hg.some
       have s1':w.heap[g']? = _:=s1
       rw [s2] at s1'
       injection s1' with s3
       injection s3 with s3
       exact s3.symm
      subst ec
      have hg':J5 w' g' (cur'.setIfInBounds (k * sz + off) (θ m)) e:=by rw [hw];exact hg.set
      exact .inr ⟨g',cap',cur'.setIfInBounds (k * sz + off) (θ m),by rw [List.length_set];exact r1', .ge hE,hg',by rw [List.length_set];exact r4,r5,by simp [r6],by rw [List.length_set,Array.toList_setIfInBounds, ← r7,List.take_set]⟩
    ·rcases List.mem_or_eq_of_mem_set hel2 with h2 | h2
     ·exact hsz _ h2
     ·rw [h2,List.length_set];exact hsz el (List.mem_of_getElem? hk)
    ·obtain ⟨z,hz,hR⟩:=EN (R:=fun x y=>∃ y0,Im (cx E θ σ w).U w x y0 ∧ y = y0) (v:=θ m) hk hsz ho.1 hoff (fun k el hk j x hx=>by
      obtain ⟨y,hy,hi⟩:=him k el hk j x hx
      exact ⟨y,hy,y,hi,rfl⟩) ⟨θ m, .own e' sz' l2 _,rfl⟩ k2 el2 hk2 j2 x2 hx2
     obtain ⟨y0,hi,rfl⟩:=hR
     exact ⟨z,hz,hi.mono le.heap le.U⟩
    ·show b < w'.heap.size
     rw [hsize]
     have hp':θ'.N i b = some p:=hp
     simp only [θ',if_pos] at hp'
     split at hp'
     ·rename_i hq;exact (h.owns m _ hm).2.lt (.inl hq)
     ·exact hN1 b p hp'
    ·by_cases ek:k = k2 ∧ off = j2
     ·obtain ⟨rfl,rfl⟩:=ek
      rw [List.getElem?_set_self hkl] at hk2
      cases hk2
      have hlt:off < el.length:=by rw [hsz el (List.mem_of_getElem? hk)];exact hoff
      rw [List.getElem?_set_self hlt] at hj2
      cases hj2
      refine ⟨g,n',cap,θ m,ys,hθ,?_,⟨hom.1,hom.2.imp id fun ⟨p,cp,cur2,r1,r2,r3,r4⟩=>⟨p,cp,cur2,r1, .lt (X2 he'),r3.mono (hh p (hgm p (by rw [show θ m = (cx E θ σ w).θ m from rfl,r1];rfl))),r4⟩⟩,he',hszm,fun q el' hq j' x hx=>?_,fun b hb2=>⟨hgm b hb2,?_⟩⟩
      ·show w'.cell? _ = _
       obtain ⟨t,fz,hgg,_⟩:=hg.some
       rw [hw,K0 (setRow_heap w g cur _ t _ hgg)]
       have hcur:k * sz + off < cur.size:=by
        rcases ho.2 with ⟨hn,_⟩ | ⟨g',cap',cur',r1,r2,r3,r4,r5,r6,r7⟩
        ·rw [show (cx E θ σ w).θ i = θ i from rfl,hθ] at hn;cases hn
        ·have r1':θ i = .slice (some ⟨g',0,none⟩) l.length cap':=r1
         have eg:g' = g:=by rw [hθ] at r1';injection r1' with e1 e2;injection e1 with e1;injection e1 with e1;exact e1.symm
         subst eg
         obtain ⟨_,_,s1,_⟩:=r3.some
         have s1':w.heap[g']? = _:=s1
         rw [hgg] at s1'
         injection s1' with s3
         injection s3 with s3
         rw [s3,r6]
         have:=Nat.mul_le_mul_right sz r4
         omega
       simp [hcur]
      ·obtain ⟨z,hz,hi⟩:=himm q el' hq j' x hx
       exact ⟨z,hz,hi.mono le.heap le.U⟩
      ·show θ'.N i b = _
       simp only [θ',if_pos,hb2]
       rfl
     ·have key:∃ el0,l[k2]? = some el0 ∧ el0[j2]? = some (.own e2 sz2 m2) ∧ k2 * sz + j2 ≠ k * sz + off:=by
       by_cases e1:k = k2
       ·subst e1
        rw [List.getElem?_set_self hkl] at hk2
        cases hk2
        have e3:off ≠ j2:=fun e3=>ek ⟨rfl,e3⟩
        rw [List.getElem?_set_ne e3] at hj2
        exact ⟨el,hk,hj2,by omega⟩
       ·rw [List.getElem?_set_ne e1] at hk2
        have hj3:j2 < sz:=by rw [← hsz el2 (List.mem_of_getElem? hk2)];exact (List.getElem?_eq_some_iff.1 hj2).1
        exact ⟨el2,hk2,hj2,NV hj3 hoff e1⟩
      obtain ⟨el0,g1,g2,g3⟩:=key
      obtain ⟨g',n2,cap2,y2,ys2,r1,r2,r3,r4,r5,r6,r7⟩:=hN2 k2 el0 g1 j2 e2 sz2 m2 g2
      have r1':θ i = .slice (some ⟨g',0,none⟩) n2 cap2:=r1
      have eg:g' = g:=by rw [hθ] at r1';injection r1' with e1 e2;injection e1 with e1;injection e1 with e1;exact e1.symm
      subst eg
      refine ⟨g',n2,cap2,y2,ys2,r1',(hcs _ g3).trans r2,⟨r3.1,r3.2.imp id fun ⟨p,cp,cur2,s1,s2,s3,s4⟩=>⟨p,cp,cur2,s1, .lt (X2 r4),s3.mono (hh p (r7 p (by rw [s1];rfl)).1),s4⟩⟩,r4,r5,fun q el' hq j' x hx=>?_,fun b hb2=>⟨(r7 b hb2).1,?_⟩⟩
      ·obtain ⟨z,hz,hi⟩:=r6 q el' hq j' x hx
       exact ⟨z,hz,hi.mono le.heap le.U⟩
      ·show θ'.N i b = _
       have h3:=(r7 b hb2).2
       have hne2:fp (θ m) ≠ some b:=fun hy=>hmi (h.apart m i _ _ b hm hb (.inl hy) (.inr ⟨hN,_,h3⟩))
       simp only [θ',if_pos,if_neg hne2]
       exact h3
   ·rw [if_neg ei] at hj'
    obtain ⟨h1,h2⟩:=h.owns j b hj'
    exact ⟨h1,h2.mono le rfl (fun q=>congrFun (hNo j (Ne.symm ei)) q) fun q hq=>hh q (hbx (Ne.symm ei) hj' hq)⟩
 ·have h1':B3 σ'.hp j1 = some c1:=h1
  have h2':B3 σ'.hp j2 = some c2:=h2
  rw [look'] at h1' h2'
  by_cases n1:m = j1
  ·rw [if_pos n1] at h1';cases h1'
  ·by_cases n2:m = j2
   ·rw [if_pos n2] at h2';cases h2'
   ·rw [if_neg n1] at h1'
    rw [if_neg n2] at h2'
    by_cases e1:i = j1 <;> by_cases e2:i = j2
    ·omega
    ·subst e1
     rw [if_pos rfl] at h1'
     rw [if_neg e2] at h2'
     cases h1'
     rcases fp2 hq1 with h3 | h3
     ·exact h.apart i j2 _ c2 q hb h2' h3 (fp3 (Ne.symm e2) hq2)
     ·exact absurd (h.apart m j2 _ c2 q hm h2' (.inl h3) (fp3 (Ne.symm e2) hq2)) n2
    ·subst e2
     rw [if_pos rfl] at h2'
     rw [if_neg e1] at h1'
     cases h2'
     rcases fp2 hq2 with h3 | h3
     ·exact h.apart j1 i c1 _ q h1' hb (fp3 (Ne.symm e1) hq1) h3
     ·exact absurd (h.apart m j1 _ c1 q hm h1' (.inl h3) (fp3 (Ne.symm e1) hq1)) n1
    ·rw [if_neg e1] at h1'
     rw [if_neg e2] at h2'
     exact h.apart j1 j2 c1 c2 q h1' h2' (fp3 (Ne.symm e1) hq1) (fp3 (Ne.symm e2) hq2)
 ·have hj':B3 σ'.hp j = some b:=hj
  rw [look'] at hj'
  by_cases em:m = j
  ·rw [if_pos em] at hj';cases hj'
  ·rw [if_neg em] at hj'
   by_cases ei:i = j
   ·subst ei
    rw [if_pos rfl] at hj'
    cases hj'
    rcases fp2 hq with h3 | h3
    ·exact h.mine i _ q hb h3
    ·exact h.mine m _ q hm (.inl h3)
   ·rw [if_neg ei] at hj'
    exact h.mine j b q hj' (fp3 (Ne.symm ei) hq)
 ·refine (h.base.2 j hj).imp id fun ⟨h1,h2⟩=>⟨h1,fun ⟨e2,sz2,v2,l3,hl,hkk⟩=>h2 ?_⟩
  have hl':B3 σ'.hp j = some (.row e2 sz2 v2 l3):=hl
  rw [look'] at hl'
  by_cases em:m = j
  ·rw [if_pos em] at hl';cases hl'
  ·rw [if_neg em] at hl'
   by_cases ei:i = j
   ·subst ei
    rw [if_pos rfl] at hl'
    have hl':some (C6.row e sz ver (l.set k (el.set off (.own e' sz' l2)))) = some (.row e2 sz2 v2 l3):=hl'
    cases hl'
    exact ⟨_,_,_,_,hb,hkk⟩
   ·rw [if_neg ei] at hl'
    exact ⟨_,_,_,_,hl',hkk⟩
end ghost
section rules
variable {P:Program} {E:Env} {n:Nat} {ops:Array Oper} {rest:List Oper} {σ:St} {K:St → Prop} {ty:TypeId} {pos:String} {after:Array Edge} {x y:Operand}
theorem Jn {d T szT:Nat} [tv:I4 P T false szT] {i ver k off e sz e' sz':Nat} {l m:List (List AV)} {el:List AV} (hk:l[k]? = some el) (hx:F1 σ x = some (.elt i ver k off)) (hb:B3 σ.hp i = some (.row e sz ver l)) (hE:Nat.ble G0 e = true) (hj:el[off]? = some (.own e' sz' m)) (hd:Nat.blt d n = true)
  (kk:B8 P E n ops rest (St.put ⟨σ.sl,σ.nx + 1,(σ.nx,some (.row e' sz' 0 m)) :: (i,some (.row e sz ver (l.set k (el.set off .any)))) :: σ.hp⟩ d (.row σ.nx 0 m.length)) K):B8 P E n ops (⟨some d, .load T x,ty,pos,after,none⟩ :: rest) σ K:=by
 intro a w ⟨θ,hs⟩
 obtain ⟨g,n',cap,hθ,hv,_⟩:=b8 (hs.evT.rel hx) hb
 obtain ⟨g2,n2,cap2,y,θ',h1,h2,h3,h4⟩:=hs.take hb (Nat.ble_eq ▸ hE) hk hj
 have hθ':θ i = .slice (some ⟨g,0,none⟩) n' cap:=hθ
 have eg:g2 = g:=by rw [hθ'] at h1;injection h1 with e1 e2;injection e1 with e1;injection e1 with e1;exact e1.symm
 subst eg
 unfold wpList
 rw [if_pos (by simp [Region.wanted])]
 left
 have hex:(execOp a.eval ⟨some d, .load T x,ty,pos,after,none⟩).run P w = .ok (.value y) w:=by
  simp only [execOp,hv,Instr.loadAt,Instr.sureAddr,Sem.run_bind,Sem.run_pure,Result.andThen_ok]
  rw [e5 (P:=P) (sz:=szT) (v:=y) h2]
  rfl
 simp only [Oper.wp,hex,Oper.upon]
 refine kk _ _ ⟨_,h4.put (Nat.blt_eq ▸ hd) (.row _ _ _ _ (Nat.lt_succ_self _) fun e2 sz2 v2 l2 hl2=>?_)⟩
 simp only [cx,F2,if_pos] at hl2
 cases hl2
 exact ⟨Nat.le_refl _,fun _=>⟨rfl,h3.symm⟩⟩
theorem Jo {T szT:Nat} [tv:I4 P T false szT] {i ver k off e sz e' sz' m vm len:Nat} {l l2:List (List AV)} {el:List AV} (hk:l[k]? = some el) (hx:F1 σ x = some (.elt i ver k off)) (hy:F1 σ y = some (.row m vm len)) (hb:B3 σ.hp i = some (.row e sz ver l)) (hE:Nat.ble G0 e = true)
  (hm:B3 σ.hp m = some (.row e' sz' vm l2)) (he':Nat.blt e' F8 = true) (hmi:Nat.beq m i = false) (hoff:Nat.blt off sz = true) (h1s:szT = 1)
  (kk:B8 P E n ops rest ⟨σ.sl,σ.nx,(m,none) :: (i,some (.row e sz ver (l.set k (el.set off (.own e' sz' l2))))) :: σ.hp⟩ K):B8 P E n ops (⟨none, .store T x y,ty,pos,after,none⟩ :: rest) σ K:=by
 intro a w ⟨θ,hs⟩
 obtain ⟨g,n',cap,hθ,hv,_⟩:=b8 (hs.evT.rel hx) hb
 obtain ⟨_,hvm,_⟩:=T8 (hs.evT.rel hy) hm
 obtain ⟨xs,hown,hsz,hr⟩:=hs.evT.row hb
 have hθ':θ i = .slice (some ⟨g,0,none⟩) n' cap:=hθ
 have hvm':a.eval y = θ m:=hvm
 have hkl:k < l.length:=(List.getElem?_eq_some_iff.1 hk).1
 have ho:=Nat.blt_eq ▸ hoff
 have hbound:k * sz + off < l.length * sz:=by
  have:(k + 1) * sz ≤ l.length * sz:=Nat.mul_le_mul_right _ hkl
  rw [Nat.add_mul,Nat.one_mul] at this
  omega
 rcases hown.2 with ⟨hn,_⟩ | ⟨g',cap',cur,r1,r2,r3,r4,r5,r6,r7⟩
 ·rw [hθ'] at hn;cases hn
 ·have r1':θ i = .slice (some ⟨g',0,none⟩) l.length cap':=r1
  have eg:g' = g:=by rw [hθ'] at r1';injection r1' with e1 e2;injection e1 with e1;injection e1 with e1;exact e1.symm
  subst eg
  obtain ⟨xm,hom,_⟩:=hs.evT.row hm
  have hyo:(a.eval y).oneCell' = true:=by
   rw [hvm']
   rcases hom.2 with ⟨h1,_⟩ | ⟨_,_,_,h1,_⟩ <;> rw [h1] <;> rfl
  have hcap:=Nat.mul_le_mul_right sz r4
  have hrun:=EB (P:=P) (T:=T) (ag:=false) (sz:=szT) (v:=a.eval y) hyo (BZ hyo) h1s r3 (DA (Nat.ble_eq ▸ hE)) (off:=k * sz + off) (by omega)
  unfold wpList
  rw [if_pos (by simp [Region.wanted])]
  left
  have hex:=CU (ty:=ty) (pos:=pos) (after:=after) (o:=none) hv hrun
  simp only [Oper.wp,hex,Oper.upon]
  have hmi2:m ≠ i:=fun e2=>by subst e2;simp at hmi
  obtain ⟨θ',h4⟩:=hs.give hb (Nat.ble_eq ▸ hE) hk ho hm (Nat.blt_eq ▸ he') hmi2 r1' r3 hbound rfl
  rw [hvm']
  exact kk _ _ ⟨θ',by simpa [Act.put] using h4⟩
theorem Iy {d T e' sz:Nat} [ts:K8 P T e' sz] {i ver len e:Nat} {s:List (List AV)} {lo hi:Option Operand} {l h:Int} (hx:F1 σ x = some (.row i ver len)) (hb:B3 σ.hp i = some (.row e sz ver s)) (hl:Y9 (F1 σ) 0 lo = some l) (hh:Y9 (F1 σ) len hi = some h) (h0:0 ≤ l) (h1:l ≤ h) (h2:h ≤ len) (hd:Nat.blt d n = true)
  (k:B8 P E n ops rest (σ.put d (.sub i ver l.toNat (h.toNat - l.toNat))) K):B8 P E n ops (⟨some d, .slice T x lo hi none,ty,pos,after,none⟩ :: rest) σ K :=
 Ch (E2 fun _ _ _ θ a w hs=>by
  obtain ⟨hu,inf,hi2,hsz⟩:=ts.out
  obtain ⟨hlen,hv,hnx⟩:=T8 (hs.rel hx) hb
  obtain ⟨xs,hown,_⟩:=hs.row hb
  have mk:∀ y,KY (θ i) sz l.toNat (h.toNat - l.toNat) y → F0 (kx E θ σ.nx σ.hp w) (.sub i ver l.toNat (h.toNat - l.toNat)) y:=fun y hy =>
   .sub _ _ _ _ y hnx fun e2 sz2 v2 l2 hl2=>by
    have:B3 σ.hp i = some (.row e2 sz2 v2 l2):=hl2
    rw [hb] at this
    cases this
    exact ⟨Nat.le_refl _,fun _=>⟨by omega,hy⟩⟩
  rcases hown.2 with ⟨hn,hn0⟩ | ⟨g,cap,cur,hg,_,_,hc,_⟩
  ·have hv':a.eval x = .slice none 0 0:=hv.trans hn
   have e0:len = 0:=by omega
   subst e0
   have e1:h = 0:=by omega
   have e2:l = 0:=by omega
   subst e1;subst e2
   have hb2:=k6 (P:=P) (isS:=true) (cap:=0) hs hl hh h0 h1 (by omega)
   refine ⟨.slice none 0 0,?_,mk _ (.inl ⟨hn,rfl,rfl,rfl⟩)⟩
   simp only [execOp,hv',Instr.sliceAt,Instr.slice,Sem.run_bind,run_underlying hu,Result.andThen_ok,Option.map_none,hb2,Sem.run_pure,sizeOf,typeInfo,program,Sem.run,hi2]
   rfl
  ·have hv':a.eval x = .slice (some ⟨g,0,none⟩) s.length cap:=hv.trans hg
   rw [hlen] at hv'
   have hb2:=k6 (P:=P) (isS:=true) (cap:=cap) hs hl hh h0 h1 (by omega)
   refine ⟨_,?_,mk (.slice (some (if cap = l.toNat then ⟨g,0,none⟩ else ⟨g,l.toNat * sz,none⟩)) (h.toNat - l.toNat) (cap - l.toNat)) (.inr ⟨g,_,cap,hg,rfl⟩)⟩
   simp only [execOp,hv',Instr.sliceAt,Instr.slice,Sem.run_bind,run_underlying hu,Result.andThen_ok,Option.map_none,hb2,Sem.run_pure,sizeOf,typeInfo,program,Sem.run,hi2,hsz,Option.map_some,addr_add,Nat.zero_add]
   split
   ·rfl
   ·simp only [Option.map,addr_add,Nat.zero_add]) hd k
theorem WU {c:Cx} {i ver lo len:Nat} {y:Value} (r:F0 c (.sub i ver lo len) y) {e sz:Nat} {l:List (List AV)} (hl:B3 c.hp i = some (.row e sz ver l)):lo + len ≤ l.length ∧ KY (c.θ i) sz lo len y ∧ i < c.nx:=by
 cases r with
 | im hi=>cases hi
 | sub i ver lo len x hi h=>exact ⟨((h e sz ver l hl).2 rfl).1,((h e sz ver l hl).2 rfl).2,hi⟩
theorem Tw {d i ver m e sz:Nat} {l:List (List AV)} (hd:look σ.sl d = some (.sub i ver 0 m)) (hb:B3 σ.hp i = some (.row e sz ver l)) (hbe:e < F8) (hsz:0 < sz):St.le E n σ ((σ.set i (.row e sz (ver + 1) (l.take m))).put d (.row i (ver + 1) m)):=by
 rintro a w ⟨θ,h⟩
 obtain ⟨hm,hv,hnx⟩:=WU (h.slots d _ hd) hb
 obtain ⟨_,xs,ho,hszl,him,_⟩:=h.owns i _ hb
 have hek:e < E9:=by unfold F8 at hbe;unfold E9;omega
 have hlen:(l.take m).length = m:=by rw [List.length_take];omega
 generalize hy:a.tmps.getD d undef = y at hv
 have hv':KY (θ i) sz 0 m y:=hv
 have hsl:∃ x m c,θ i = .slice x m c:=by
  rcases ho.2 with ⟨h1,_⟩ | ⟨g,cap,cur,h1,_⟩ <;> exact ⟨_,_,_,h1⟩
 have key:N9 w e sz y m (xs.take (m * sz)) ∧ ∀ k,fp y = some k → fp (θ i) = some k:=by
  have hxl:(xs.take (m * sz)).length = m * sz:=by
   rw [List.length_take,ho.1]
   have:=Nat.mul_le_mul_right sz (show m ≤ l.length by omega)
   omega
  rcases hv' with ⟨h1,rfl,_,rfl⟩ | ⟨g,n',cap,h1,rfl⟩
  ·exact ⟨⟨by simpa using hxl, .inl ⟨rfl,rfl⟩⟩,fun k hk=>by cases hk⟩
  ·rcases ho.2 with ⟨h2,_⟩ | ⟨g',cap',cur,h2,h3,h4,h5,h6,h7,h8⟩
   ·have h2':θ i = .slice none 0 0:=h2
    rw [h1] at h2';cases h2'
   ·have h2':θ i = .slice (some ⟨g',0,none⟩) l.length cap':=h2
    rw [h1] at h2'
    cases h2'
    have ea:(if cap = 0 then (⟨g,0,none⟩:Addr) else ⟨g,0 * sz,none⟩) = ⟨g,0,none⟩:=by split <;> simp
    rw [ea,Nat.sub_zero]
    refine ⟨⟨hxl, .inr ⟨g,cap,cur,rfl, .lt (X2 hbe),h4,by omega,h6,h7,?_⟩⟩,fun k hk=>by rw [h1];exact hk⟩
    rw [← h8,List.take_take]
    congr 1
    have:=Nat.mul_le_mul_right sz (show m ≤ l.length by omega)
    omega
 have ht:=h.turn (v':=y) (b':=.row e sz (ver + 1) (l.take m)) (w':=w) (hkp:=fun _ _ _ _ h hk _=>by cases h;rw [BU hbe] at hk;cases hk) (hne:=fun h=>by rw [H7 (M6 hbe)] at h;cases h) hb rfl rfl rfl (Nat.le_refl _) (fun _ _ _=>rfl) (fun k hk=>.inl (key.2 k hk))
  ⟨hsl,e,ver,l,rfl, .inl (Nat.lt_succ_self _)⟩ fun le=>by
  refine ⟨xs.take (m * sz),by simp only [cx,D4];rw [hlen];exact key.1,fun el hel=>hszl el (List.mem_of_mem_take hel),fun k el hk j x hx=>?_, .lt (M6 hbe)⟩
  rw [List.getElem?_take] at hk
  split at hk
  ·rename_i hkm
   obtain ⟨z,hz,hi⟩:=him k el hk j x hx
   refine ⟨z,?_,hi.mono le.heap le.U⟩
   rw [List.getElem?_take,if_pos,hz]
   have hj:j < sz:=by rw [← hszl el (List.mem_of_getElem? hk)];exact (List.getElem?_eq_some_iff.1 hx).1
   have:(k + 1) * sz ≤ m * sz:=Nat.mul_le_mul_right _ hkm
   rw [Nat.add_mul,Nat.one_mul] at this
   omega
  ·cases hk
 refine ⟨_,ht.size,ht.defers,ht.fr,fun s x hs=>?_,ht.owns,ht.apart,ht.mine,ht.X,ht.base⟩
 simp only [St.put,F7] at hs
 by_cases ed:d = s
 ·subst ed
  rw [if_pos rfl] at hs
  cases hs
  rw [hy]
  refine .row _ _ _ _ hnx fun e' sz' v2 l2 hl2=>?_
  simp only [cx,St.put,St.set,F2,if_pos] at hl2
  cases hl2
  exact ⟨Nat.le_refl _,fun _=>⟨hlen,by simp [cx,D4]⟩⟩
 ·rw [if_neg ed] at hs
  exact ht.slots s x hs
end rules
end Go.Av
