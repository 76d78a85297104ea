/- Rows within rows of one's own. -/
import Derived.Test.YtbhegmcbpolemaaDoorTAvC
set_option linter.unusedSimpArgs false
set_option linter.unusedVariables false
set_option linter.unnecessarySimpa false
namespace Go.Av
open Go Go.RowKit
section ghost
variable {E:Env} {n:Nat} {θ:Th} {σ:St} {a:Act} {w:World}
def BJ (θ:Th) (i:Nat) (M:Nat → Option Nat):Th:=⟨θ.v,fun j=>if j = i then M else θ.N j⟩
theorem LH (θ:Th) (i:Nat) (M:Nat → Option Nat):(BJ θ i M).N i = M:=by simp [BJ]
theorem ET (θ:Th) {i j:Nat} (M:Nat → Option Nat) (h:j ≠ i):(BJ θ i M).N j = θ.N j:=by simp [BJ,h]
theorem H0.reN (h:H0 E n θ σ a w) (i:Nat) (hni:∀ b,B2 σ.hp i = some b → L7 b = false) (M:Nat → Option Nat):H0 E n (BJ θ i M) σ a w:=by
 have fpe:∀ {j:Nat} {b:D9} {k:Nat},B2 σ.hp j = some b → (FP (BJ θ i M) j b k ↔ FP θ j b k):=fun {j b k} hj=>by
  unfold FP
  by_cases e:j = i
  ·subst e
   rw [hni b hj]
   simp [BJ]
  ·rw [ET _ _ e]
   rfl
 have le:(cx E θ σ w).le (cx E (BJ θ i M) σ w):=⟨Nat.le_refl _,fun j hj=>.inl rfl,fun j hj e' sz' v' l' hl=>⟨e',v',l',hl, .inr ⟨rfl,rfl,rfl⟩⟩,Nat.le_refl _,fun _ _ _=>rfl,fun k hk hu=>by
  rcases hu with hu | ⟨j,b,hj,hk'⟩
  ·exact .inl hu
  ·exact .inr ⟨j,b,hj,(fpe hj).1 hk'⟩⟩
 refine ⟨h.size,h.defers,h.fr,fun s x hs=>(h.slots s x hs).mono le,fun j b hj=>⟨(h.owns j b hj).1,?_⟩,fun j1 j2 b1 b2 k h1 h2 hk1 hk2=>h.apart j1 j2 b1 b2 k h1 h2 ((fpe h1).1 hk1) ((fpe h2).1 hk2),fun j b k hj hk=>h.mine j b k hj ((fpe hj).1 hk),h.X,h.base⟩
 by_cases e:j = i
 ·subst e
  have ho:=(h.owns j b hj).2
  have hnb:=hni b hj
  cases b with
  | bx τ l=>exact ho.mono (c':=cx E θ σ w) ⟨Nat.le_refl _,fun j hj=>.inl rfl,fun j hj e' sz' v' l' hl=>⟨e',v',l',hl, .inr ⟨rfl,rfl,rfl⟩⟩,Nat.le_refl _,fun _ _ _=>rfl,fun _ _ hu=>hu⟩ rfl (fun _=>rfl) (fun _ _=>rfl) |> fun ⟨b',arr,ty,q1,q2,q3,q4⟩=>⟨b',arr,ty,q1,q2,q3,fun j x y hx hy=>(q4 j x y hx hy).mono le⟩
  | row e1 sz1 v1 l1 =>
    obtain ⟨xs,q1,q2,q3,q4⟩:=ho
    refine ⟨xs,q1,q2,fun k el hk j x hx=>?_,fun hE=>?_⟩
    ·obtain ⟨y,hy,hi⟩:=q3 k el hk j x hx
     exact ⟨y,hy,hi.mono le.heap le.U⟩
    ·have:L7 (.row e1 sz1 v1 l1) = true:=Nat.ble_eq ▸ hE
     rw [hnb] at this;cases this
  | map m =>
    obtain ⟨r,es,clock,q1,q2,q3,q4⟩:=ho
    exact ⟨r,es,clock,q1,q2,q3,fun j kx e hx he=>⟨(q4 j kx e hx he).1,(q4 j kx e hx he).2.mono le.heap le.U⟩⟩
  | it s p=>exact ho
 ·exact (h.owns j b hj).2.mono le rfl (fun k=>congrFun (ET θ M e) k) fun _ _=>rfl
def Jq (x:AV):AV → Prop
 | .own e _ l=>x = .v (.slice none 0 0) ∧ l = [] ∧ e < C4
 | y=>x = y
def AY:List AV → List AV → Prop
 | [],[]=>True
 | a :: r,b :: s=>Jq a b ∧ AY r s
 | _,_=>False
theorem AY.len:∀ {l m:List AV},AY l m → l.length = m.length
 | [],[],_=>rfl
 | _ :: _,_ :: _,h=>congrArg (· + 1) h.2.len
theorem AY.get:∀ {l m:List AV},AY l m → ∀ (j:Nat) y,m[j]? = some y → ∃ x,l[j]? = some x ∧ Jq x y
 | [],[],_,j,y,h=>by simp at h
 | a :: r,b :: s,h,j,y,hj=>by
   cases j with
   | zero=>simp at hj;subst hj;exact ⟨a,rfl,h.1⟩
   | succ j=>simpa using h.2.get j y (by simpa using hj)
def LI (l m:List (List AV)):Prop:=l.length = m.length ∧ ∀ (k:Nat) b,m[k]? = some b → ∃ a,l[k]? = some a ∧ AY a b
def U7 (F:Nat):Prop:=F = C6 ∨ F = p7
theorem U7.le {F e:Nat} (h:U7 F):C6 ≤ F + e:=by rcases h with rfl | rfl <;> (try unfold p7 C6) <;> omega
theorem U7.cell {F e:Nat} (h:U7 F) (he:e < C4):u7 (F + e) = e:=by
 rcases h with rfl | rfl
 ·unfold u7
  rw [DY (by unfold C4 at he;unfold C6;omega),Bool.cond_false,DY (by unfold C4 at he;unfold C6;omega),Bool.cond_false,u9 (Nat.le_add_right _ _),Bool.cond_true,Nat.add_sub_cancel_left]
 ·unfold u7
  rw [u9 (by unfold p7;omega),Bool.cond_true]
  unfold p7;omega
theorem U7.ln {F e:Nat} (h:U7 F) (he:e < C4):W6 (F + e) = false:=by
 cases hb:W6 (F + e) with
 | false=>rfl
 | true =>
   simp only [W6,Bool.and_eq_true,Nat.ble_eq,Nat.blt_eq] at hb
   unfold C4 at he;unfold R1 p7 at hb
   rcases h with rfl | rfl
   ·unfold C6 at hb;omega
   ·unfold p7 at hb;omega
theorem EU {e:Nat} (he:e < C4):L4 (C6 + e) = false:=by
 cases hb:L4 (C6 + e) with
 | false=>rfl
 | true =>
   simp only [L4,Bool.or_eq_true,Bool.and_eq_true,Nat.ble_eq,Nat.blt_eq] at hb
   unfold C4 at he;unfold G2 C6 Q0 p7 at hb;omega
theorem G6.to_nest {w:World} {g e F:Nat} {cur:Array Value} (h:G6 w g cur e) (he:e < C4) (hF:U7 F):G6 w g cur (F + e):=by
 refine .inr (.inr (.inl ⟨by have:=hF.le (e:=e);unfold C6 at this;unfold G2;omega,X7 hF.le,?_⟩))
 rw [hF.cell he]
 rcases h with ⟨_,h⟩ | ⟨h,_⟩ | ⟨h,_⟩ | ⟨h,_⟩
 ·exact h
 ·omega
 ·unfold C4 at he;unfold G2 at h;omega
 ·rw [DC (X1 he)] at h;cases h
theorem G6.of_nest {w:World} {g e F:Nat} {cur:Array Value} (h:G6 w g cur (F + e)) (he:e < C4) (hF:U7 F):G6 w g cur e:=by
 have:=hF.le (e:=e)
 refine .inl ⟨by unfold C4 at he;unfold G2;omega,?_⟩
 rcases h with ⟨h,_⟩ | ⟨_,h,_⟩ | ⟨_,_,h⟩ | ⟨h,_⟩
 ·unfold C6 at this;unfold G2 at h;omega
 ·unfold C6 at this;unfold G2 at h;omega
 ·rwa [hF.cell he] at h
 ·rw [X7 this] at h;cases h
theorem Ih {i e sz v F:Nat} {l l':List (List AV)} (hF:U7 F) (hb:B2 σ.hp i = some (.row e sz v l)) (hi:F = p7 → E.n0 ≤ i) (he:e < C4) (hl:LI l l'):St.le E n σ (σ.set i (.row (F + e) sz v l')):=by
 rintro a w ⟨θ,h0⟩
 have h:=h0.reN i (fun b hb2=>by rw [hb] at hb2;cases hb2;exact I8 (K8 he)) (fun _=>none)
 have hb0:=hb
 obtain ⟨_,xs,ho,hsz,him,_⟩:=h.owns i _ hb
 generalize hθ:BJ θ i (fun _=>none) = θ1 at h ho him
 have hN:∀ k,θ1.N i k = none:=fun k=>by rw [← hθ,LH]
 have hsl:∃ x m c,θ1 i = .slice x m c:=by
  rcases ho.2 with ⟨h1,_⟩ | ⟨g,cap,cur,h1,_⟩ <;> exact ⟨_,_,_,h1⟩
 have ho2:J7 w (F + e) sz (θ1 i) l'.length xs:=by
  rw [← hl.1]
  exact ⟨ho.1,ho.2.imp id fun ⟨g,cap,cur,h1,h2,h3,r⟩=>⟨g,cap,cur,h1, .ge hF.le,h3.to_nest he hF,r⟩⟩
 have ht:=h.turn (v':=θ1 i) (b':=.row (F + e) sz v l') (w':=w) (hkp:=fun e2 sz2 v2 l2 h1 h2 h3=>by
  cases h1
  rcases hF with rfl | rfl
  ·rw [EU he] at h2;cases h2
  ·exact absurd (hi rfl) (by omega)) (hne:=fun _=>.inr hN) hb rfl rfl rfl (Nat.le_refl _) (fun _ _ _=>rfl) (fun k hk=>.inl hk) ⟨hsl,e,v,l,rfl, .inr ⟨rfl,hl.1,rfl⟩⟩ fun le=>by
  refine ⟨xs,by simp only [cx,D0];exact ho2,fun el hel=>?_,fun k el hk j x hx=>?_,fun _=>⟨fun k p hk=>?_,fun k el hk j e' sz' m hj=>?_⟩⟩
  ·obtain ⟨k,hk⟩:=List.mem_iff_getElem?.1 hel
   obtain ⟨a0,ha,hn⟩:=hl.2 k el hk
   rw [← hn.len];exact hsz a0 (List.mem_of_getElem? ha)
  ·obtain ⟨a0,ha,hn⟩:=hl.2 k el hk
   obtain ⟨x0,hx0,h1⟩:=hn.get j x hx
   obtain ⟨y,hy,hz⟩:=him k a0 ha j x0 hx0
   refine ⟨y,hy,?_⟩
   cases x with
   | own e' sz' m=>exact .own e' sz' m y
   | _=>simp only [Jq] at h1;subst h1;exact hz.mono le.heap le.U
  ·have hk':θ1.N i k = some p:=hk
   rw [hN k] at hk';cases hk'
  ·obtain ⟨a0,ha,hn⟩:=hl.2 k el hk
   obtain ⟨x0,hx0,rfl,rfl,he'⟩:=hn.get j _ hj
   obtain ⟨y,hy,hz⟩:=him k a0 ha j _ hx0
   cases hz
   rcases ho.2 with ⟨_,hn0⟩ | ⟨g,cap,cur,h1,h2,h3,h4⟩
   ·rw [List.eq_nil_of_length_eq_zero hn0] at ha;simp at ha
   ·have hown:=ho
    have h1':θ1 i = .slice (some ⟨g,0,none⟩) l.length cap:=h1
    rw [show (cx E θ1 σ w).θ i = θ1 i from rfl,h1'] at hown
    have hcell:=hown.cells (g:=g) rfl _ _ hy
    rw [F3,Nat.zero_add] at hcell
    exact .inr ⟨g,l.length,cap, .slice none 0 0,[],by simp only [cx,D0];exact h1',hcell,⟨by simp, .inl ⟨rfl,rfl⟩⟩,he',(fun el hel=>by cases hel),(fun q el' hq=>by simp at hq),fun b hb=>by cases hb⟩
 exact ⟨_,ht⟩
def DR:AV → AV
 | .own _ sz l=>.sl sz l
 | x=>x
theorem Fo {i e sz v F:Nat} {l l':List (List AV)} (hF:U7 F) (hb:B2 σ.hp i = some (.row (F + e) sz v l)) (he:e < C4) (hl:l' = l.map (·.map DR)):St.le E n σ (σ.set i (.row e sz v l')):=by
 subst hl
 rintro a w ⟨θ,h⟩
 obtain ⟨hnx,xs,ho,hsz,him,hne⟩:=h.owns i _ hb
 have hE:=hF.le (e:=e)
 have hN:L7 (.row (F + e) sz v l) = true:=u9 hE
 have hsl:∃ x m c,θ i = .slice x m c:=by
  rcases ho.2 with ⟨h1,_⟩ | ⟨g,cap,cur,h1,_⟩ <;> exact ⟨_,_,_,h1⟩
 have ho2:J7 w e sz (θ i) (l.map (·.map DR)).length xs:=by
  rw [List.length_map]
  exact ⟨ho.1,ho.2.imp id fun ⟨g,cap,cur,h1,h2,h3,r⟩=>⟨g,cap,cur,h1, .lt (X1 he),h3.of_nest he hF,r⟩⟩
 have ht:=h.turn (v':=θ i) (b':=.row e sz v (l.map (·.map DR))) (w':=w) (hkp:=fun e2 sz2 v2 l2 h1 h2 h3=>by
  cases h1
  rw [DD he] at h2;cases h2) (hne:=fun h=>by rw [I8 (K8 he)] at h;cases h) hb rfl rfl rfl (Nat.le_refl _) (fun _ _ _=>rfl) (fun k hk=>.inl hk) ⟨hsl,F + e,v,l,rfl, .inr ⟨rfl,by simp,rfl⟩⟩ fun le=>by
  refine ⟨xs,by simp only [cx,D0];exact ho2,fun el hel=>?_,fun k el hk j x hx=>?_, .lt (K8 he)⟩
  ·obtain ⟨e0,he0,rfl⟩:=List.mem_map.1 hel
   rw [List.length_map];exact hsz e0 he0
  ·rw [List.getElem?_map,Option.map_eq_some_iff] at hk
   obtain ⟨el0,hk0,rfl⟩:=hk
   rw [List.getElem?_map,Option.map_eq_some_iff] at hx
   obtain ⟨x0,hx0,rfl⟩:=hx
   obtain ⟨y,hy,hz⟩:=him k el0 hk0 j x0 hx0
   refine ⟨y,hy,?_⟩
   cases x0 with
   | own e' sz' m =>
     rcases (hne hE).2 k el0 hk0 j e' sz' m hx0 with ⟨q0,_⟩ | ⟨g,m',cap,y',ys,q1,q2,q3,q4,q5,q6,q7⟩
     ·rw [hF.ln he] at q0;cases q0
     have hown:=ho
     have q1':θ i = .slice (some ⟨g,0,none⟩) m' cap:=q1
     rw [show (cx E θ σ w).θ i = θ i from rfl,q1'] at hown
     have hcell:=hown.cells (g:=g) rfl _ _ hy
     rw [F3,Nat.zero_add] at hcell
     rw [hcell] at q2
     cases q2
     simp only [DR]
     rcases q3.2 with ⟨h1,h2⟩ | ⟨g2,cap2,cur2,h1,_,h3,h4,h5,h6,h7⟩
     ·rw [h1,List.eq_nil_of_length_eq_zero h2];exact .slnil sz'
     ·have q3':=q3
      rw [h1] at q3' ⊢
      obtain ⟨hgg,hNg⟩:=q7 g2 (by rw [h1];rfl)
      have hnu:¬ (cx E (K1 θ i (θ i)) (σ.set i (.row e sz v (l.map (·.map DR)))) w).U g2:=by
       rintro (hx | ⟨j2,b2,hj2,hk2⟩)
       ·exact (h.mine i _ g2 hb (.inr ⟨hN,_,hNg⟩)).1 hx
       ·simp only [cx,St.set,D5] at hj2
        by_cases e2:i = j2
        ·subst e2
         rw [if_pos rfl] at hj2
         cases hj2
         rcases hk2 with hk2 | ⟨hk2,_⟩
         ·simp only [cx,D0] at hk2
          rw [q1'] at hk2
          simp [fp] at hk2
          exact hgg hk2.symm
         ·rw [I8 (K8 he)] at hk2;cases hk2
        ·rw [if_neg e2] at hj2
         refine e2 (h.apart i j2 _ b2 g2 hb hj2 (.inr ⟨hN,_,hNg⟩) ?_)
         unfold FP at hk2 ⊢
         simpa only [cx,I3 _ _ (Ne.symm e2),CL] using hk2
      have hget:∀ i,i < m.length → ∀ j,j < sz' → ∃ y,ys[i * sz' + j]? = some y:=by
       intro i hi j hj
       have h1:(i + 1) * sz' ≤ m.length * sz':=Nat.mul_le_mul_right _ hi
       rw [Nat.add_mul,Nat.one_mul] at h1
       have h2:i * sz' + j < ys.length:=by rw [q3.1];omega
       exact ⟨_,List.getElem?_eq_getElem h2⟩
      refine .sl sz' m ⟨g2,0,none⟩ cap2 (fun i j=>ys.getD (i * sz' + j) undef) h4 h5 (fun _ _=>hnu) q5 (fun i hi j hj=>?_) (fun k el hk j x hx=>?_)
      ·obtain ⟨y,hy⟩:=hget i hi j hj
       have:=q3'.cells (g:=g2) rfl _ _ hy
       rw [F3]
       have e:ys.getD (i * sz' + j) undef = y:=by rw [List.getD,hy];rfl
       rw [e]
       show w.cell? _ = _
       have this:w.cell? _ = _:=this
       simpa [F3] using this
      ·obtain ⟨y,hy,him⟩:=q6 k el hk j x hx
       have e:ys.getD (k * sz' + j) undef = y:=by rw [List.getD,hy];rfl
       rw [e]
       exact him.mono le.heap le.U
   | _=>exact hz.mono le.heap le.U
 exact ⟨_,ht⟩
theorem H0.take {i ver k off e sz e' sz':Nat} {l m:List (List AV)} {el:List AV} (h:H0 E n θ σ a w) (hb:B2 σ.hp i = some (.row e sz ver l)) (hE:C6 ≤ e) (hk:l[k]? = some el) (hjo:el[off]? = some (.own e' sz' m)) (hln:W6 e = false) :
  ∃ g n' cap y θ',θ i = .slice (some ⟨g,0,none⟩) n' cap ∧ w.cell? ⟨g,k * sz + off,none⟩ = some y ∧ θ' σ.nx = y ∧ θ' i = θ i ∧
   H0 E n θ' ⟨σ.sl,σ.nx + 1,(σ.nx,some (.row e' sz' 0 m)) :: (i,some (.row e sz ver (l.set k (el.set off .any)))) :: σ.hp⟩ a w:=by
 obtain ⟨hnx,xs,ho,hsz,him,hne⟩:=h.owns i _ hb
 obtain ⟨hN1,hN2⟩:=hne hE
 rcases hN2 k el hk off e' sz' m hjo with ⟨q0,_⟩ | ⟨g,n',cap,y,ys,q1,q2,q3,q4,q5,q6,q7⟩
 ·rw [hln] at q0;cases q0
 have q1':θ i = .slice (some ⟨g,0,none⟩) n' cap:=q1
 have hkl:k < l.length:=(List.getElem?_eq_some_iff.1 hk).1
 have hoff:off < sz:=by rw [← hsz el (List.mem_of_getElem? hk)];exact (List.getElem?_eq_some_iff.1 hjo).1
 have hN:L7 (.row e sz ver l) = true:=u9 hE
 let θ':Th:=⟨fun j=>if j = σ.nx then y else θ j,fun j b=>if j = i then (if fp y = some b then none else θ.N i b) else θ.N j b⟩
 let b1:D9:=.row e' sz' 0 m
 let b2:D9:=.row e sz ver (l.set k (el.set off .any))
 let σ':St:=⟨σ.sl,σ.nx + 1,(σ.nx,some b1) :: (i,some b2) :: σ.hp⟩
 have hnx':i < σ.nx:=hnx
 have look':∀ j,B2 σ'.hp j = if σ.nx = j then some b1 else if i = j then some b2 else B2 σ.hp j:=fun j=>by simp only [σ',D5]
 have hθ1:∀ j,j < σ.nx → θ' j = θ j:=fun j hj=>by simp only [θ',if_neg (Nat.ne_of_lt hj)]
 have hθ2:θ' σ.nx = y:=by simp only [θ',if_pos]
 have hNi:∀ b p,θ'.N i b = some p → θ.N i b = some p:=fun b p hp=>by
  simp only [θ',if_pos] at hp
  split at hp
  ·cases hp
  ·exact hp
 have hNo:∀ j,j ≠ i → θ'.N j = θ.N j:=fun j hj=>by simp only [θ',if_neg hj]
 -- the blocks under the new names
 have fp1:∀ {q:Nat},FP θ' σ.nx b1 q → fp y = some q:=fun hq=>by
  rcases hq with hq | ⟨hq,_⟩
  ·rwa [hθ2] at hq
  ·have:L7 b1 = false:=I8 (K8 q4)
   rw [this] at hq;cases hq
 have fp1i:∀ {q:Nat},fp y = some q → FP θ i (.row e sz ver l) q:=fun hq=>.inr ⟨hN,_,(q7 _ hq).2⟩
 have fp2:∀ {q:Nat},FP θ' i b2 q → FP θ i (.row e sz ver l) q ∧ fp y ≠ some q:=fun {q} hq=>by
  rcases hq with hq | ⟨_,p,hp⟩
  ·rw [hθ1 i hnx'] at hq
   refine ⟨.inl hq,fun hy=>(q7 q hy).1 ?_⟩
   rw [q1'] at hq
   simp [fp] at hq
   exact hq.symm
  ·refine ⟨.inr ⟨hN,p,hNi q p hp⟩,fun hy=>?_⟩
   simp only [θ',if_pos,hy] at hp
   cases hp
 have fp3:∀ {j:Nat} {b:D9} {q:Nat},j ≠ i → j < σ.nx → FP θ' j b q → FP θ j b q:=fun hj hlt hq=>by
  unfold FP at hq ⊢
  rwa [hθ1 _ hlt,hNo _ hj] at hq
 have le:(cx E θ σ w).le (cx E θ' σ' w):=by
  refine ⟨Nat.le_succ _,fun j hj=>.inl (hθ1 j hj),fun j hj e2 sz2 v2 l2 hl=>?_,Nat.le_refl _,fun _ _ _=>rfl,fun q _ hu=>?_⟩
  ·have hj':j < σ.nx:=hj
   have hl':B2 σ'.hp j = some (.row e2 sz2 v2 l2):=hl
   rw [look',if_neg (by omega)] at hl'
   by_cases ei:i = j
   ·subst ei
    rw [if_pos rfl] at hl'
    have hl':some (D9.row e sz ver (l.set k (el.set off .any))) = some (.row e2 sz2 v2 l2):=hl'
    cases hl'
    exact ⟨e,ver,l,hb, .inr ⟨rfl,by simp,hθ1 i hnx'⟩⟩
   ·rw [if_neg ei] at hl'
    exact ⟨e2,v2,l2,hl', .inr ⟨rfl,rfl,hθ1 j hj'⟩⟩
  ·rcases hu with hu | ⟨j,b,hj,hq⟩
   ·exact .inl hu
   ·have hj':B2 σ'.hp j = some b:=hj
    rw [look'] at hj'
    by_cases en:σ.nx = j
    ·subst en
     rw [if_pos rfl] at hj'
     cases hj'
     exact .inr ⟨i,_,hb,fp1i (fp1 hq)⟩
    ·rw [if_neg en] at hj'
     by_cases ei:i = j
     ·subst ei
      rw [if_pos rfl] at hj'
      cases hj'
      exact .inr ⟨i,_,hb,(fp2 hq).1⟩
     ·rw [if_neg ei] at hj'
      exact .inr ⟨j,b,hj',fp3 (Ne.symm ei) (h.owns j b hj').1 hq⟩
 refine ⟨g,n',cap,y,θ',q1',q2,hθ2,hθ1 i hnx',h.size,h.defers,h.fr,fun s x hs=>(h.slots s x hs).mono le,fun j b hj=>?_,fun j1 j2 c1 c2 q h1 h2 hq1 hq2=>?_,fun j b q hj hq=>?_,h.X,⟨Nat.le_succ_of_le h.base.1,fun j hj=>?_⟩⟩
 ·have hj':B2 σ'.hp j = some b:=hj
  rw [look'] at hj'
  by_cases en:σ.nx = j
  ·subst en
   rw [if_pos rfl] at hj'
   cases hj'
   refine ⟨Nat.lt_succ_self _,ys,?_,q5,fun k el hk j x hx=>?_, .lt (K8 q4)⟩
   ·show J7 w e' sz' (θ' σ.nx) m.length ys
    rw [hθ2];exact q3
   ·obtain ⟨z,hz,hi⟩:=q6 k el hk j x hx
    exact ⟨z,hz,hi.mono le.heap le.U⟩
  ·rw [if_neg en] at hj'
   by_cases ei:i = j
   ·subst ei
    rw [if_pos rfl] at hj'
    cases hj'
    refine ⟨Nat.lt_succ_of_lt hnx',xs,?_,fun el2 hel2=>?_,fun k2 el2 hk2 j2 x2 hx2=>?_,fun _=>⟨fun b p hp=>hN1 b p (hNi b p hp),fun k2 el2 hk2 j2 e2 sz2 m2 hj2=>?_⟩⟩
    ·show J7 w e sz (θ' i) _ xs
     rw [hθ1 i hnx',List.length_set];exact ho
    ·rcases List.mem_or_eq_of_mem_set hel2 with h2 | h2
     ·exact hsz _ h2
     ·rw [h2,List.length_set];exact hsz el (List.mem_of_getElem? hk)
    ·by_cases ek:k = k2
     ·subst ek
      rw [List.getElem?_set_self hkl] at hk2
      cases hk2
      by_cases ej:off = j2
      ·subst ej
       obtain ⟨z,hz,hi⟩:=him k el hk off _ hjo
       have hlt:off < el.length:=(List.getElem?_eq_some_iff.1 hjo).1
       rw [List.getElem?_set_self hlt] at hx2
       cases hx2
       exact ⟨z,hz, .any _⟩
      ·rw [List.getElem?_set_ne ej] at hx2
       obtain ⟨z,hz,hi⟩:=him k el hk j2 x2 hx2
       exact ⟨z,hz,hi.mono le.heap le.U⟩
     ·rw [List.getElem?_set_ne ek] at hk2
      obtain ⟨z,hz,hi⟩:=him k2 el2 hk2 j2 x2 hx2
      exact ⟨z,hz,hi.mono le.heap le.U⟩
    ·obtain ⟨el0,g1,g2,g3⟩:=IP (P:=fun q=>q ≠ k * sz + off) hk hsz hoff (av:=.any) rfl (fun q hq=>hq) k2 el2 hk2 j2 e2 sz2 m2 hj2
     rcases hN2 k2 el0 g1 j2 e2 sz2 m2 g2 with ⟨q0,_⟩ | ⟨g',n2,cap2,y2,ys2,r1,r2,r3,r4,r5,r6,r7⟩
     ·rw [hln] at q0;cases q0
     refine .inr ⟨g',n2,cap2,y2,ys2,(hθ1 i hnx').trans r1,r2,r3,r4,r5,fun q el' hq j' x hx=>?_,fun b hb2=>⟨(r7 b hb2).1,?_⟩⟩
     ·obtain ⟨z,hz,hi⟩:=r6 q el' hq j' x hx
      exact ⟨z,hz,hi.mono le.heap le.U⟩
     ·show θ'.N i b = _
      have h3:=(r7 b hb2).2
      have hne2:fp y ≠ some b:=fun hy=>by
       have h4:=(q7 b hy).2
       rw [h4] at h3
       exact g3 (Option.some.inj h3).symm
      simp only [θ',if_pos,if_neg hne2]
      exact h3
   ·rw [if_neg ei] at hj'
    obtain ⟨h1,h2⟩:=h.owns j b hj'
    exact ⟨Nat.lt_succ_of_lt h1,h2.mono le (hθ1 j h1) (fun q=>congrFun (hNo j (Ne.symm ei)) q) fun _ _=>rfl⟩
 ·have h1':B2 σ'.hp j1 = some c1:=h1
  have h2':B2 σ'.hp j2 = some c2:=h2
  rw [look'] at h1' h2'
  by_cases n1:σ.nx = j1 <;> by_cases n2:σ.nx = j2
  ·omega
  ·subst n1
   rw [if_pos rfl] at h1'
   rw [if_neg n2] at h2'
   cases h1'
   have hy:=fp1 hq1
   by_cases ei:i = j2
   ·subst ei
    rw [if_pos rfl] at h2'
    cases h2'
    exact absurd hy (fp2 hq2).2
   ·rw [if_neg ei] at h2'
    exact absurd (h.apart i j2 _ c2 q hb h2' (fp1i hy) (fp3 (Ne.symm ei) (h.owns j2 c2 h2').1 hq2)) ei
  ·subst n2
   rw [if_pos rfl] at h2'
   rw [if_neg n1] at h1'
   cases h2'
   have hy:=fp1 hq2
   by_cases ei:i = j1
   ·subst ei
    rw [if_pos rfl] at h1'
    cases h1'
    exact absurd hy (fp2 hq1).2
   ·rw [if_neg ei] at h1'
    exact absurd (h.apart i j1 _ c1 q hb h1' (fp1i hy) (fp3 (Ne.symm ei) (h.owns j1 c1 h1').1 hq1)) ei
  ·rw [if_neg n1] at h1'
   rw [if_neg n2] at h2'
   by_cases e1:i = j1 <;> by_cases e2:i = j2
   ·omega
   ·subst e1
    rw [if_pos rfl] at h1'
    rw [if_neg e2] at h2'
    cases h1'
    exact h.apart i j2 _ c2 q hb h2' (fp2 hq1).1 (fp3 (Ne.symm e2) (h.owns j2 c2 h2').1 hq2)
   ·subst e2
    rw [if_pos rfl] at h2'
    rw [if_neg e1] at h1'
    cases h2'
    exact h.apart j1 i c1 _ q h1' hb (fp3 (Ne.symm e1) (h.owns j1 c1 h1').1 hq1) (fp2 hq2).1
   ·rw [if_neg e1] at h1'
    rw [if_neg e2] at h2'
    exact h.apart j1 j2 c1 c2 q h1' h2' (fp3 (Ne.symm e1) (h.owns j1 c1 h1').1 hq1) (fp3 (Ne.symm e2) (h.owns j2 c2 h2').1 hq2)
 ·have hj':B2 σ'.hp j = some b:=hj
  rw [look'] at hj'
  by_cases en:σ.nx = j
  ·subst en
   rw [if_pos rfl] at hj'
   cases hj'
   exact h.mine i _ q hb (fp1i (fp1 hq))
  ·rw [if_neg en] at hj'
   by_cases ei:i = j
   ·subst ei
    rw [if_pos rfl] at hj'
    cases hj'
    exact h.mine i _ q hb (fp2 hq).1
   ·rw [if_neg ei] at hj'
    exact h.mine j b q hj' (fp3 (Ne.symm ei) (h.owns j b hj').1 hq)
 ·have hn0:=h.base.1
  rw [hθ1 j (by omega)]
  refine (h.base.2 j hj).imp id fun ⟨h1,h2⟩=>⟨h1,fun ⟨e2,sz2,v2,l2,hl,hkk⟩=>h2 ?_⟩
  have hl':B2 σ'.hp j = some (.row e2 sz2 v2 l2):=hl
  rw [look',if_neg (by omega)] at hl'
  by_cases ei:i = j
  ·subst ei
   rw [if_pos rfl] at hl'
   have hl':some (D9.row e sz ver (l.set k (el.set off .any))) = some (.row e2 sz2 v2 l2):=hl'
   cases hl'
   exact ⟨_,_,_,_,hb,hkk⟩
  ·rw [if_neg ei] at hl'
   exact ⟨_,_,_,_,hl',hkk⟩
theorem H0.give {i ver k off e sz e' sz' m vm g n' cap:Nat} {l l2:List (List AV)} {el:List AV} {w':World} {cur:Array Value} (h:H0 E n θ σ a w) (hb:B2 σ.hp i = some (.row e sz ver l)) (hE:C6 ≤ e) (hk:l[k]? = some el) (hoff:off < sz)
  (hm:B2 σ.hp m = some (.row e' sz' vm l2)) (he':e' < C4) (hmi:m ≠ i) (hθ:θ i = .slice (some ⟨g,0,none⟩) n' cap) (hg:G6 w g cur e) (hbd:k * sz + off < l.length * sz) (hw:w' = w.setRow g (cur.setIfInBounds (k * sz + off) (θ m))) :
  ∃ θ',H0 E n θ' ⟨σ.sl,σ.nx,(m,none) :: (i,some (.row e sz ver (l.set k (el.set off (.own e' sz' l2))))) :: σ.hp⟩ a w':=by
 obtain ⟨hnx,xs,ho,hsz,him,hne⟩:=h.owns i _ hb
 obtain ⟨hnm,ys,hom,hszm,himm,_⟩:=h.owns m _ hm
 obtain ⟨hN1,hN2⟩:=hne hE
 have hkl:k < l.length:=(List.getElem?_eq_some_iff.1 hk).1
 have hN:L7 (.row e sz ver l) = true:=u9 hE
 have hos:w'.os = w.os:=by rw [hw];rfl
 have hsize:w'.heap.size = w.heap.size:=by rw [hw];simp
 have hh:∀ q,q ≠ g → w'.heap[q]? = w.heap[q]?:=fun q hq=>by rw [hw];exact setRow_other w g q _ hq
 have hcs:∀ q,q ≠ k * sz + off → w'.cell? ⟨g,q,none⟩ = w.cell? ⟨g,q,none⟩:=fun q hq=>by rw [hw];exact Gb hg q hq
 let P0:=k * sz + off
 let θ':Th:=⟨θ.v,fun j b=>if j = i then (if fp (θ m) = some b then some P0 else θ.N i b) else θ.N j b⟩
 let b2:D9:=.row e sz ver (l.set k (el.set off (.own e' sz' l2)))
 let σ':St:=⟨σ.sl,σ.nx,(m,none) :: (i,some b2) :: σ.hp⟩
 have look':∀ j,B2 σ'.hp j = if m = j then none else if i = j then some b2 else B2 σ.hp j:=fun j=>by simp only [σ',D5]
 have hNo:∀ j,j ≠ i → θ'.N j = θ.N j:=fun j hj=>by simp only [θ',if_neg hj]
 have hmb:L7 (.row e' sz' vm l2) = false:=I8 (K8 he')
 have fp2:∀ {q:Nat},FP θ' i b2 q → FP θ i (.row e sz ver l) q ∨ fp (θ m) = some q:=fun {q} hq=>by
  rcases hq with hq | ⟨_,p,hp⟩
  ·exact .inl (.inl hq)
  ·simp only [θ',if_pos] at hp
   split at hp
   ·rename_i hq;exact .inr hq
   ·exact .inl (.inr ⟨hN,p,hp⟩)
 have fp3:∀ {j:Nat} {b:D9} {q:Nat},j ≠ i → FP θ' j b q → FP θ j b q:=fun hj hq=>by
  unfold FP at hq ⊢
  rwa [hNo _ hj] at hq
 have hgi:FP θ i (.row e sz ver l) g:=.inl (by rw [hθ];rfl)
 have hgm:∀ q,fp (θ m) = some q → q ≠ g:=fun q hq e2=>hmi (h.apart m i _ _ q hm hb (.inl hq) (by rw [e2];exact hgi))
 have le:(cx E θ σ w).le (cx E θ' σ' w'):=by
  refine ⟨Nat.le_refl _,fun j hj=>.inl rfl,fun j hj e2 sz2 v2 l3 hl=>?_,by rw [show (cx E θ' σ' w').w = w' from rfl,hsize];exact Nat.le_refl _,fun q hq hu=>hh q fun e2=>hu (.inr ⟨i,_,hb,by rw [e2];exact hgi⟩),fun q _ hu=>?_⟩
  ·have hl':B2 σ'.hp j = some (.row e2 sz2 v2 l3):=hl
   rw [look'] at hl'
   by_cases em:m = j
   ·rw [if_pos em] at hl';cases hl'
   ·rw [if_neg em] at hl'
    by_cases ei:i = j
    ·subst ei
     rw [if_pos rfl] at hl'
     have hl':some (D9.row e sz ver (l.set k (el.set off (.own e' sz' l2)))) = some (.row e2 sz2 v2 l3):=hl'
     cases hl'
     exact ⟨e,ver,l,hb, .inr ⟨rfl,by simp,rfl⟩⟩
    ·rw [if_neg ei] at hl'
     exact ⟨e2,v2,l3,hl', .inr ⟨rfl,rfl,rfl⟩⟩
  ·rcases hu with hu | ⟨j,b,hj,hq⟩
   ·exact .inl hu
   ·have hj':B2 σ'.hp j = some b:=hj
    rw [look'] at hj'
    by_cases em:m = j
    ·rw [if_pos em] at hj';cases hj'
    ·rw [if_neg em] at hj'
     by_cases ei:i = j
     ·subst ei
      rw [if_pos rfl] at hj'
      cases hj'
      rcases fp2 hq with h1 | h1
      ·exact .inr ⟨i,_,hb,h1⟩
      ·exact .inr ⟨m,_,hm, .inl h1⟩
     ·rw [if_neg ei] at hj'
      exact .inr ⟨j,b,hj',fp3 (Ne.symm ei) hq⟩
 have hbx:∀ {j:Nat} {b:D9} {q:Nat},j ≠ i → B2 σ.hp j = some b → FP θ j b q → q ≠ g:=fun hji hj hq e2=>hji (h.apart _ i _ _ _ hj hb hq (by rw [e2];exact hgi))
 refine ⟨θ',h.size,h.defers.mono fun q hd=>hh q fun e2=>(h.owns i _ hb).2.nodf hgi (e2 ▸ hd),⟨hos.trans h.fr.os,by rw [hw];exact h.fr.tape,by rw [hw];exact h.fr.output,by rw [hsize];exact h.fr.size,fun q hq hO=>?_⟩,fun s x hs=>(h.slots s x hs).mono le,fun j b hj=>?_,fun j1 j2 c1 c2 q h1 h2 hq1 hq2=>?_,fun j b q hj hq=>?_,h.X,⟨h.base.1,fun j hj=>?_⟩⟩
 ·rw [hh q fun e2=>?_]
  ·exact h.fr.block q hq hO
  ·rcases (h.mine i _ g hb hgi).2 with h2 | h2
   ·exact hO (e2 ▸ h2)
   ·omega
 ·have hj':B2 σ'.hp j = some b:=hj
  rw [look'] at hj'
  by_cases em:m = j
  ·rw [if_pos em] at hj';cases hj'
  ·rw [if_neg em] at hj'
   by_cases ei:i = j
   ·subst ei
    rw [if_pos rfl] at hj'
    cases hj'
    have hxs:xs[P0]? = some (xs[P0]'(by rw [ho.1];exact hbd)):=List.getElem?_eq_getElem _
    refine ⟨hnx,xs.set P0 (θ m),?_,fun el2 hel2=>?_,fun k2 el2 hk2 j2 x2 hx2=>?_,fun _=>⟨fun b p hp=>?_,fun k2 el2 hk2 j2 e2 sz2 m2 hj2=>?_⟩⟩
    ·show J7 w' e sz (θ i) _ _
     refine ⟨by rw [List.length_set,List.length_set];exact ho.1,?_⟩
     rcases ho.2 with ⟨hn,_⟩ | ⟨g',cap',cur',r1,r2,r3,r4,r5,r6,r7⟩
     ·rw [show (cx E θ σ w).θ i = θ i from rfl,hθ] at hn;cases hn
     ·have r1':θ i = .slice (some ⟨g',0,none⟩) l.length cap':=r1
      have eg:g' = g:=by rw [hθ] at r1';injection r1' with e1 e2;injection e1 with e1;injection e1 with e1;exact e1.symm
      subst eg
      have ec:cur' = cur:=by
       obtain ⟨_,_,s1,_⟩:=r3.some
       obtain ⟨_,_,s2,_⟩:=hg.some
       have s1':w.heap[g']? = _:=s1
       rw [s2] at s1'
       injection s1' with s3
       injection s3 with s3
       exact s3.symm
      subst ec
      have hg':G6 w' g' (cur'.setIfInBounds (k * sz + off) (θ m)) e:=by rw [hw];exact hg.set
      exact .inr ⟨g',cap',cur'.setIfInBounds (k * sz + off) (θ m),by rw [List.length_set];exact r1', .ge hE,hg',by rw [List.length_set];exact r4,r5,by simp [r6],by rw [List.length_set,Array.toList_setIfInBounds, ← r7,List.take_set]⟩
    ·rcases List.mem_or_eq_of_mem_set hel2 with h2 | h2
     ·exact hsz _ h2
     ·rw [h2,List.length_set];exact hsz el (List.mem_of_getElem? hk)
    ·obtain ⟨z,hz,hR⟩:=Bf (R:=fun x y=>∃ y0,Im (cx E θ σ w).U w x y0 ∧ y = y0) (v:=θ m) hk hsz ho.1 hoff (fun k el hk j x hx=>by
      obtain ⟨y,hy,hi⟩:=him k el hk j x hx
      exact ⟨y,hy,y,hi,rfl⟩) ⟨θ m, .own e' sz' l2 _,rfl⟩ k2 el2 hk2 j2 x2 hx2
     obtain ⟨y0,hi,rfl⟩:=hR
     exact ⟨z,hz,hi.mono le.heap le.U⟩
    ·show U2 w' b
     have hset:∀ q,U2 w q → U2 w' q:=fun q hq=>by
      by_cases e2:q = g
      ·subst e2
       obtain ⟨t,fz,hgg,_⟩:=hg.some
       exact ⟨_,t,fz,by rw [hw];exact setRow_heap w q cur _ t _ hgg⟩
      ·exact hq.mono (hh q e2)
     have hp':θ'.N i b = some p:=hp
     simp only [θ',if_pos] at hp'
     split at hp'
     ·rename_i hq
      refine hset b ?_
      rcases hom.2 with ⟨h1,_⟩ | ⟨q2,cap2,cur2,h1,_,h3,_⟩
      ·rw [show θ m = (cx E θ σ w).θ m from rfl,h1] at hq;cases hq
      ·rw [show θ m = (cx E θ σ w).θ m from rfl,h1] at hq
       simp [fp] at hq
       subst hq
       obtain ⟨t,fz,h4,_⟩:=h3.some
       exact ⟨_,_,_,h4⟩
     ·exact hset b (hN1 b p hp')
    ·by_cases ek:k = k2 ∧ off = j2
     ·obtain ⟨rfl,rfl⟩:=ek
      rw [List.getElem?_set_self hkl] at hk2
      cases hk2
      have hlt:off < el.length:=by rw [hsz el (List.mem_of_getElem? hk)];exact hoff
      rw [List.getElem?_set_self hlt] at hj2
      cases hj2
      refine .inr ⟨g,n',cap,θ m,ys,hθ,?_,⟨hom.1,hom.2.imp id fun ⟨p,cp,cur2,r1,r2,r3,r4⟩=>⟨p,cp,cur2,r1, .lt (X1 he'),r3.mono (hh p (hgm p (by rw [show θ m = (cx E θ σ w).θ m from rfl,r1];rfl))),r4⟩⟩,he',hszm,fun q el' hq j' x hx=>?_,fun b hb2=>⟨hgm b hb2,?_⟩⟩
      ·show w'.cell? _ = _
       obtain ⟨t,fz,hgg,_⟩:=hg.some
       rw [hw,G5 (setRow_heap w g cur _ t _ hgg)]
       have hcur:k * sz + off < cur.size:=by
        rcases ho.2 with ⟨hn,_⟩ | ⟨g',cap',cur',r1,r2,r3,r4,r5,r6,r7⟩
        ·rw [show (cx E θ σ w).θ i = θ i from rfl,hθ] at hn;cases hn
        ·have r1':θ i = .slice (some ⟨g',0,none⟩) l.length cap':=r1
         have eg:g' = g:=by rw [hθ] at r1';injection r1' with e1 e2;injection e1 with e1;injection e1 with e1;exact e1.symm
         subst eg
         obtain ⟨_,_,s1,_⟩:=r3.some
         have s1':w.heap[g']? = _:=s1
         rw [hgg] at s1'
         injection s1' with s3
         injection s3 with s3
         rw [s3,r6]
         have:=Nat.mul_le_mul_right sz r4
         omega
       simp [hcur]
      ·obtain ⟨z,hz,hi⟩:=himm q el' hq j' x hx
       exact ⟨z,hz,hi.mono le.heap le.U⟩
      ·show θ'.N i b = _
       simp only [θ',if_pos,hb2]
       rfl
     ·have key:∃ el0,l[k2]? = some el0 ∧ el0[j2]? = some (.own e2 sz2 m2) ∧ k2 * sz + j2 ≠ k * sz + off:=by
       by_cases e1:k = k2
       ·subst e1
        rw [List.getElem?_set_self hkl] at hk2
        cases hk2
        have e3:off ≠ j2:=fun e3=>ek ⟨rfl,e3⟩
        rw [List.getElem?_set_ne e3] at hj2
        exact ⟨el,hk,hj2,by omega⟩
       ·rw [List.getElem?_set_ne e1] at hk2
        have hj3:j2 < sz:=by rw [← hsz el2 (List.mem_of_getElem? hk2)];exact (List.getElem?_eq_some_iff.1 hj2).1
        exact ⟨el2,hk2,hj2,IM hj3 hoff e1⟩
      obtain ⟨el0,g1,g2,g3⟩:=key
      rcases hN2 k2 el0 g1 j2 e2 sz2 m2 g2 with ⟨q0,q1,g',n2,cap2,y2,r1,r2,r3⟩ | ⟨g',n2,cap2,y2,ys2,r1,r2,r3,r4,r5,r6,r7⟩
      ·have r1':θ i = .slice (some ⟨g',0,none⟩) n2 cap2:=r1
       have eg:g' = g:=by rw [hθ] at r1';injection r1' with e1 e2;injection e1 with e1;injection e1 with e1;exact e1.symm
       subst eg
       exact .inl ⟨q0,q1,g',n2,cap2,y2,r1',(hcs _ g3).trans r2,r3.mono le⟩
      have r1':θ i = .slice (some ⟨g',0,none⟩) n2 cap2:=r1
      have eg:g' = g:=by rw [hθ] at r1';injection r1' with e1 e2;injection e1 with e1;injection e1 with e1;exact e1.symm
      subst eg
      refine .inr ⟨g',n2,cap2,y2,ys2,r1',(hcs _ g3).trans r2,⟨r3.1,r3.2.imp id fun ⟨p,cp,cur2,s1,s2,s3,s4⟩=>⟨p,cp,cur2,s1, .lt (X1 r4),s3.mono (hh p (r7 p (by rw [s1];rfl)).1),s4⟩⟩,r4,r5,fun q el' hq j' x hx=>?_,fun b hb2=>⟨(r7 b hb2).1,?_⟩⟩
      ·obtain ⟨z,hz,hi⟩:=r6 q el' hq j' x hx
       exact ⟨z,hz,hi.mono le.heap le.U⟩
      ·show θ'.N i b = _
       have h3:=(r7 b hb2).2
       have hne2:fp (θ m) ≠ some b:=fun hy=>hmi (h.apart m i _ _ b hm hb (.inl hy) (.inr ⟨hN,_,h3⟩))
       simp only [θ',if_pos,if_neg hne2]
       exact h3
   ·rw [if_neg ei] at hj'
    obtain ⟨h1,h2⟩:=h.owns j b hj'
    exact ⟨h1,h2.mono le rfl (fun q=>congrFun (hNo j (Ne.symm ei)) q) fun q hq=>hh q (hbx (Ne.symm ei) hj' hq)⟩
 ·have h1':B2 σ'.hp j1 = some c1:=h1
  have h2':B2 σ'.hp j2 = some c2:=h2
  rw [look'] at h1' h2'
  by_cases n1:m = j1
  ·rw [if_pos n1] at h1';cases h1'
  ·by_cases n2:m = j2
   ·rw [if_pos n2] at h2';cases h2'
   ·rw [if_neg n1] at h1'
    rw [if_neg n2] at h2'
    by_cases e1:i = j1 <;> by_cases e2:i = j2
    ·omega
    ·subst e1
     rw [if_pos rfl] at h1'
     rw [if_neg e2] at h2'
     cases h1'
     rcases fp2 hq1 with h3 | h3
     ·exact h.apart i j2 _ c2 q hb h2' h3 (fp3 (Ne.symm e2) hq2)
     ·exact absurd (h.apart m j2 _ c2 q hm h2' (.inl h3) (fp3 (Ne.symm e2) hq2)) n2
    ·subst e2
     rw [if_pos rfl] at h2'
     rw [if_neg e1] at h1'
     cases h2'
     rcases fp2 hq2 with h3 | h3
     ·exact h.apart j1 i c1 _ q h1' hb (fp3 (Ne.symm e1) hq1) h3
     ·exact absurd (h.apart m j1 _ c1 q hm h1' (.inl h3) (fp3 (Ne.symm e1) hq1)) n1
    ·rw [if_neg e1] at h1'
     rw [if_neg e2] at h2'
     exact h.apart j1 j2 c1 c2 q h1' h2' (fp3 (Ne.symm e1) hq1) (fp3 (Ne.symm e2) hq2)
 ·have hj':B2 σ'.hp j = some b:=hj
  rw [look'] at hj'
  by_cases em:m = j
  ·rw [if_pos em] at hj';cases hj'
  ·rw [if_neg em] at hj'
   by_cases ei:i = j
   ·subst ei
    rw [if_pos rfl] at hj'
    cases hj'
    rcases fp2 hq with h3 | h3
    ·exact h.mine i _ q hb h3
    ·exact h.mine m _ q hm (.inl h3)
   ·rw [if_neg ei] at hj'
    exact h.mine j b q hj' (fp3 (Ne.symm ei) hq)
 ·refine (h.base.2 j hj).imp id fun ⟨h1,h2⟩=>⟨h1,fun ⟨e2,sz2,v2,l3,hl,hkk⟩=>h2 ?_⟩
  have hl':B2 σ'.hp j = some (.row e2 sz2 v2 l3):=hl
  rw [look'] at hl'
  by_cases em:m = j
  ·rw [if_pos em] at hl';cases hl'
  ·rw [if_neg em] at hl'
   by_cases ei:i = j
   ·subst ei
    rw [if_pos rfl] at hl'
    have hl':some (D9.row e sz ver (l.set k (el.set off (.own e' sz' l2)))) = some (.row e2 sz2 v2 l3):=hl'
    cases hl'
    exact ⟨_,_,_,_,hb,hkk⟩
   ·rw [if_neg ei] at hl'
    exact ⟨_,_,_,_,hl',hkk⟩
theorem IC {w:World} {g:Nat} {cur:Array Value} {t:TypeId} {fz:Nat × Nat} (h:w.heap[g]? = some (.cells cur t fz)):w.setRow g cur = w:=by
 have hh:(w.setRow g cur).heap = w.heap:=Array.ext_getElem? fun q=>by
  by_cases e:q = g
  ·subst e;rw [setRow_heap w q cur cur t fz h,h]
  ·exact setRow_other w g q _ e
 have e0:∀ w2:World,w2.heap = w.heap → w2.os = w.os → w2.tape = w.tape → w2.output = w.output → w2.drawn = w.drawn → w2 = w:=fun w2 h1 h2 h3 h4 h5=>by
  cases w2;cases w;simp_all
 exact e0 _ hh rfl rfl rfl rfl
theorem HO {e:Nat}:C6 ≤ R1 + e:=by unfold C6 R1;omega
theorem Oq {e:Nat} (he:e < C4):W6 (R1 + e) = true:=by
 simp only [W6,Bool.and_eq_true,Nat.ble_eq,Nat.blt_eq]
 unfold C4 at he;unfold R1 p7;omega
theorem HQ {e:Nat} (he:e < C4):u7 (R1 + e) = e:=by
 unfold u7
 rw [DY (by unfold C4 at he;unfold R1;omega),Bool.cond_false,u9 (by unfold R1;omega),Bool.cond_true]
 unfold R1;omega
theorem My {e:Nat} (he:e < C4):L4 (R1 + e) = false:=by
 cases hb:L4 (R1 + e) with
 | false=>rfl
 | true =>
   simp only [L4,Bool.or_eq_true,Bool.and_eq_true,Nat.ble_eq,Nat.blt_eq] at hb
   unfold C4 at he;unfold G2 R1 Q0 p7 at hb;omega
theorem G6.relab {w:World} {g e F F':Nat} {cur:Array Value} (h:G6 w g cur (F + e)) (h1:C6 ≤ F + e) (h2:C6 ≤ F' + e) (c1:u7 (F + e) = e) (c2:u7 (F' + e) = e):G6 w g cur (F' + e):=by
 refine .inr (.inr (.inl ⟨by unfold C6 at h2;unfold G2;omega,X7 h2,?_⟩))
 rw [c2]
 rcases h with ⟨h,_⟩ | ⟨_,h,_⟩ | ⟨_,_,h⟩ | ⟨h,_⟩
 ·unfold C6 at h1;unfold G2 at h;omega
 ·unfold C6 at h1;unfold G2 at h;omega
 ·rwa [c1] at h
 ·rw [X7 h1] at h;cases h
theorem Ii {i k off e sz ver e' sz':Nat} {l m:List (List AV)} {el:List AV} (hb:B2 σ.hp i = some (.row (C6 + e) sz ver l)) (he:e < C4) (hk:l[k]? = some el) (hj:el[off]? = some (.own e' sz' m)) :
  St.le E n σ ⟨σ.sl,σ.nx + 1,(i,some (.row (R1 + e) sz ver (l.set k (el.set off (.own (C4 + σ.nx) 0 m))))) :: (σ.nx,some (.row e' sz' 0 m)) :: (i,some (.row (C6 + e) sz ver (l.set k (el.set off .any)))) :: σ.hp⟩:=by
 rintro a w ⟨θ,h0⟩
 have hln:W6 (C6 + e) = false:=U7.ln (.inl rfl) he
 have hin:i < σ.nx:=(h0.owns i _ hb).1
 obtain ⟨_,_,_,_,_,hne0⟩:=h0.owns i _ hb
 obtain ⟨g,n',cap,y,θ',h1,h2,h3,h4,h⟩:=h0.take hb (Nat.le_add_right _ _) hk hj hln
 have hkl:k < l.length:=(List.getElem?_eq_some_iff.1 hk).1
 have hol:off < el.length:=(List.getElem?_eq_some_iff.1 hj).1
 generalize hσ:(⟨σ.sl,σ.nx + 1,(σ.nx,some (.row e' sz' 0 m)) :: (i,some (.row (C6 + e) sz ver (l.set k (el.set off .any)))) :: σ.hp⟩:St) = σ1 at h
 have hb1:B2 σ1.hp i = some (.row (C6 + e) sz ver (l.set k (el.set off .any))):=by
  rw [← hσ];simp only [D5];rw [if_neg (by omega),if_pos trivial]
 have hbm:B2 σ1.hp σ.nx = some (.row e' sz' 0 m):=by rw [← hσ];simp only [D5];rw [if_pos trivial]
 have hnx1:σ1.nx = σ.nx + 1:=by rw [← hσ]
 obtain ⟨_,xs,ho,hsz,him,hne⟩:=h.owns i _ hb1
 have hE:C6 ≤ C6 + e:=Nat.le_add_right _ _
 have hsl:∃ x m c,θ' i = .slice x m c:=by
  rcases ho.2 with ⟨h1,_⟩ | ⟨g,cap,cur,h1,_⟩ <;> exact ⟨_,_,_,h1⟩
 have hlen:(l.set k (el.set off (.own (C4 + σ.nx) 0 m))).length = (l.set k (el.set off .any)).length:=by simp
 have ho2:J7 w (R1 + e) sz (θ' i) (l.set k (el.set off (.own (C4 + σ.nx) 0 m))).length xs:=by
  rw [hlen]
  exact ⟨ho.1,ho.2.imp id fun ⟨g,cap,cur,h1,h2,h3,r⟩=>⟨g,cap,cur,h1, .ge HO,h3.relab hE HO (U7.cell (.inl rfl) he) (HQ he),r⟩⟩
 -- a cell of the new list is the lent one,or one of before
 have cell:∀ (k2:Nat) el2,(l.set k (el.set off (.own (C4 + σ.nx) 0 m)))[k2]? = some el2 → ∃ el3,(l.set k (el.set off .any))[k2]? = some el3 ∧ el3.length = el2.length ∧ ∀ (j2:Nat) x,el2[j2]? = some x → (k2 = k ∧ j2 = off ∧ x = .own (C4 + σ.nx) 0 m ∧ el3[j2]? = some .any) ∨ (¬ (k2 = k ∧ j2 = off) ∧ el3[j2]? = some x):=fun k2 el2 hk2=>by
  by_cases ek:k = k2
  ·subst ek
   rw [List.getElem?_set_self hkl] at hk2 ⊢
   cases hk2
   refine ⟨_,rfl,by simp,fun j2 x hx=>?_⟩
   by_cases ej:off = j2
   ·subst ej
    rw [List.getElem?_set_self hol] at hx ⊢
    cases hx
    exact .inl ⟨rfl,rfl,rfl,rfl⟩
   ·rw [List.getElem?_set_ne ej] at hx ⊢
    exact .inr ⟨fun h=>ej h.2.symm,hx⟩
  ·rw [List.getElem?_set_ne ek] at hk2 ⊢
   exact ⟨el2,hk2,rfl,fun j2 x hx=>.inr ⟨fun h=>ek h.1.symm,hx⟩⟩
 have hθi:θ' i = .slice (some ⟨g,0,none⟩) n' cap:=h4.trans h1
 have ht:=h.turn (v':=θ' i) (b':=.row (R1 + e) sz ver (l.set k (el.set off (.own (C4 + σ.nx) 0 m)))) (w':=w) (hkp:=fun _ _ _ _ h hk _=>by cases h;rw [My he] at hk;cases hk) (hne:=fun _=>.inl (u9 hE)) hb1 rfl rfl rfl (Nat.le_refl _) (fun _ _ _=>rfl) (fun k hk=>.inl hk) ⟨hsl,C6 + e,ver,_,rfl, .inr ⟨rfl,hlen.symm,rfl⟩⟩ fun le=>by
  have hN:∀ q p,(K1 θ' i (θ' i)).N i q = some p → U2 w q:=fun q p hq=>(hne hE).1 q p hq
  refine ⟨xs,by simp only [cx,D0];exact ho2,fun el2 hel2=>?_,fun k2 el2 hk2 j2 x2 hx2=>?_,fun _=>⟨hN,fun k2 el2 hk2 j2 e2 sz2 m2 hj2=>?_⟩⟩
  ·obtain ⟨k2,hk2⟩:=List.mem_iff_getElem?.1 hel2
   obtain ⟨el3,c1,c2,_⟩:=cell k2 el2 hk2
   rw [← c2];exact hsz _ (List.mem_of_getElem? c1)
  ·obtain ⟨el3,c1,c2,c3⟩:=cell k2 el2 hk2
   rcases c3 j2 x2 hx2 with ⟨_,_,rfl,c4⟩ | ⟨_,c4⟩
   ·obtain ⟨y,hy,_⟩:=him k2 el3 c1 j2 _ c4
    exact ⟨y,hy, .own _ _ _ y⟩
   ·obtain ⟨y,hy,hz⟩:=him k2 el3 c1 j2 _ c4
    exact ⟨y,hy,hz.mono le.heap le.U⟩
  ·obtain ⟨el3,c1,c2,c3⟩:=cell k2 el2 hk2
   rcases c3 j2 _ hj2 with ⟨rfl,rfl,c5,c4⟩ | ⟨_,c4⟩
   ·cases c5
    refine .inl ⟨Oq he,Nat.le_add_right _ _,g,n',cap,y,by simp only [cx,D0];exact hθi,h2,?_⟩
    rw [Nat.add_sub_cancel_left]
    refine .row _ _ _ _ (by show σ.nx < σ1.nx;omega) fun e2 sz2 v2 l2 hl2=>?_
    have hl3:B2 (σ1.set i _).hp σ.nx = some (.row e2 sz2 v2 l2):=hl2
    simp only [St.set,D5] at hl3
    rw [if_neg (by omega),hbm] at hl3
    cases hl3
    exact ⟨Nat.le_refl _,fun _=>⟨rfl,by simp only [cx];rw [I3 _ _ (by omega)];exact h3.symm⟩⟩
   ·rcases (hne hE).2 k2 el3 c1 j2 e2 sz2 m2 c4 with ⟨q0,_⟩ | ⟨g',n2,cap2,y2,ys2,r1,r2,r3,r4,r5,r6,r7⟩
    ·rw [hln] at q0;cases q0
    ·refine .inr ⟨g',n2,cap2,y2,ys2,by simp only [cx,D0];exact r1,r2,r3,r4,r5,fun q el' hq j' x hx=>?_,r7⟩
     obtain ⟨z,hz,hi⟩:=r6 q el' hq j' x hx
     exact ⟨z,hz,hi.mono le.heap le.U⟩
 rw [← hσ] at ht
 exact ⟨_,ht⟩
def Ij:AV → Bool
 | .own e _ _=>Nat.blt e C4
 | _=>true
theorem Ik {i k off e sz ver e' sz' m vm:Nat} {l0 l2 x:List (List AV)} {el:List AV} (hb:B2 σ.hp i = some (.row (R1 + e) sz ver (l0.set k (el.set off (.own (C4 + m) vm x))))) (he:e < C4) (hk:l0[k]? = some el) (hoff:off < sz)
  (hm:B2 σ.hp m = some (.row e' sz' vm l2)) (he':e' < C4) (hmi:m ≠ i) (hno:∀ el ∈ l0,∀ a ∈ el,Ij a = true) :
  St.le E n σ ⟨σ.sl,σ.nx,(i,some (.row (C6 + e) sz ver (l0.set k (el.set off (.own e' sz' l2))))) :: (m,none) :: (i,some (.row (R1 + e) sz ver (l0.set k (el.set off (.own e' sz' l2))))) :: σ.hp⟩:=by
 rintro a w ⟨θ,h0⟩
 have hkl:k < l0.length:=(List.getElem?_eq_some_iff.1 hk).1
 have hk':(l0.set k (el.set off (.own (C4 + m) vm x)))[k]? = some (el.set off (.own (C4 + m) vm x)):=List.getElem?_set_self hkl
 obtain ⟨_,xs,ho,hsz,him,hne⟩:=h0.owns i _ hb
 have hsz0:el.length = sz:=by have:=hsz _ (List.mem_of_getElem? hk');simpa using this
 have hol:off < el.length:=by omega
 have hj':(el.set off (AV.own (C4 + m) vm x))[off]? = some (.own (C4 + m) vm x):=List.getElem?_set_self hol
 have hE:C6 ≤ R1 + e:=HO
 rcases (hne hE).2 k _ hk' off _ _ _ hj' with ⟨_,_,g,n',cap,y,q1,q2,q3⟩ | ⟨g,n',cap,y,ys,q1,q2,q3,q4,_⟩
 rotate_left
 ·exact absurd q4 (by omega)
 rw [Nat.add_sub_cancel_left] at q3
 have hy:y = θ m:=(N4 q3 hm).2.1
 have q1':θ i = .slice (some ⟨g,0,none⟩) n' cap:=q1
 rcases ho.2 with ⟨hn,_⟩ | ⟨g',cap',cur,r1,r2,r3,r4,r5,r6,r7⟩
 ·rw [show (cx E θ σ w).θ i = θ i from rfl,q1'] at hn;cases hn
 have r1':θ i = .slice (some ⟨g',0,none⟩) _ cap':=r1
 have eg:g' = g:=by rw [q1'] at r1';injection r1' with e1 e2;injection e1 with e1;injection e1 with e1;exact e1.symm
 subst eg
 have hbd:k * sz + off < (l0.set k (el.set off (.own (C4 + m) vm x))).length * sz:=by
  rw [List.length_set]
  have:=Nat.mul_le_mul_right sz (show k + 1 ≤ l0.length by omega)
  rw [Nat.add_mul,Nat.one_mul] at this
  omega
 have hw:w = w.setRow g' (cur.setIfInBounds (k * sz + off) (θ m)):=by
  obtain ⟨t,fz,s1,_⟩:=r3.some
  have s1':w.heap[g']? = some (.cells cur t fz):=s1
  have hc:cur[k * sz + off]? = some (θ m):=by
   have:=q2
   rw [show (cx E θ σ w).w = w from rfl,G5 s1',hy] at this
   exact this
  have:cur.setIfInBounds (k * sz + off) (θ m) = cur:=by
   refine Array.ext_getElem? fun q=>?_
   by_cases e2:k * sz + off = q
   ·subst e2
    rw [hc]
    have hlt:k * sz + off < cur.size:=(Array.getElem?_eq_some_iff.1 hc).1
    rw [Array.getElem?_setIfInBounds_self_of_lt hlt]
   ·rw [Array.getElem?_setIfInBounds_ne e2]
  rw [this,IC s1']
 obtain ⟨θ',h⟩:=h0.give hb hE hk' hoff hm he' hmi q1' r3 hbd hw
 rw [List.set_set,List.set_set] at h
 generalize hσ:(⟨σ.sl,σ.nx,(m,none) :: (i,some (.row (R1 + e) sz ver (l0.set k (el.set off (.own e' sz' l2))))) :: σ.hp⟩:St) = σ1 at h
 have hb1:B2 σ1.hp i = some (.row (R1 + e) sz ver (l0.set k (el.set off (.own e' sz' l2)))):=by
  rw [← hσ];simp only [D5];rw [if_neg hmi,if_pos trivial]
 obtain ⟨_,xs1,ho1,hsz1,him1,hne1⟩:=h.owns i _ hb1
 have hsl:∃ x m c,θ' i = .slice x m c:=by
  rcases ho1.2 with ⟨h1,_⟩ | ⟨g,cap,cur,h1,_⟩ <;> exact ⟨_,_,_,h1⟩
 have hE2:C6 ≤ C6 + e:=Nat.le_add_right _ _
 have ho2:J7 w (C6 + e) sz (θ' i) (l0.set k (el.set off (.own e' sz' l2))).length xs1 :=
  ⟨ho1.1,ho1.2.imp id fun ⟨g,cap,cur,h1,h2,h3,r⟩=>⟨g,cap,cur,h1, .ge hE2,h3.relab hE hE2 (HQ he) (U7.cell (.inl rfl) he),r⟩⟩
 have hnt:∀ (k2:Nat) el2,(l0.set k (el.set off (.own e' sz' l2)))[k2]? = some el2 → ∀ (j2 e2 sz2:Nat) m2,el2[j2]? = some (.own e2 sz2 m2) → e2 < C4:=fun k2 el2 hk2 j2 e2 sz2 m2 hj2=>by
  have lt:∀ {z:AV},Ij z = true → z = .own e2 sz2 m2 → e2 < C4:=fun h1 h2=>by subst h2;exact Nat.blt_eq ▸ h1
  by_cases ek:k = k2
  ·subst ek
   rw [List.getElem?_set_self hkl] at hk2
   cases hk2
   by_cases ej:off = j2
   ·subst ej
    rw [List.getElem?_set_self hol] at hj2
    cases hj2;exact he'
   ·rw [List.getElem?_set_ne ej] at hj2
    exact lt (hno el (List.mem_of_getElem? hk) _ (List.mem_of_getElem? hj2)) rfl
  ·rw [List.getElem?_set_ne ek] at hk2
   exact lt (hno el2 (List.mem_of_getElem? hk2) _ (List.mem_of_getElem? hj2)) rfl
 have ht:=h.turn (v':=θ' i) (b':=.row (C6 + e) sz ver (l0.set k (el.set off (.own e' sz' l2)))) (w':=w) (hkp:=fun _ _ _ _ h hk _=>by cases h;rw [EU he] at hk;cases hk) (hne:=fun _=>.inl (u9 hE)) hb1 rfl rfl rfl (Nat.le_refl _) (fun _ _ _=>rfl) (fun k hk=>.inl hk) ⟨hsl,R1 + e,ver,_,rfl, .inr ⟨rfl,rfl,rfl⟩⟩ fun le=>by
  have hN:∀ q p,(K1 θ' i (θ' i)).N i q = some p → U2 w q:=fun q p hq=>(hne1 hE).1 q p hq
  refine ⟨xs1,by simp only [cx,D0];exact ho2,hsz1,fun k2 el2 hk2 j2 x2 hx2=>?_,fun _=>⟨hN,fun k2 el2 hk2 j2 e2 sz2 m2 hj2=>?_⟩⟩
  ·obtain ⟨y,hy,hz⟩:=him1 k2 el2 hk2 j2 _ hx2
   exact ⟨y,hy,hz.mono le.heap le.U⟩
  ·have hlt:=hnt k2 el2 hk2 j2 e2 sz2 m2 hj2
   rcases (hne1 hE).2 k2 el2 hk2 j2 e2 sz2 m2 hj2 with ⟨_,q0,_⟩ | ⟨g',n2,cap2,y2,ys2,r1,r2,r3,r4,r5,r6,r7⟩
   ·exact absurd q0 (by omega)
   ·refine .inr ⟨g',n2,cap2,y2,ys2,by simp only [cx,D0];exact r1,r2,r3,r4,r5,fun q el' hq j' x hx=>?_,r7⟩
    obtain ⟨z,hz,hi⟩:=r6 q el' hq j' x hx
    exact ⟨z,hz,hi.mono le.heap le.U⟩
 rw [← hσ] at ht
 exact ⟨_,ht⟩
end ghost
section rules
variable {P:Program} {E:Env} {n:Nat} {ops:Array Oper} {rest:List Oper} {σ:St} {K:St → Prop} {ty:TypeId} {pos:String} {after:Array Edge} {x y:Operand}
theorem Fp {d T szT:Nat} [tv:G3 P T false szT] {i ver k off e sz m vm:Nat} {l x2:List (List AV)} {el:List AV} (hk:l[k]? = some el) (hx:D8 σ x = some (.elt i ver k off)) (hb:B2 σ.hp i = some (.row e sz ver l)) (hE:W6 e = true) (hj:el[off]? = some (.own (C4 + m) vm x2)) (hd:Nat.blt d n = true)
  (kk:B6 P E n ops rest (σ.put d (.row m vm x2.length)) K):B6 P E n ops (⟨some d, .load T x,ty,pos,after,none⟩ :: rest) σ K:=by
 intro a w ⟨θ,hs⟩
 obtain ⟨g,n',cap,hθ,hv,_⟩:=X2 (hs.evT.rel hx) hb
 obtain ⟨_,_,_,_,_,hne⟩:=hs.owns i _ hb
 have hEn:C6 ≤ e:=by
  simp only [W6,Bool.and_eq_true,Nat.ble_eq] at hE
  have:=hE.1;unfold R1 at this;unfold C6;omega
 rcases (hne hEn).2 k _ hk off _ _ _ hj with ⟨_,_,g2,n2,cap2,y,q1,q2,q3⟩ | ⟨g2,n2,cap2,y,ys,q1,q2,q3,q4,_⟩
 rotate_left
 ·exact absurd q4 (by omega)
 rw [Nat.add_sub_cancel_left] at q3
 have hθ':θ i = .slice (some ⟨g,0,none⟩) n' cap:=hθ
 have q1':θ i = .slice (some ⟨g2,0,none⟩) n2 cap2:=q1
 have eg:g2 = g:=by rw [hθ'] at q1';injection q1' with e1 e2;injection e1 with e1;injection e1 with e1;exact e1.symm
 subst eg
 unfold wpList
 rw [if_pos (by simp [Region.wanted])]
 left
 have hex:(execOp a.eval ⟨some d, .load T x,ty,pos,after,none⟩).run P w = .ok (.value y) w:=by
  simp only [execOp,hv,Instr.loadAt,Instr.sureAddr,Sem.run_bind,Sem.run_pure,Result.andThen_ok]
  rw [T5 (P:=P) (sz:=szT) (v:=y) (show w.cell? _ = _ from q2)]
  rfl
 simp only [Oper.wp,hex,Oper.upon]
 exact kk _ _ ⟨_,hs.put (Nat.blt_eq ▸ hd) q3⟩
theorem Fq {T szT:Nat} [tv:G3 P T false szT] {i ver k off e sz e' sz' m vm len:Nat} {l l2:List (List AV)} {el:List AV} (hk:l[k]? = some el) (hx:D8 σ x = some (.elt i ver k off)) (hy:D8 σ y = some (.row m vm len)) (hb:B2 σ.hp i = some (.row e sz ver l)) (hE:Nat.ble C6 e = true)
  (hm:B2 σ.hp m = some (.row e' sz' vm l2)) (he':Nat.blt e' C4 = true) (hmi:Nat.beq m i = false) (hoff:Nat.blt off sz = true) (h1s:szT = 1)
  (kk:B6 P E n ops rest ⟨σ.sl,σ.nx,(m,none) :: (i,some (.row e sz ver (l.set k (el.set off (.own e' sz' l2))))) :: σ.hp⟩ K):B6 P E n ops (⟨none, .store T x y,ty,pos,after,none⟩ :: rest) σ K:=by
 intro a w ⟨θ,hs⟩
 obtain ⟨g,n',cap,hθ,hv,_⟩:=X2 (hs.evT.rel hx) hb
 obtain ⟨_,hvm,_⟩:=N4 (hs.evT.rel hy) hm
 obtain ⟨xs,hown,hsz,hr⟩:=hs.evT.row hb
 have hθ':θ i = .slice (some ⟨g,0,none⟩) n' cap:=hθ
 have hvm':a.eval y = θ m:=hvm
 have hkl:k < l.length:=(List.getElem?_eq_some_iff.1 hk).1
 have ho:=Nat.blt_eq ▸ hoff
 have hbound:k * sz + off < l.length * sz:=by
  have:(k + 1) * sz ≤ l.length * sz:=Nat.mul_le_mul_right _ hkl
  rw [Nat.add_mul,Nat.one_mul] at this
  omega
 rcases hown.2 with ⟨hn,_⟩ | ⟨g',cap',cur,r1,r2,r3,r4,r5,r6,r7⟩
 ·rw [hθ'] at hn;cases hn
 ·have r1':θ i = .slice (some ⟨g',0,none⟩) l.length cap':=r1
  have eg:g' = g:=by rw [hθ'] at r1';injection r1' with e1 e2;injection e1 with e1;injection e1 with e1;exact e1.symm
  subst eg
  obtain ⟨xm,hom,_⟩:=hs.evT.row hm
  have hyo:(a.eval y).oneCell' = true:=by
   rw [hvm']
   rcases hom.2 with ⟨h1,_⟩ | ⟨_,_,_,h1,_⟩ <;> rw [h1] <;> rfl
  have hcap:=Nat.mul_le_mul_right sz r4
  have hrun:=BR (P:=P) (T:=T) (ag:=false) (sz:=szT) (v:=a.eval y) hyo (q8 hyo) h1s r3 (X7 (Nat.ble_eq ▸ hE)) (off:=k * sz + off) (by omega)
  unfold wpList
  rw [if_pos (by simp [Region.wanted])]
  left
  have hex:=z6 (ty:=ty) (pos:=pos) (after:=after) (o:=none) hv hrun
  simp only [Oper.wp,hex,Oper.upon]
  have hmi2:m ≠ i:=fun e2=>by subst e2;simp at hmi
  obtain ⟨θ',h4⟩:=hs.give hb (Nat.ble_eq ▸ hE) hk ho hm (Nat.blt_eq ▸ he') hmi2 r1' r3 hbound rfl
  rw [hvm']
  exact kk _ _ ⟨θ',by simpa [Act.put] using h4⟩
end rules
end Go.Av
