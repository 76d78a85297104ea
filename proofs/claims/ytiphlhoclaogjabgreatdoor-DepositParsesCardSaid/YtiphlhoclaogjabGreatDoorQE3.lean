/- Regions that draw their order, of quiet operations. Blocks under other numbers; calls that are handed memory of one's own. Regions that draw their order and write: every order, pure operations first. Regions that draw their order: what only makes or reads what nobody writes may happen at any time. What came in, read as abstract values; and a law's contract out of a call. One word for many steps of the walk: what a goal asks instead. -/
import Derived.Test.YtiphlhoclaogjabGreatDoorQE2
import Derived.Orders
import Derived.Carry
import Derived.RowKit
import Derived.OpenShut
import Derived.KernelRfl
set_option linter.unusedSimpArgs false
set_option linter.unusedVariables false
set_option linter.unnecessarySimpa false
namespace Go.Av
open Go Go.RowKit
class Ic (P:Program):Prop where
 out:P.follows .mixedOrders = true
section congr
variable {P:Program} {hp:Hp} {ev ev':Operand → Option AV} {F:AV → Prop}
theorem Bz:∀ {l:List Operand},(∀ x ∈ l,ev x = ev' x) → e7 ev l = e7 ev' l
 | [],_=>rfl
 | x :: r,h=>by simp only [e7,h x (by simp),Bz (l:=r) fun y hy=>h y (by simp [hy])]
theorem Ea:∀ {l:List (Nat × Operand)},(∀ x ∈ l.map (·.2),ev x = ev' x) → n7 ev l = n7 ev' l
 | [],_=>rfl
 | (i,x) :: r,h=>by simp only [n7,h x (by simp),Ea (l:=r) fun y hy=>h y (by simp at hy ⊢;exact .inr hy)]
theorem JQ {m:Nat} {o:Option Operand} (h:∀ x,o = some x → ev x = ev' x):Y9 ev m o = Y9 ev' m o:=by
 cases o with
 | none=>rfl
 | some x=>simp only [Y9,h x rfl]
theorem QZ {op:Op} (h:∀ x ∈ op.operands.toList,ev x = ev' x) (ho:Bx P op ev hp F):Bx P op ev' hp F:=by
 unfold Bx at ho
 split at ho
 ·rename_i x;rw [h x (by simp [Op.operands])] at ho;exact ho
 ·rename_i x;rw [h x (by simp [Op.operands])] at ho;exact ho
 ·rename_i c a b
  rw [h c (by simp [Op.operands]),h a (by simp [Op.operands]),h b (by simp [Op.operands])] at ho;exact ho
 ·rename_i op T x y T2;rw [h x (by simp [Op.operands]),h y (by simp [Op.operands])] at ho;exact ho
 ·rename_i T x;rw [h x (by simp [Op.operands])] at ho;exact ho
 ·rename_i T x;rw [h x (by simp [Op.operands])] at ho;exact ho
 ·rename_i T x;rw [h x (by simp [Op.operands])] at ho;exact ho
 ·rename_i S x f;rw [h x (by simp [Op.operands])] at ho;exact ho
 ·rename_i T x y;rw [h x (by simp [Op.operands]),h y (by simp [Op.operands])] at ho;exact ho
 ·rename_i T x y;rw [h x (by simp [Op.operands]),h y (by simp [Op.operands])] at ho;exact ho
 ·rename_i x;rw [h x (by simp [Op.operands])] at ho;exact ho
 ·rename_i S T x;rw [h x (by simp [Op.operands])] at ho;exact ho
 ·rename_i x T;rw [h x (by simp [Op.operands,Call.operands])] at ho;exact ho
 ·rename_i x y T U;rw [h x (by simp [Op.operands,Call.operands]),h y (by simp [Op.operands,Call.operands])] at ho;exact ho
 ·rename_i x y T U;rw [h x (by simp [Op.operands,Call.operands]),h y (by simp [Op.operands,Call.operands])] at ho;exact ho
 ·rename_i f args ts
  rw [Bz (ev':=ev') (fun x hx=>h x (by simp [Op.operands,Call.operands];exact .inr hx))] at ho;exact ho
 ·rename_i t args ts
  rw [h (.tmp t) (by simp [Op.operands,Call.operands]),Bz (ev':=ev') (fun x hx=>h x (by simp [Op.operands,Call.operands];exact .inr hx))] at ho;exact ho
 ·rename_i T parts
  rw [Ea (ev':=ev') (fun x hx=>h x (by simpa [Op.operands] using hx))] at ho;exact ho
 ·rename_i T len parts
  rw [Ea (ev':=ev') (fun x hx=>h x (by simpa [Op.operands] using hx))] at ho;exact ho
 ·rename_i T x y ok;rw [h x (by simp [Op.operands]),h y (by simp [Op.operands])] at ho;exact ho
 ·rename_i T x lo hi
  have e1:∀ m,Y9 ev m lo = Y9 ev' m lo:=fun m=>JQ fun y hy=>h y (by subst hy;simp [Op.operands])
  have e2:∀ m,Y9 ev m hi = Y9 ev' m hi:=fun m=>JQ fun y hy=>h y (by subst hy;simp [Op.operands])
  unfold HO at ho
  simp only [e1,e2] at ho
  rw [h x (by simp [Op.operands])] at ho
  exact ho
 ·rename_i x k;rw [h x (by simp [Op.operands])] at ho;exact ho
 ·rename_i f xs
  rw [Bz (ev':=ev') (fun x hx=>h x (by simpa [Op.operands] using hx))] at ho;exact ho
 ·exact ho.elim
end congr
def Eb (f:Nat → Option AV):Operand → Option AV
 | .tmp t=>f t
 | .const c=>some (R4 c)
 | .global g=>some (OM g)
 | .func f=>some (.v (.func (.func f) #[] #[]))
theorem Id (σ:St):F1 σ = Eb (look σ.sl):=by funext x;cases x <;> rfl
open Classical in
noncomputable def rs (op:Op) (ev:Operand → Option AV):Operand → Option AV:=fun x=>if x ∈ op.operands.toList then ev x else none
def v7 (f:Nat → Option AV) (d:Nat) (a:AV):Nat → Option AV:=fun s=>if d = s then some a else f s
section quiet
variable {P:Program} {E:Env} {n nx:Nat} {hp:Hp} {ev:Operand → Option AV} {ops:Array Oper} {σ:St} {K:(Nat → Option AV) → Prop} {f f':Nat → Option AV}
theorem Sq {op:Op} {ty:Nat} {av:AV} {ev ev':Operand → Option AV} (h:∀ x a,ev x = some a → ev' x = some a) (hq:G5 P E nx hp ev op ty av):G5 P E nx hp ev' op ty av :=
 fun d pos after θ a w K hs hk=>hq d pos after θ a w K ⟨hs.fr,hs.owns,hs.X,fun hx=>hs.rel (h _ _ hx),hs.apart,hs.fresh,hs.tab⟩ hk
theorem Qa {op:Op} {ty:Nat} {F:AV → Prop} (h:Bx P op ev hp F):∃ av,G5 P E nx hp (rs op ev) op ty av ∧ F av :=
 Uy (QZ (fun x hx=>by simp [rs,hx]) h)
def QS (P:Program) (E:Env) (nx:Nat) (hp:Hp) (ops:Array Oper) (o:Oper) (f:Nat → Option AV) (av:AV):Prop :=
 match o.guard with
 | none=>G5 P E nx hp (rs o.op (Eb f)) o.op o.type av
 | some (j,g)=>∃ dj,(ops[j]?).bind (·.dst) = some dj ∧ ((f dj = some (.v (.bool g)) ∧ G5 P E nx hp (rs o.op (Eb f)) o.op o.type av) ∨ (f dj = some (.v (.bool (!g))) ∧ av = .v undef) ∨ ∃ t,f dj = some (.v (.tuple t)) ∧ av = .v undef)
theorem Sr {op:Op} (h:∀ x ∈ op.operands.toList,Eb f x = Eb f' x):rs op (Eb f) = rs op (Eb f'):=by
 funext x
 unfold rs
 split
 ·rename_i hx;exact h x hx
 ·rfl
theorem QS.congr {o:Oper} {av:AV} (h:∀ d ∈ o.looksAt ops,f d = f' d) (hq:QS P E nx hp ops o f av):QS P E nx hp ops o f' av:=by
 have hr:rs o.op (Eb f) = rs o.op (Eb f'):=Sr fun x hx=>by
  cases x with
  | tmp t=>exact h t (List.mem_append_left _ (List.mem_filterMap.2 ⟨.tmp t,hx,rfl⟩))
  | _=>rfl
 unfold QS at hq ⊢
 split at hq
 ·rw [← hr];exact hq
 ·rename_i j g hg
  obtain ⟨dj,hj,hq⟩:=hq
  have hd:f dj = f' dj:=h dj (by simp [Oper.looksAt,hg,hj])
  refine ⟨dj,hj,?_⟩
  rw [← hr, ← hd]
  exact hq
def QW (P:Program) (E:Env) (n nx:Nat) (hp:Hp) (ops:Array Oper):List Oper → (Nat → Option AV) → ((Nat → Option AV) → Prop) → Prop
 | [],f,K=>K f
 | o :: r,f,K=>∃ d av,o.dst = some d ∧ d < n ∧ QS P E nx hp ops o f av ∧ QW P E n nx hp ops r (v7 f d av) K
theorem Qb {d e:Nat} {a b:AV} (h:d ≠ e):v7 (v7 f d a) e b = v7 (v7 f e b) d a:=by
 funext s
 unfold v7
 by_cases h1:e = s
 ·subst h1;simp [h]
 ·simp [h1]
theorem QW.swap {x y:Oper} {r:List Oper} (hap:x.apart ops y = true) (h:QW P E n nx hp ops (x :: y :: r) f K):QW P E n nx hp ops (y :: x :: r) f K:=by
 obtain ⟨dx,ax,hdx,hnx,hqx,dy,ay,hdy,hny,hqy,hr⟩:=h
 obtain ⟨h1,h2,h3⟩:=Oper.apart_spec hap
 have hne:dx ≠ dy:=fun e=>h2 dx hdx (e ▸ hdy)
 have hy:QS P E nx hp ops y f ay:=hqy.congr fun s hs=>by
  have:dx ≠ s:=fun e=>h1 dx hdx (e ▸ hs)
  simp [v7,this]
 have hx:QS P E nx hp ops x (v7 f dy ay) ax:=hqx.congr fun s hs=>by
  have:dy ≠ s:=fun e=>h3 dy hdy (e ▸ hs)
  simp [v7,this]
 exact ⟨dy,ay,hdy,hny,hy,dx,ax,hdx,hnx,hx,by rw [← Qb hne];exact hr⟩
theorem QW.first {o:Oper}:∀ {pre post:List Oper} {f:Nat → Option AV},(∀ p ∈ pre,p.apart ops o = true) → QW P E n nx hp ops (pre ++ o :: post) f K → QW P E n nx hp ops (o :: (pre ++ post)) f K
 | [],post,f,_,h=>h
 | p :: pre,post,f,hap,h=>by
   obtain ⟨d,av,hd,hn,hq,hr⟩:=h
   have:=QW.first (pre:=pre) (fun q hq=>hap q (by simp [hq])) hr
   exact QW.swap (hap p (by simp)) ⟨d,av,hd,hn,hq,this⟩
def VA (ops:Array Oper) (i j:Nat):Bool :=
 match ops[i]?,ops[j]? with
 | some oi,some oj=>oi.after.any (fun e=>Region.binds .any e && Nat.beq e.on j) || oj.apart ops oi
 | _,_=>true
def VB (ops:Array Oper) (i:Nat):Bool :=
 match ops[i]? with
 | some o=>o.after.all fun e=>!Region.binds .any e || Nat.blt e.on i
 | none=>true
def BH (ops:Array Oper):Bool:=(List.range ops.size).all fun i=>VB ops i && (List.range i).all fun j=>VA ops i j
theorem Ok (h:BH ops = true) {i j:Nat} {oi oj:Oper} (hij:j < i) (hi:ops[i]? = some oi) (hj:ops[j]? = some oj):(∃ e ∈ oi.after,Region.binds .any e = true ∧ e.on = j) ∨ oj.apart ops oi = true:=by
 have hlt:i < ops.size:=(Array.getElem?_eq_some_iff.1 hi).1
 unfold BH at h
 rw [List.all_eq_true] at h
 have h1:=h i (List.mem_range.2 hlt)
 rw [Bool.and_eq_true,List.all_eq_true] at h1
 have h2:=h1.2 j (List.mem_range.2 hij)
 unfold VA at h2
 rw [hi,hj] at h2
 simp only [Bool.or_eq_true] at h2
 rcases h2 with h2 | h2
 ·left
  obtain ⟨k,hk,h3⟩:=Array.any_eq_true.1 h2
  simp only [Bool.and_eq_true] at h3
  exact ⟨oi.after[k],Array.getElem_mem hk,h3.1,Nat.eq_of_beq_eq_true h3.2⟩
 ·exact .inr h2
theorem Ol (h:BH ops = true) {i:Nat} {oi:Oper} (hi:ops[i]? = some oi):∀ e ∈ oi.after,Region.binds .any e = true → e.on < i:=by
 have hlt:i < ops.size:=(Array.getElem?_eq_some_iff.1 hi).1
 unfold BH at h
 rw [List.all_eq_true] at h
 have h1:=h i (List.mem_range.2 hlt)
 rw [Bool.and_eq_true] at h1
 have h2:=h1.1
 unfold VB at h2
 rw [hi] at h2
 intro e he hb
 simp only [Array.all_eq_true_iff_forall_mem,Bool.or_eq_true] at h2
 have:=h2 e he
 rw [hb] at this
 simpa [Nat.blt_eq] using this
def left (ops:Array Oper) (listed:Array Bool):List Nat:=(List.range ops.size).filter fun i=>!listed.getD i true
def Om (E:Env) (n nx:Nat) (hp:Hp) (f:Nat → Option AV) (a:Act) (w:World):Prop:=∃ σ:St,(∀ s,look σ.sl s = f s) ∧ σ.nx = nx ∧ σ.hp = hp ∧ d9 E n σ a w
theorem ZG {o:Oper} {d:Nat} {av:AV} {a:Act} {w:World} {Q:Exit → Act → World → Prop} {C:Act → World → Prop} {i:Nat} (hi:ops[i]? = some o) (hd:o.dst = some d) (hn:d < n) (hq:QS P E nx hp ops o f av) (hs:Om E n nx hp f a w)
  (hk:∀ a' w',Om E n nx hp (v7 f d av) a' w' → C a' w'):wpOp P ops Q i C a w:=by
 obtain ⟨σ,hl,rfl,rfl,θ,hs⟩:=hs
 have hev:Eb f = F1 σ:=by rw [Id];congr 1;funext s;exact (hl s).symm
 have step:∀ {v:Value} {w':World},Below w.heap.size w w' → F0 (cx E θ σ w') av v → C (a.put (some d) v) w':=fun hb hr =>
  hk _ _ ⟨σ.put d av,fun s=>by simp only [St.put,F7,v7,hl],rfl,rfl,θ,(hs.below hb).put hn hr⟩
 unfold wpOp
 simp only [hi]
 have wantV:∀ {t:Nat} {b:Bool},f t = some (.v (.bool b)) → a.tmps[t]? = some (.bool b):=by
  intro t b hb
  have h1:=(hs.slots t _ (by rw [hl];exact hb)).val
  rw [Array.getD_eq_getD_getElem?] at h1
  cases hg:a.tmps[t]? with
  | none=>rw [hg] at h1;exact absurd h1 (by simp [undef])
  | some v=>rw [hg] at h1;simp at h1;rw [h1]
 have run:G5 P E σ.nx σ.hp (rs o.op (Eb f)) o.op o.type av → o.wp P a w C Q:=by
  intro hq
  have hq':G5 P E σ.nx σ.hp (F1 σ) o.op o.type av:=Sq (fun x b hx=>by
   unfold rs at hx
   split at hx
   ·rw [← hev];exact hx
   ·cases hx) hq
  have hv:=hq' o.dst o.pos o.after θ a w (fun v w'=>Below w.heap.size w w' ∧ F0 (cx E θ σ w') av v) hs.evT fun v w' hb hr=>⟨hb,hr⟩
  have hvw:EI P o a w (fun v w'=>Below w.heap.size w w' ∧ F0 (cx E θ σ w') av v):=by
   have e:EI P o a w = EI P ⟨o.dst,o.op,o.type,o.pos,o.after,none⟩ a w:=by
    funext K
    unfold EI
    have:execOp a.eval o = execOp a.eval ⟨o.dst,o.op,o.type,o.pos,o.after,none⟩:=by
     obtain ⟨_,op,_,_,_,_⟩:=o
     cases op <;> rfl
    rw [this]
   rw [e]
   exact hv
  exact Kd hvw fun v w' hv=>by rw [hd];exact step hv.1 hv.2
 unfold QS at hq
 split at hq
 ·rename_i hg
  rw [if_pos (by simp [Region.wanted,hg])]
  exact .inl (run hq)
 ·rename_i j g hg
  obtain ⟨dj,hj,hq⟩:=hq
  rcases hq with ⟨hb,hq⟩ | ⟨hb,rfl⟩ | ⟨t,hb,rfl⟩
  ·have:yielded ops a.tmps j = some g:=by simp [yielded,hj,wantV hb]
   rw [if_pos (by simp [Region.wanted,hg,this])]
   exact .inl (run hq)
  ·have:yielded ops a.tmps j = some (!g):=by simp [yielded,hj,wantV hb]
   rw [if_neg (by simp [Region.wanted,hg,this])]
   rw [hd]
   exact step (Below.refl _ _) (.im (.v _))
  ·have:yielded ops a.tmps j = none:=by
    have h1:=(hs.slots dj _ (by rw [hl];exact hb)).val
    rw [Array.getD_eq_getD_getElem?] at h1
    unfold yielded
    rw [hj]
    simp only [Option.bind_some]
    cases hg:a.tmps[dj]? with
    | none=>rfl
    | some v=>rw [hg] at h1;simp at h1;rw [h1]
   rw [if_neg (by simp [Region.wanted,hg,this])]
   rw [hd]
   exact step (Below.refl _ _) (.im (.v _))
theorem AA (p:Nat → Bool) (m:Nat) {pre post:List Nat} {i:Nat} (h:(List.range m).filter p = pre ++ i :: post):(∀ j ∈ pre,j < i) ∧ i ∉ pre ∧ i ∉ post:=by
 have hs:((List.range m).filter p).Pairwise (· < ·):=List.Pairwise.filter _ (List.pairwise_lt_range)
 rw [h,List.pairwise_append] at hs
 obtain ⟨_,h2,h3⟩:=hs
 rw [List.pairwise_cons] at h2
 have h4:∀ j ∈ pre,j < i:=fun j hj=>h3 j hj i (by simp)
 exact ⟨h4,fun hc=>Nat.lt_irrefl _ (h4 i hc),fun hc=>Nat.lt_irrefl _ (h2.1 i hc)⟩
theorem LD {listed:Array Bool} {i:Nat} {pre post:List Nat} (h:left ops listed = pre ++ i :: post):left ops (listed.setIfInBounds i true) = pre ++ post:=by
 obtain ⟨_,h2,h3⟩:=AA _ _ h
 have e:left ops (listed.setIfInBounds i true) = (left ops listed).filter (fun j=>decide (j ≠ i)):=by
  unfold left
  rw [List.filter_filter]
  congr 1
  funext j
  by_cases hj:j = i
  ·subst hj
   by_cases hlt:j < listed.size
   ·simp [Array.getD,hlt]
   ·simp [Array.getD,hlt]
  ·have:(listed.setIfInBounds i true).getD j true = listed.getD j true:=by
    rw [Array.getD_eq_getD_getElem?,Array.getD_eq_getD_getElem?,Array.getElem?_setIfInBounds_ne (Ne.symm hj)]
   rw [this]
   simp [hj]
 rw [e,h,List.filter_append,List.filter_cons_of_neg (by simp)]
 congr 1
 ·exact List.filter_eq_self.2 fun j hj=>by simp;exact fun e=>h2 (e ▸ hj)
 ·exact List.filter_eq_self.2 fun j hj=>by simp;exact fun e=>h3 (e ▸ hj)
def opsOf (ops:Array Oper) (l:List Nat):List Oper:=l.filterMap fun i=>ops[i]?
theorem HR {listed:Array Bool} {j:Nat} (hj:j ∈ Region.ready .any ops listed):j ∈ left ops listed:=by
 obtain ⟨h1,o,ho,_⟩:=mem_ready.1 hj
 exact List.mem_filter.2 ⟨List.mem_range.2 (Array.getElem?_eq_some_iff.1 ho).1,by rw [h1];rfl⟩
theorem Ec (l m:List Nat):opsOf ops (l ++ m) = opsOf ops l ++ opsOf ops m:=List.filterMap_append ..
theorem On {i:Nat} {o:Oper} (h:ops[i]? = some o) (m:List Nat):opsOf ops (i :: m) = o :: opsOf ops m:=by simp [opsOf,h]
theorem Ss (hdr:BH ops = true) {listed:Array Bool} (hsz:listed.size = ops.size) {i:Nat} {r:List Nat} (h:left ops listed = i :: r):i ∈ Region.ready .any ops listed:=by
 have hi:i ∈ left ops listed:=by rw [h];simp
 obtain ⟨h1,h2⟩:=List.mem_filter.1 hi
 have hlt:=List.mem_range.1 h1
 refine mem_ready.2 ⟨by simpa using h2,ops[i],Array.getElem?_eq_getElem hlt,fun e he hb=>?_⟩
 have hbk:=Ol hdr (Array.getElem?_eq_getElem hlt) e he hb
 cases hx:listed.getD e.on false with
 | true=>rfl
 | false =>
   exfalso
   have hlt2:e.on < listed.size:=by omega
   have hx2:listed.getD e.on true = false:=by
    simp [Array.getD,hlt2] at hx ⊢;exact hx
   have hm:e.on ∈ left ops listed:=List.mem_filter.2 ⟨List.mem_range.2 (by omega),by rw [hx2];rfl⟩
   have hs:(left ops listed).Pairwise (· < ·):=List.Pairwise.filter _ (List.pairwise_lt_range)
   rw [h] at hm hs
   rcases List.mem_cons.1 hm with h3 | h3
   ·omega
   ·have:=(List.pairwise_cons.1 hs).1 _ h3
    omega
theorem XP (hdr:BH ops = true) {Q:Exit → Act → World → Prop} (hK:∀ f' a' w',K f' → Om E n nx hp f' a' w' → Q .normal a' w'):∀ (fuel:Nat) (listed:Array Bool) (f:Nat → Option AV) (a:Act) (w:World),listed.size = ops.size →
  (left ops listed).length ≤ fuel → QW P E n nx hp ops (opsOf ops (left ops listed)) f K → Om E n nx hp f a w → wpAny P .any ops Q fuel listed a w:=by
 intro fuel
 induction fuel with
 | zero =>
   intro listed f a w hsz hlen hq hs
   have hnil:left ops listed = []:=List.eq_nil_of_length_eq_zero (by omega)
   rw [hnil] at hq
   refine ⟨?_,hK f a w hq hs⟩
   cases hr:Region.ready .any ops listed with
   | nil=>rfl
   | cons j r=>have:=HR (ops:=ops) (listed:=listed) (j:=j) (by rw [hr];simp);rw [hnil] at this;cases this
 | succ fuel ih =>
   intro listed f a w hsz hlen hq hs
   refine ⟨fun hr=>?_,fun i hi=>?_⟩
   ·cases hl:left ops listed with
    | nil=>rw [hl] at hq;exact hK f a w hq hs
    | cons i r=>have:=Ss hdr hsz hl;rw [hr] at this;cases this
   ·obtain ⟨pre,post,hsplit⟩:=List.append_of_mem (HR hi)
    obtain ⟨hun,oi,hoi,haft⟩:=mem_ready.1 hi
    have hpre:=(AA _ _ hsplit).1
    rw [hsplit,Ec,On hoi] at hq
    have hq':=QW.first (fun p hp=>by
     obtain ⟨j,hj,hpj⟩:=List.mem_filterMap.1 hp
     rcases Ok hdr (hpre j hj) hoi hpj with ⟨e,he,hb,rfl⟩ | h
     ·exfalso
      have h1:=haft e he hb
      have h2:e.on ∈ left ops listed:=by rw [hsplit];simp [hj]
      have h3:=(List.mem_filter.1 h2).2
      have h4:listed.getD e.on true = false:=by simpa using h3
      by_cases hlt:e.on < listed.size
      ·simp [Array.getD,hlt] at h1 h4;rw [h1] at h4;cases h4
      ·simp [Array.getD,hlt] at h1
     ·exact h) hq
    obtain ⟨d,av,hd,hn,hqs,hr⟩:=hq'
    refine ZG hoi hd hn hqs hs fun a' w' hs'=>ih _ _ a' w' (by simpa using hsz) ?_ ?_ hs'
    ·rw [LD hsplit]
     rw [hsplit] at hlen
     simp at hlen ⊢
     omega
    ·rw [LD hsplit,Ec]
     exact hr
def DQ (P:Program) (E:Env) (n:Nat) (ops:Array Oper) (l:List Oper) (σ:St) (K:St → Prop):Prop :=
 QW P E n σ.nx σ.hp ops l (look σ.sl) fun f=>∃ τ:St,(∀ s,look τ.sl s = f s) ∧ τ.nx = σ.nx ∧ τ.hp = σ.hp ∧ K τ
theorem Su (σ:St) (d:Nat) (a:AV):look (σ.put d a).sl = v7 (look σ.sl) d a:=by
 funext s;simp only [St.put,F7,v7]
theorem HS {l:List Oper} {d:Nat} {av:AV} {K:St → Prop}:DQ P E n ops l (σ.put d av) K → QW P E n σ.nx σ.hp ops l (v7 (look σ.sl) d av) fun f=>∃ τ:St,(∀ s,look τ.sl s = f s) ∧ τ.nx = σ.nx ∧ τ.hp = σ.hp ∧ K τ:=by
 intro h
 unfold DQ at h
 rw [Su] at h
 exact h
theorem LE {d:Nat} {a:AV} (h:look σ.sl d = some a):look (σ.put d a).sl = look σ.sl:=by
 funext s
 simp only [St.put,F7]
 by_cases e:d = s
 ·subst e;rw [if_pos rfl,h]
 ·rw [if_neg e]
def Sv (P:Program) (E:Env) (n:Nat) (ops:Array Oper) (l:List Oper) (σ:St) (K:St → Prop):Prop :=
 match l with
 | []=>K σ
 | ⟨some d,op,_,_,_,none⟩ :: rest=>cond (Nat.blt d n) (Bx P op (F1 σ) σ.hp fun av=>DQ P E n ops rest (σ.put d av) K) False
 | ⟨some d,op,_,_,_,some (j,g)⟩ :: rest=>match (ops[j]?).bind (·.dst) with
   | some dj=>cond (Nat.blt d n) (match look σ.sl dj with
     | some (.v (.bool b))=>N0 b g (Bx P op (F1 (σ.put dj (.v (.bool g)))) σ.hp fun av=>DQ P E n ops rest ((σ.put dj (.v (.bool g))).put d av) K)
       (DQ P E n ops rest ((σ.put dj (.v (.bool !g))).put d (.v undef)) K)
     | some (.v (.tuple t))=>DQ P E n ops rest (σ.put d (.v undef)) K
     | _=>False) False
   | none=>False
 | _=>False
theorem ZH {l:List Oper} {K:St → Prop} (h:Sv P E n ops l σ K):DQ P E n ops l σ K:=by
 unfold Sv at h
 split at h
 ·exact ⟨σ,fun _=>rfl,rfl,rfl,h⟩
 ·rename_i d op ty pos after rest
  obtain ⟨hd,h⟩:=cond_false h
  obtain ⟨av,hq,h⟩:=Qa (E:=E) (nx:=σ.nx) (ty:=ty) h
  exact ⟨d,av,rfl,Nat.blt_eq ▸ hd,by unfold QS;rw [← Id];exact hq,HS h⟩
 ·rename_i d op ty pos after j g rest
  split at h
  ·rename_i dj hj
   obtain ⟨hd,h⟩:=cond_false h
   split at h
   ·rename_i b hb
    cases hbg:(b == g) with
    | true =>
      have hbg:b = g:=by simpa using hbg
      subst hbg
      have h1:=h.t rfl
      obtain ⟨av,hq,h2⟩:=Qa (E:=E) (nx:=σ.nx) (ty:=ty) h1
      have e:look (σ.put dj (.v (.bool b))).sl = look σ.sl:=LE hb
      rw [Id,e] at hq
      refine ⟨d,av,rfl,Nat.blt_eq ▸ hd,⟨dj,hj, .inl ⟨hb,hq⟩⟩,?_⟩
      have h3:=HS h2
      rw [e] at h3
      exact h3
    | false =>
      have hbg:b = !g:=by cases b <;> cases g <;> simp_all
      have h1:=h.f hbg
      have e:look (σ.put dj (.v (.bool !g))).sl = look σ.sl:=LE (hbg ▸ hb)
      refine ⟨d,_,rfl,Nat.blt_eq ▸ hd,⟨dj,hj, .inr (.inl ⟨hbg ▸ hb,rfl⟩)⟩,?_⟩
      have h3:=HS h1
      rw [e] at h3
      exact h3
   ·rename_i t hb
    exact ⟨d,_,rfl,Nat.blt_eq ▸ hd,⟨dj,hj, .inr (.inr ⟨t,hb,rfl⟩)⟩,HS h⟩
   ·exact h.elim
  ·exact h.elim
 ·exact h.elim
theorem E3 {id:Nat} {Q:Exit → St → Prop} [hm:Ic P] (hdr:BH ops = true) (h:DQ P E n ops ops.toList σ fun σ'=>Q .normal σ'):Ad P E n id ops σ Q:=by
 refine ⟨fun a w ⟨θ,hs⟩=>wp_region_any hm.out ?_⟩
 have hb:Below w.heap.size w { w with drawn:=w.drawn + 1 }:=Below.drew (Below.refl _ _)
 refine XP hdr (K:=fun f=>∃ τ:St,(∀ s,look τ.sl s = f s) ∧ τ.nx = σ.nx ∧ τ.hp = σ.hp ∧ Q .normal τ) (fun f' a' w' hk hs'=>?_) ops.size _ (look σ.sl) a _ (by simp) ?_ ?_ ⟨σ,fun _=>rfl,rfl,rfl,θ,hs.below hb⟩
 ·obtain ⟨τ,h1,h2,h3,h4⟩:=hk
  obtain ⟨σ2,g1,g2,g3,θ2,hs2⟩:=hs'
  refine ⟨τ,h4,θ2,?_⟩
  have e1:σ2.nx = τ.nx:=by rw [g2,h2]
  have e2:σ2.hp = τ.hp:=by rw [g3,h3]
  have e3:∀ s,look τ.sl s = look σ2.sl s:=fun s=>by rw [h1,g1]
  have ec:cx E θ2 σ2 w' = cx E θ2 τ w':=by unfold cx;rw [e1,e2]
  exact ⟨hs2.size,hs2.defers,hs2.fr,fun s x hx=>by rw [← ec];exact hs2.slots s x (by rw [← e3];exact hx),fun i b hi=>by rw [← ec, ← e1];exact hs2.owns i b (by rw [e2];exact hi),fun i j b b' k hi hj=>hs2.apart i j b b' k (by rw [e2];exact hi) (by rw [e2];exact hj),fun i b k hi=>hs2.mine i b k (by rw [e2];exact hi),hs2.X,by rw [← e1, ← e2];exact hs2.base⟩
 ·unfold left
  exact Nat.le_trans (List.length_filter_le _ _) (by simp)
 ·have e:left ops (Array.replicate ops.size false) = List.range ops.size:=by
   unfold left
   refine List.filter_eq_self.2 fun i hi=>?_
   have:=List.mem_range.1 hi
   simp [Array.getD,this]
  rw [e]
  have e2:opsOf ops (List.range ops.size) = ops.toList:=by
   unfold opsOf
   apply List.ext_getElem?
   intro i
   have:∀ (m:Nat),m ≤ ops.size → (List.range m).filterMap (fun i=>ops[i]?) = ops.toList.take m:=by
    intro m
    induction m with
    | zero=>intro _;simp
    | succ m ih =>
      intro hm
      rw [List.range_succ,List.filterMap_append,ih (by omega),List.take_add_one]
      congr 1
      have hlt:m < ops.size:=by omega
      simp [hlt]
   rw [this ops.size (Nat.le_refl _)]
   congr 1
   exact List.take_of_length_le (by simp)
  rw [e2]
  exact h
end quiet
def KP {α:Type}:List α → (List α → Prop) → Prop
 | [],F=>F []
 | a :: r,F=>KP r fun s=>F (a :: s)
theorem DT {α:Type}:∀ {l:List α} {F:List α → Prop},KP l F → F l
 | [],F,h=>h
 | a :: r,F,h=>DT (l:=r) (F:=fun s=>F (a :: s)) h
mutual
def R1:AV → (AV → Prop) → Prop
 | .agg l,F=>n8 l fun l2=>F (.agg l2)
 | .tup l,F=>n8 l fun l2=>F (.tup l2)
 | .fo f l,F=>n8 l fun l2=>F (.fo f l2)
 | .ref i o,F=>H3 i fun i2=>H3 o fun o2=>F (.ref i2 o2)
 | .row i v m,F=>H3 i fun i2=>H3 v fun v2=>F (.row i2 v2 m)
 | .elt i v k o,F=>H3 i fun i2=>H3 v fun v2=>F (.elt i2 v2 k o)
 | .sub i v k o,F=>H3 i fun i2=>H3 v fun v2=>F (.sub i2 v2 k o)
 | .mp i,F=>H3 i fun i2=>F (.mp i2)
 | .any,F=>F .any
 | .v x,F=>F (.v x)
 | .str l,F=>F (.str l)
 | .iptr l,F=>F (.iptr l)
 | .sl sz l,F=>F (.sl sz l)
 | .fn f l,F=>F (.fn f l)
 | .err,F=>F .err
 | .own e sz l,F=>F (.own e sz l)
def n8:List AV → (List AV → Prop) → Prop
 | [],F=>F []
 | x :: r,F=>R1 x fun x2=>n8 r fun r2=>F (x2 :: r2)
end
mutual
theorem DU:∀ {a:AV} {F:AV → Prop},R1 a F → F a
 | .agg l,F,h=>n9 (l:=l) (F:=fun l2=>F (.agg l2)) (by simpa only [R1] using h)
 | .tup l,F,h=>n9 (l:=l) (F:=fun l2=>F (.tup l2)) (by simpa only [R1] using h)
 | .fo f l,F,h=>n9 (l:=l) (F:=fun l2=>F (.fo f l2)) (by simpa only [R1] using h)
 | .ref i o,F,h=>by simp only [R1] at h;exact E5 (E5 h)
 | .row i v m,F,h=>by simp only [R1] at h;exact E5 (E5 h)
 | .elt i v k o,F,h=>by simp only [R1] at h;exact E5 (E5 h)
 | .sub i v k o,F,h=>by simp only [R1] at h;exact E5 (E5 h)
 | .mp i,F,h=>by simp only [R1] at h;exact E5 h
 | .any,F,h=>by simpa only [R1] using h
 | .v x,F,h=>by simpa only [R1] using h
 | .str l,F,h=>by simpa only [R1] using h
 | .iptr l,F,h=>by simpa only [R1] using h
 | .sl sz l,F,h=>by simpa only [R1] using h
 | .fn f l,F,h=>by simpa only [R1] using h
 | .err,F,h=>by simpa only [R1] using h
 | .own e sz l,F,h=>by simpa only [R1] using h
theorem n9:∀ {l:List AV} {F:List AV → Prop},n8 l F → F l
 | [],F,h=>by simpa only [n8] using h
 | x :: r,F,h=>by
   simp only [n8] at h
   exact n9 (l:=r) (F:=fun r2=>F (x :: r2)) (DU (a:=x) (F:=fun x2=>n8 r fun r2=>F (x2 :: r2)) h)
end
def v8:List (Nat × AV) → (List (Nat × AV) → Prop) → Prop
 | [],F=>F []
 | (k,x) :: r,F=>R1 x fun x2=>v8 r fun s=>F ((k,x2) :: s)
theorem V3:∀ {l:List (Nat × AV)} {F:List (Nat × AV) → Prop},v8 l F → F l
 | [],F,h=>h
 | (k,x) :: r,F,h=>V3 (l:=r) (F:=fun s=>F ((k,x) :: s)) (DU (a:=x) (F:=fun x2=>v8 r fun s=>F ((k,x2) :: s)) h)
def FQ:List Bool → (List Bool → Prop) → Prop
 | [],F=>F []
 | true :: r,F=>FQ r fun s=>F (true :: s)
 | false :: r,F=>FQ r fun s=>F (false :: s)
theorem BI:∀ {l:List Bool} {F:List Bool → Prop},FQ l F → F l
 | [],F,h=>h
 | true :: r,F,h=>BI (l:=r) (F:=fun s=>F (true :: s)) h
 | false :: r,F,h=>BI (l:=r) (F:=fun s=>F (false :: s)) h
def T1:Hp → (Hp → Prop) → Prop
 | [],F=>F []
 | (k,some (.bx τ l)) :: r,F=>H3 k fun k=>n8 l fun l2=>T1 r fun s=>F ((k,some (.bx τ l2)) :: s)
 | (k,some (.row e sz v l)) :: r,F=>H3 k fun k=>H3 v fun v2=>T1 r fun s=>F ((k,some (.row e sz v2 l)) :: s)
 | (k,some (.map m)) :: r,F=>H3 k fun k=>T1 r fun s=>F ((k,some (.map m)) :: s)
 | (k,some (.it t p)) :: r,F=>H3 k fun k=>T1 r fun s=>F ((k,some (.it t p)) :: s)
 | (k,none) :: r,F=>H3 k fun k=>T1 r fun s=>F ((k,none) :: s)
theorem V4:∀ {l:Hp} {F:Hp → Prop},T1 l F → F l
 | [],F,h=>h
 | (k,some (.bx τ l)) :: r,F,h=>V4 (l:=r) (F:=fun s=>F ((k,some (.bx τ l)) :: s)) (n9 (l:=l) (F:=fun l2=>T1 r fun s=>F ((k,some (.bx τ l2)) :: s)) (E5 (F:=fun k=>n8 l fun l2=>T1 r fun s=>F ((k,some (.bx τ l2)) :: s)) h))
 | (k,some (.row e sz v l)) :: r,F,h=>V4 (l:=r) (F:=fun s=>F ((k,some (.row e sz v l)) :: s)) (E5 (F:=fun v2=>T1 r fun s=>F ((k,some (.row e sz v2 l)) :: s)) (E5 (F:=fun k=>H3 v fun v2=>T1 r fun s=>F ((k,some (.row e sz v2 l)) :: s)) h))
 | (k,some (.map m)) :: r,F,h=>V4 (l:=r) (F:=fun s=>F ((k,some (.map m)) :: s)) (E5 (F:=fun k=>T1 r fun s=>F ((k,some (.map m)) :: s)) h)
 | (k,some (.it t p)) :: r,F,h=>V4 (l:=r) (F:=fun s=>F ((k,some (.it t p)) :: s)) (E5 (F:=fun k=>T1 r fun s=>F ((k,some (.it t p)) :: s)) h)
 | (k,none) :: r,F,h=>V4 (l:=r) (F:=fun s=>F ((k,none) :: s)) (E5 (F:=fun k=>T1 r fun s=>F ((k,none) :: s)) h)
mutual
def M8 (ρ s:Nat → Nat):AV → AV
 | .ref i off=>.ref (ρ i) off
 | .row i v len=>.row (ρ i) (v + s i) len
 | .elt i v k off=>.elt (ρ i) (v + s i) k off
 | .sub i v k off=>.sub (ρ i) (v + s i) k off
 | .mp i=>.mp (ρ i)
 | .agg l=>.agg (Au ρ s l)
 | .tup l=>.tup (Au ρ s l)
 | .fo f l=>.fo f (Au ρ s l)
 | x=>x
def Au (ρ s:Nat → Nat):List AV → List AV
 | []=>[]
 | x :: r=>M8 ρ s x :: Au ρ s r
end
theorem O1 (ρ s:Nat → Nat):∀ l,Au ρ s l = l.map (M8 ρ s)
 | []=>by simp [Au]
 | x :: r=>by simp [Au,O1 ρ s r]
def U7 (ρ s:Nat → Nat) (i:Nat):C6 → C6
 | .bx τ l=>.bx τ (Au ρ s l)
 | .row e sz v l=>.row e sz (v + s i) l
 | .map m=>.map m
 | .it t p=>.it t p
structure Ren (c c':Cx) (ρ s:Nat → Nat):Prop where
 nx:∀ i,i < c.nx → ρ i < c'.nx
 θ:∀ i,i < c.nx → c'.θ (ρ i) = c.θ i
 N:∀ i,i < c.nx → c'.θ.N (ρ i) = c.θ.N i
 w:c'.w = c.w
 U:∀ k,c'.U k → c.U k
 rows:∀ i,i < c.nx → ∀ e sz v' l,B3 c'.hp (ρ i) = some (.row e sz v' l) → ∃ v,B3 c.hp i = some (.row e sz v l) ∧ v' = v + s i
theorem Ren.im {c c':Cx} {ρ s:Nat → Nat} (h:Ren c c' ρ s) {a:AV} {x:Value} (hi:Im c.U c.w a x):Im c'.U c'.w a x:=hi.mono (fun k _ _=>by rw [h.w]) fun k _ hu=>h.U k hu
theorem XQ {c c':Cx} {ρ s:Nat → Nat} (h:Ren c c' ρ s) {a:AV} {x:Value} (hi:Im c.U c.w a x):M8 ρ s a = a ∨ F0 c' (M8 ρ s a) x:=by
 induction hi with
 | v x=>exact .inl rfl
 | str l=>exact .inl rfl
 | fn f l cs hl hc ih=>exact .inl rfl
 | iptr l a f hu hc hh ih=>exact .inl rfl
 | err t p=>exact .inl rfl
 | any x=>exact .inl rfl
 | own e sz l x=>exact .inl rfl
 | slnil sz=>exact .inl rfl
 | sl sz l a cap f hcap hm hu hsz hc hh ih=>exact .inl rfl
 | agg l cs hl hc ih =>
   refine .inr ?_
   simp only [M8,O1]
   refine .agg _ cs (by simp [hl]) fun j u z hu hz=>?_
   simp only [List.getElem?_map,Option.map_eq_some_iff] at hu
   obtain ⟨u0,hu0,rfl⟩:=hu
   rcases ih j u0 z hu0 hz with e | e
   ·rw [e];exact .im (h.im (hc j u0 z hu0 hz))
   ·exact e
 | tup l cs hl hc ih =>
   refine .inr ?_
   simp only [M8,O1]
   refine .tup _ cs (by simp [hl]) fun j u z hu hz=>?_
   simp only [List.getElem?_map,Option.map_eq_some_iff] at hu
   obtain ⟨u0,hu0,rfl⟩:=hu
   rcases ih j u0 z hu0 hz with e | e
   ·rw [e];exact .im (h.im (hc j u0 z hu0 hz))
   ·exact e
theorem Ie {c c':Cx} {ρ s:Nat → Nat} (h:Ren c c' ρ s) {a:AV} {x:Value} (r:F0 c a x):F0 c' (M8 ρ s a) x:=by
 induction r with
 | any x=>exact .any x
 | im hi =>
   rcases XQ h hi with e | e
   ·rw [e];exact .im (h.im hi)
   ·exact e
 | agg l cs hl _ ih =>
   simp only [M8,O1]
   refine .agg _ cs (by simp [hl]) fun j u z hu hz=>?_
   simp only [List.getElem?_map,Option.map_eq_some_iff] at hu
   obtain ⟨u0,hu0,rfl⟩:=hu
   exact ih j u0 z hu0 hz
 | tup l cs hl _ ih =>
   simp only [M8,O1]
   refine .tup _ cs (by simp [hl]) fun j u z hu hz=>?_
   simp only [List.getElem?_map,Option.map_eq_some_iff] at hu
   obtain ⟨u0,hu0,rfl⟩:=hu
   exact ih j u0 z hu0 hz
 | fo f l cs hl _ ih =>
   simp only [M8,O1]
   refine .fo f _ cs (by simp [hl]) fun j u z hu hz=>?_
   simp only [List.getElem?_map,Option.map_eq_some_iff] at hu
   obtain ⟨u0,hu0,rfl⟩:=hu
   exact ih j u0 z hu0 hz
 | ref i off b hi hθ=>exact .ref _ off b (h.nx i hi) (by rw [h.θ i hi];exact hθ)
 | row i ver len x hi hr =>
   refine .row _ _ len x (h.nx i hi) fun e sz v' l hl=>?_
   obtain ⟨v,hv,rfl⟩:=h.rows i hi e sz v' l hl
   obtain ⟨h1,h2⟩:=hr e sz v l hv
   exact ⟨by omega,fun e=>by rw [h.θ i hi];exact h2 (by omega)⟩
 | mp i r hi hθ=>exact .mp _ r (h.nx i hi) (by rw [h.θ i hi];exact hθ)
 | sub i ver lo len x hi hr =>
   refine .sub _ _ lo len x (h.nx i hi) fun e sz v' l hl=>?_
   obtain ⟨v,hv,rfl⟩:=h.rows i hi e sz v' l hl
   obtain ⟨h1,h2⟩:=hr e sz v l hv
   exact ⟨by omega,fun e=>by rw [h.θ i hi];exact h2 (by omega)⟩
 | elt i ver k off x hi hr =>
   refine .elt _ _ k off x (h.nx i hi) fun e sz v' l hl=>?_
   obtain ⟨v,hv,rfl⟩:=h.rows i hi e sz v' l hl
   obtain ⟨h1,h2⟩:=hr e sz v l hv
   exact ⟨by omega,fun e=>by rw [h.θ i hi];exact h2 (by omega)⟩
theorem Nc {c c':Cx} {ρ s:Nat → Nat} (h:Ren c c' ρ s) {i:Nat} {b:C6} (hi:i < c.nx) (o:O5 c i b):O5 c' (ρ i) (U7 ρ s i b):=by
 cases b with
 | bx τ l =>
   obtain ⟨b',arr,T,e1,e2,e3,e4⟩:=o
   refine ⟨b',arr,T,by rw [h.θ i hi];exact e1,by rw [h.w];exact e2,by rw [O1,List.length_map];exact e3,fun j u z hu hz=>?_⟩
   rw [O1] at hu
   simp only [List.getElem?_map,Option.map_eq_some_iff] at hu
   obtain ⟨u0,hu0,rfl⟩:=hu
   exact Ie h (e4 j u0 z hu0 hz)
 | row e sz v l =>
   obtain ⟨xs,e1,e2,e3,e4⟩:=o
   refine ⟨xs,by rw [h.θ i hi,h.w];exact e1,e2,fun k el hk j x hx=>?_,fun hne=>⟨fun k p hk=>by rw [h.w];exact (e4 hne).1 k p (by rw [← h.N i hi];exact hk),fun k el hk j e' sz' l' hj=>?_⟩⟩
   ·obtain ⟨y,hy,hi⟩:=e3 k el hk j x hx
    exact ⟨y,hy,h.im hi⟩
   ·obtain ⟨g,m,cap,y,ys,q1,q2,q3,q4,q5,q6,q7⟩:=(e4 hne).2 k el hk j e' sz' l' hj
    exact ⟨g,m,cap,y,ys,by rw [h.θ i hi];exact q1,by rw [h.w];exact q2,by rw [h.w];exact q3,q4,q5,fun q el' hq j' x hx=>by
     obtain ⟨z,hz,hi⟩:=q6 q el' hq j' x hx
     exact ⟨z,hz,h.im hi⟩,fun b hb=>by rw [h.N i hi];exact q7 b hb⟩
 | map m =>
   obtain ⟨r,es,clock,e1,e2,e3,e4⟩:=o
   exact ⟨r,es,clock,by rw [h.θ i hi];exact e1,by rw [h.w];exact e2,e3,fun j q e hj he=>⟨(e4 j q e hj he).1,h.im (e4 j q e hj he).2⟩⟩
 | it t p =>
   obtain ⟨r,e1,e2⟩:=o
   exact ⟨r,by rw [h.θ i hi];exact e1,by rw [h.w];exact e2⟩
theorem JR {c c':Cx} {ρ s:Nat → Nat} (hθ:∀ i,i < c.nx → c'.θ (ρ i) = c.θ i) (hw:c'.w = c.w) (hU:∀ k,c.U k → c'.U k)
  (hrows:∀ i,i < c.nx → ∀ e sz v l,B3 c.hp i = some (.row e sz v l) → B3 c'.hp (ρ i) = some (.row e sz (v + s i) l)):∀ {a:AV} {x:Value},S5 c.nx a = true → F0 c' (M8 ρ s a) x → F0 c a x:=by
 have imB:∀ {a:AV} {x:Value},Im c'.U c'.w a x → Im c.U c.w a x:=fun hi=>hi.mono (fun k _ _=>by rw [hw]) fun k _ hu=>hU k hu
 intro a
 refine AV.rec (motive_1:=fun a=>∀ {x:Value},S5 c.nx a = true → F0 c' (M8 ρ s a) x → F0 c a x)
  (motive_2:=fun l=>V2 c.nx l = true → ∀ (j:Nat) u x,l[j]? = some u → F0 c' (M8 ρ s u) x → F0 c u x)
  (motive_3:=fun _=>True) ?_ ?_ ?_ ?_ ?_ ?_ ?_ ?_ ?_ ?_ ?_ ?_ ?_ ?_ ?_ ?_ ?_ ?_ ?_ ?_ a
 ·intro x _ _;exact .any x
 ·intro v x _ r;cases r with | im hi=>exact .im (imB hi)
 ·intro l x _ r;cases r with | im hi=>exact .im (imB hi)
 ·intro l ih x hlt r
  simp only [S5] at hlt
  simp only [M8,O1] at r
  obtain ⟨cs,rfl,hl,hr⟩:=BR r
  refine .agg l cs (by simpa using hl) fun j u z hu hz=>ih hlt j u z hu ?_
  exact hr j _ z (by simp [hu]) hz
 ·intro l ih x hlt r
  simp only [S5] at hlt
  simp only [M8,O1] at r
  have:∃ cs:List Value,x = .tuple cs.toArray ∧ (l.map (M8 ρ s)).length = cs.length ∧ ∀ (j:Nat) u z,(l.map (M8 ρ s))[j]? = some u → cs[j]? = some z → F0 c' u z:=by
   generalize l.map (M8 ρ s) = l' at r
   cases r with
   | im hi=>cases hi with | tup l cs hl hc=>exact ⟨cs,rfl,hl,fun j u z hu hz=>.im (hc j u z hu hz)⟩
   | tup l cs hl hc=>exact ⟨cs,rfl,hl,hc⟩
  obtain ⟨cs,rfl,hl,hr⟩:=this
  refine .tup l cs (by simpa using hl) fun j u z hu hz=>ih hlt j u z hu ?_
  exact hr j _ z (by simp [hu]) hz
 ·intro i off x hlt r
  simp only [S5,Nat.blt_eq] at hlt
  simp only [M8] at r
  obtain ⟨b,h1,rfl,_⟩:=Q9 r
  exact .ref i off b hlt (by rw [← hθ i hlt];exact h1)
 ·intro l _ x _ r;cases r with | im hi=>exact .im (imB hi)
 ·intro sz l _ x _ r;cases r with | im hi=>exact .im (imB hi)
 ·intro i ver len x hlt r
  simp only [S5,Nat.blt_eq] at hlt
  simp only [M8] at r
  refine .row i ver len x hlt fun e sz v l hl=>?_
  cases r with
  | im hi=>cases hi
  | row _ _ _ _ hi h =>
    obtain ⟨h1,h2⟩:=h e sz _ l (hrows i hlt e sz v l hl)
    exact ⟨by omega,fun e=>by rw [← hθ i hlt];exact h2 (by omega)⟩
 ·intro i x hlt r
  simp only [S5,Nat.blt_eq] at hlt
  simp only [M8] at r
  cases r with
  | im hi=>cases hi
  | mp _ r hi h=>exact .mp i r hlt (by rw [← hθ i hlt];exact h)
 ·intro i ver k off x hlt r
  simp only [S5,Nat.blt_eq] at hlt
  simp only [M8] at r
  refine .elt i ver k off x hlt fun e sz v l hl=>?_
  cases r with
  | im hi=>cases hi
  | elt _ _ _ _ _ hi h =>
    obtain ⟨h1,h2⟩:=h e sz _ l (hrows i hlt e sz v l hl)
    exact ⟨by omega,fun e=>by rw [← hθ i hlt];exact h2 (by omega)⟩
 ·intro f l _ x _ r;cases r with | im hi=>exact .im (imB hi)
 ·intro x _ r;cases r with | im hi=>exact .im (imB hi)
 ·intro f l ih x hlt r
  simp only [S5] at hlt
  simp only [M8,O1] at r
  have:∃ cs:List Value,x = Ps f cs.toArray ∧ (l.map (M8 ρ s)).length = cs.length ∧ ∀ (j:Nat) u z,(l.map (M8 ρ s))[j]? = some u → cs[j]? = some z → F0 c' u z:=by
   generalize l.map (M8 ρ s) = l' at r
   cases r with
   | im hi=>cases hi
   | fo f l cs hl hc=>exact ⟨cs,rfl,hl,hc⟩
  obtain ⟨cs,rfl,hl,hr⟩:=this
  refine .fo f l cs (by simpa using hl) fun j u z hu hz=>ih hlt j u z hu ?_
  exact hr j _ z (by simp [hu]) hz
 ·intro e sz l _ x _ _;exact .im (.own e sz l x)
 ·intro i ver lo len x hlt r
  simp only [S5,Nat.blt_eq] at hlt
  simp only [M8] at r
  refine .sub i ver lo len x hlt fun e sz v l hl=>?_
  cases r with
  | im hi=>cases hi
  | sub _ _ _ _ _ hi h =>
    obtain ⟨h1,h2⟩:=h e sz _ l (hrows i hlt e sz v l hl)
    exact ⟨by omega,fun e=>by rw [← hθ i hlt];exact h2 (by omega)⟩
 ·intro _ j u x hu;simp at hu
 ·intro a l iha ihl hlt j u x hu r
  simp only [V2,Bool.and_eq_true] at hlt
  cases j with
  | zero=>simp at hu;subst hu;exact iha hlt.1 r
  | succ j=>exact ihl hlt.2 j u x (by simpa using hu) r
 ·trivial
 ·intros;trivial
structure XR (X:Nat → Prop) (θ:Th) (nx:Nat) (hp:Hp) (w:World):Prop where
 owns:∀ i b,B3 hp i = some b → i < nx ∧ O5 ⟨θ,nx,hp,X,w⟩ i b
 apart:∀ i j b b' k,B3 hp i = some b → B3 hp j = some b' → FP θ i b k → FP θ j b' k → i = j
 fresh:∀ i b k,B3 hp i = some b → FP θ i b k → ¬ X k
def owned (θ:Th) (hp:Hp) (k:Nat):Prop:=∃ i b,B3 hp i = some b ∧ FP θ i b k
theorem JS (ρ s:Nat → Nat) (i:Nat) (b:C6):Q5 (U7 ρ s i b) = Q5 b:=by cases b <;> rfl
theorem FP.ren {θ θ':Th} {ρ s:Nat → Nat} {i k:Nat} {b:C6} (h1:θ' (ρ i) = θ i) (h2:θ'.N (ρ i) = θ.N i):FP θ' (ρ i) (U7 ρ s i b) k ↔ FP θ i b k:=by
 unfold FP
 rw [JS,h1,h2]
structure HT (X:Nat → Prop) (θ:Th) (w:World) (m0:Nat) (hp0:Hp) (m1:Nat) (hp1:Hp) (r:AV) (e:Ending) (w':World):Prop where
 out:∃ v θ',e = .returned v ∧ F0 ⟨θ',m1,hp1,X,w'⟩ r v ∧ XR X θ' m1 hp1 w' ∧ (∀ i b k,B3 hp1 i = some b → FP θ' i b k → owned θ hp0 k ∨ w.heap.size ≤ k) ∧ (∀ i,i < m0 → θ' i = θ i ∨ (∃ x n k,θ i = .slice x n k) ∧ ¬ Kept hp1 i)
 os:w'.os = w.os
 tape:w'.tape = w.tape
 output:w'.output = w.output
 size:w.heap.size ≤ w'.heap.size
 block:∀ k,k < w.heap.size → ¬ owned θ hp0 k → w'.heap[k]? = w.heap[k]?
def B9 (P:Program) (f m0:Nat) (hp0:Hp) (args:List AV) (m1:Nat) (hp1:Hp) (r:AV):Prop:=OX P f ∧
 ∀ (X:Nat → Prop) (θ:Th) (w:World) (vs:List Value),(∀ k,X k → k < w.heap.size) → a7 (fun k=>X k ∨ owned θ hp0 k) w → XR X θ m0 hp0 w → args.length = vs.length → (∀ (j:Nat) a v,args[j]? = some a → vs[j]? = some v → F0 ⟨θ,m0,hp0,X,w⟩ a v) →
  Calls P f vs.toArray w fun e w'=>HT X θ w m0 hp0 m1 hp1 r e w'
def Q6:ResultVar → Nat
 | .tmp t=>t
 | .cell t _=>t
def CA (σ:St):List ResultVar → St
 | []=>σ
 | .tmp _ :: r=>CA σ r
 | .cell t _ :: r=>match look σ.sl t with
   | some (.ref i 0)=>match B3 σ.hp i with
     | some (.bx _ l)=>CA (σ.put t (.agg l)) r
     | _=>σ
   | _=>σ
def LF (P:Program) (n:Nat) (σ:St):List ResultVar → Prop
 | []=>True
 | .tmp _ :: r=>LF P n σ r
 | .cell t T :: r=>∃ i l sz,look σ.sl t = some (.ref i 0) ∧ B3 σ.hp i = some (.box l) ∧ I4 P T true sz ∧ l.length = sz ∧ Nat.blt t n = true ∧ LF P n (σ.put t (.agg l)) r
def LG:List ResultVar → List AV → List (Nat × AV)
 | v :: r,a :: s=>(Q6 v,a) :: LG r s
 | _,_=>[]
def VC:List AV → AV
 | [a]=>a
 | l=>.tup l
def s7:List ResultVar → Bool
 | []=>true
 | v :: r=>(r.all fun u=>!(Nat.beq (Q6 u) (Q6 v))) && s7 r
theorem LH {tmps tmps':Array Value} {rv:ResultVar} (h:tmps.getD (Q6 rv) undef = tmps'.getD (Q6 rv) undef):R5 tmps rv = R5 tmps' rv:=by
 cases rv with
 | tmp t=>simp only [R5];rw [show tmps.getD t undef = tmps'.getD t undef from h]
 | cell t T=>simp only [R5];rw [show tmps.getD t undef = tmps'.getD t undef from h]
theorem Fv {a:Act} {d s:Nat} {v:Value} (h:d ≠ s):(a.put (some d) v).tmps.getD s undef = a.tmps.getD s undef:=by
 simp [Act.put,Array.getD_eq_getD_getElem?,Array.getElem?_setIfInBounds_ne h]
theorem Ms {a:Act} {d:Nat} {v:Value} (h:d < a.tmps.size):(a.put (some d) v).tmps.getD d undef = v:=by
 simp [Act.put,Array.getD,h]
theorem Ed {P:Program} {E:Env} {n:Nat} {θ:Th} {w:World}:∀ {rvs:List ResultVar} {σ:St} {a:Act},L6 E n θ σ a w → LF P n σ rvs → s7 rvs = true →
  ∃ a',L6 E n θ (CA σ rvs) a' w ∧ (∀ rv ∈ rvs,(R5 a.tmps rv).run P w = .ok (a'.tmps.getD (Q6 rv) undef) w) ∧ ∀ s,(∀ rv ∈ rvs,Q6 rv ≠ s) → a'.tmps.getD s undef = a.tmps.getD s undef
 | [],σ,a,hs,_,_=>⟨a,hs,(fun rv h=>by (cases h)),fun s _=>rfl⟩
 | .tmp t :: r,σ,a,hs,hok,hap=>by
   simp only [s7,Bool.and_eq_true,List.all_eq_true,Bool.not_eq_true'] at hap
   obtain ⟨a',h1,h2,h3⟩:=Ed (rvs:=r) hs hok hap.2
   refine ⟨a',h1,fun rv hrv=>?_,fun s hs'=>h3 s fun rv h=>hs' rv (by simp [h])⟩
   rcases List.mem_cons.1 hrv with rfl | hrv
   ·have:=h3 t (fun rv h e=>by
     have h4:=hap.1 rv h
     have e':Q6 rv = Q6 (.tmp t):=e
     rw [e'] at h4
     simp at h4)
    simp [R5,Q6,Sem.run_pure,this]
   ·exact h2 rv hrv
 | .cell t T :: r,σ,a,hs,hok,hap=>by
   simp only [s7,Bool.and_eq_true,List.all_eq_true,Bool.not_eq_true'] at hap
   obtain ⟨i,l,sz,h1,h2,tv,hlsz,hn,hok⟩:=hok
   have htn:=Nat.blt_eq ▸ hn
   obtain ⟨b1,hθ,hv,_⟩:=Q9 (hs.slots t _ h1)
   obtain ⟨b',arr,T',hθ',hh,hsz,hr⟩:=(hs.owns i _ h2).2
   have hbb:θ i = .pointer (some ⟨b1,0,none⟩):=hθ
   have hbb':θ i = .pointer (some ⟨b',0,none⟩):=hθ'
   rw [hbb] at hbb'
   cases hbb'
   have hh':w.heap[b1]? = some (.cells arr T' (0,0)):=hh
   have hrel:F0 (cx E θ σ w) (.agg l) (.agg arr):=by
    have:=F0.agg (c:=cx E θ σ w) l arr.toList (by simp [hsz]) (fun j x y hx hy=>hr j x y hx (by simpa using hy))
    simpa using this
   have hs1:=hs.put htn hrel
   have hload:=O7 (P:=P) (T:=T) (sz:=sz) (w:=w) (a:=⟨b1,0,none⟩) (cs:=arr.toList) (by rw [Array.length_toList,hsz,hlsz]) (fun j v hj=>by rw [addr_add,K0 hh'];simpa using hj)
   obtain ⟨a',h3,h4,h5⟩:=Ed (rvs:=r) hs1 hok hap.2
   have hne:∀ rv ∈ r,Q6 rv ≠ t:=fun rv h e=>by
    have h6:=hap.1 rv h
    have e':Q6 rv = Q6 (.cell t T):=e
    rw [e'] at h6
    simp at h6
   have hput:CA σ (.cell t T :: r) = CA (σ.put t (.agg l)) r:=by simp only [CA,h1,h2]
   refine ⟨a',hput ▸ h3,fun rv hrv=>?_,fun s hs'=>?_⟩
   ·rcases List.mem_cons.1 hrv with rfl | hrv
    ·have h6:=h5 t hne
     rw [Ms (by rw [hs.size];exact htn)] at h6
     show _ = Result.ok (a'.tmps.getD t undef) w
     rw [h6]
     simp [R5,hv,Sem.run_bind,Sem.run_pure,asAddr,hload]
    ·rw [← h4 rv hrv]
     rw [LH (tmps:=a.tmps) (tmps':=(a.put (some t) (.agg arr)).tmps)]
     exact (Fv (Ne.symm (hne rv hrv))).symm
   ·rw [h5 s fun rv h=>hs' rv (by simp [h]),Fv]
    exact hs' (.cell t T) (by simp)
theorem JT:∀ {rvs:List ResultVar} {as:List AV},rvs.length = as.length → s7 rvs = true → ∀ (j:Nat) rv a,rvs[j]? = some rv → as[j]? = some a → look (LG rvs as) (Q6 rv) = some a
 | [],_,_,_,j,rv,a,h,_=>by simp at h
 | v :: r,[],hl,_,_,_,_,_,_=>by simp at hl
 | v :: r,b :: s,hl,hap,j,rv,a,hj,ha=>by
   simp only [s7,Bool.and_eq_true,List.all_eq_true,Bool.not_eq_true'] at hap
   simp only [LG,F7]
   cases j with
   | zero=>simp at hj ha;subst hj ha;simp
   | succ j =>
     have hj':r[j]? = some rv:=by simpa using hj
     have hne:Q6 v ≠ Q6 rv:=fun e=>by
      have h6:=hap.1 rv (List.mem_of_getElem? hj')
      rw [← e] at h6
      simp at h6
     rw [if_neg hne]
     exact JT (by simpa using hl) hap.2 j rv a hj' (by simpa using ha)
def Sw (P:Program) (E:Env) (n:Nat) (rs:Array ResultVar) (m1:Nat) (hp1:Hp) (r:AV) (σ:St):Prop :=
 (∃ rvs as,rs = rvs.toArray ∧ LF P n σ rvs ∧ s7 rvs = true ∧ rvs.length = as.length ∧ St.le E n (CA σ rvs) ⟨LG rvs as,m1,hp1⟩ ∧ r = VC as) ∨
 (∃ t,rs = #[.tmp t] ∧ St.le E n σ ⟨[(t,r)],m1,hp1⟩) ∨
 (∃ t u a b,rs = #[.tmp t, .tmp u] ∧ St.le E n σ ⟨[(t,a),(u,b)],m1,hp1⟩ ∧ t ≠ u ∧ r = .tup [a,b]) ∨
 (∃ t T i τ l sz,rs = #[.cell t T] ∧ I4 P T true sz ∧ l.length = sz ∧ St.le E n σ ⟨[(t, .ref i 0)],m1,hp1⟩ ∧ B3 hp1 i = some (.bx τ l) ∧ r = .agg l)
def E1 (P:Program) (E:Env) (n:Nat) (rs:Array ResultVar) (m1:Nat) (hp1:Hp) (r:AV):Exit → St → Prop
 | .ret,σ=>Sw P E n rs m1 hp1 r σ
 | .normal,σ=>Sw P E n rs m1 hp1 r σ
 | _,_=>False
section rules
variable {P:Program} {E:Env} {n:Nat} {ops:Array Oper} {rest:List Oper} {σ:St} {K:St → Prop} {Q:Exit → St → Prop}
variable {d:Nat} {ty:TypeId} {pos:String} {after:Array Edge} {x y:Operand}
theorem D5 {t m1:Nat} {hp1:Hp} {r:AV} (h:St.le E n σ ⟨[(t,r)],m1,hp1⟩):E1 P E n #[.tmp t] m1 hp1 r .ret σ:=.inr (.inl ⟨t,rfl,h⟩)
theorem H8 {rvs:List ResultVar} {vs:List AV} {m1:Nat} {hp1:Hp} {r:AV} (hok:LF P n σ rvs) (hap:s7 rvs = true) (hl:rvs.length = vs.length) (h:St.le E n (CA σ rvs) ⟨LG rvs vs,m1,hp1⟩) (hr:VC vs = r):E1 P E n rvs.toArray m1 hp1 r .ret σ:=.inl ⟨rvs,vs,rfl,hok,hap,hl,h,hr.symm⟩
theorem JU {t T i m1 sz τ:Nat} {hp1:Hp} {l:List AV} [tv:I4 P T true sz] (hl:l.length = sz) (h:St.le E n σ ⟨[(t, .ref i 0)],m1,hp1⟩) (hb:B3 hp1 i = some (.bx τ l)):E1 P E n #[.cell t T] m1 hp1 (.agg l) .ret σ :=
 .inr (.inr (.inr ⟨t,T,i,τ,l,sz,rfl,tv,hl,h,hb,rfl⟩))
theorem Mt {f : Nat} {fn : Func} {code : Code} {args : List AV} {r : AV} {rs : Array ResultVar} {m0 m1 : Nat} {hp0 hp1 : Hp} (hf : P.funcs[f]? = some fn) (hname : (fn.name == "runtime.NumGoroutine") = false) (hb : fn.body = some code) (hn : fn.ntmps = n) (hrs : fn.results = rs)
  (hargs:Nat.ble args.length n = true) (h:∀ E,E.n0 = m0 → D6 P E n code ⟨BG args 0,m0,hp0⟩ (E1 P E n rs m1 hp1 r)):B9 P f m0 hp0 args m1 hp1 r:=by
 subst hn hrs
 refine ⟨⟨fn,hf,hname,by rw [hb];rfl⟩,fun X θ w vs hX htab hbk hl hvs=>?_⟩
 refine calls_of_wp hf hb ?_
 have hle:args.length ≤ fn.ntmps:=Nat.ble_eq ▸ hargs
 have start:d9 ⟨w,X,owned θ hp0,θ.v,m0,htab⟩ fn.ntmps ⟨BG args 0,m0,hp0⟩ { tmps:=vs.toArray ++ Array.replicate (fn.ntmps - vs.toArray.size) undef,defers:=[] } w:=by
  refine ⟨θ,?_,rfl,⟨rfl,rfl,rfl,Nat.le_refl _,fun _ _ _=>rfl⟩,fun s x hs=>?_,hbk.owns,hbk.apart,fun i b k hi hk=>⟨hbk.fresh i b k hi hk, .inl ⟨i,b,hi,hk⟩⟩,hX,⟨Nat.le_refl _,fun i hi=>.inl rfl⟩⟩
  ·simp;omega
  ·obtain ⟨_,hx⟩:=DR args 0 s x hs
   rw [Nat.sub_zero] at hx
   have hlt:s < vs.length:=by rw [← hl];exact (List.getElem?_eq_some_iff.1 hx).1
   have hv:vs[s]? = some vs[s]:=List.getElem?_eq_getElem hlt
   have e:(vs.toArray ++ Array.replicate (fn.ntmps - vs.toArray.size) undef).getD s undef = vs[s]:=by
    rw [Array.getD_eq_getD_getElem?,Array.getElem?_append]
    simp [hlt]
   rw [e]
   exact hvs s x _ hx hv
 refine wp_mono (h ⟨w,X,owned θ hp0,θ.v,m0,htab⟩ rfl _ w start) ?_
 rintro e a w' ⟨σ',hq,hs0⟩
 have fin:Sw P ⟨w,X,owned θ hp0,θ.v,m0,htab⟩ fn.ntmps fn.results m1 hp1 r σ' → bodyPost P fn (fun e w''=>HT X θ w m0 hp0 m1 hp1 r e w'') .ret a w':=by
  intro hret
  have post:∀ {sl:List (Nat × AV)} {v:Value} {θ':Th},L6 ⟨w,X,owned θ hp0,θ.v,m0,htab⟩ fn.ntmps θ' ⟨sl,m1,hp1⟩ a w' → F0 ⟨θ',m1,hp1,X,w'⟩ r v → HT X θ w m0 hp0 m1 hp1 r (.returned v) w':=by
   intro sl v θ' hs hv
   exact ⟨⟨v,θ',rfl,hv,⟨hs.owns,hs.apart,fun i b k hi hk=>(hs.mine i b k hi hk).1⟩,fun i b k hi hk=>(hs.mine i b k hi hk).2,hs.base.2⟩,hs.fr.os,hs.fr.tape,hs.fr.output,hs.fr.size,hs.fr.block⟩
  rcases hret with ⟨rvs,as,h1,hok,hap,hlen,h2,hr⟩ | ⟨t,h1,h2⟩ | ⟨t,u,a1,b1,h1,h2,hne,rfl⟩ | ⟨t,T,i,τ,l,sz,h1,tv,hlen,h2,h3,rfl⟩
  ·obtain ⟨θ0,hst0⟩:=hs0
   obtain ⟨a',hs1,hrun,_⟩:=Ed hst0 hok hap
   obtain ⟨θ',hs⟩:=h2 a' w' ⟨θ0,hs1⟩
   have hrel:∀ (j:Nat) rv b,rvs[j]? = some rv → as[j]? = some b → F0 ⟨θ',m1,hp1,X,w'⟩ b (a'.tmps.getD (Q6 rv) undef):=fun j rv b hj hb=>hs.slots _ b (JT hlen hap j rv b hj hb)
   have post2:∀ {v:Value},F0 ⟨θ',m1,hp1,X,w'⟩ r v → HT X θ w m0 hp0 m1 hp1 r (.returned v) w':=fun hv =>
    ⟨⟨_,θ',rfl,hv,⟨hs.owns,hs.apart,fun i b k hi hk=>(hs.mine i b k hi hk).1⟩,fun i b k hi hk=>(hs.mine i b k hi hk).2,hs.base.2⟩,hs.fr.os,hs.fr.tape,hs.fr.output,hs.fr.size,hs.fr.block⟩
   have tup:rvs.length ≠ 1 → r = .tup as → ∃ v,(results fn a.tmps).run P w' = .ok v w' ∧ HT X θ w m0 hp0 m1 hp1 r (.returned v) w':=by
    intro hne hr
    refine ⟨_,Fu (vs:=rvs.map fun rv=>a'.tmps.getD (Q6 rv) undef) h1 hne (by simp) (fun j rv v hj hv=>?_),post2 ?_⟩
    ·simp only [List.getElem?_map,hj,Option.map_some,Option.some.injEq] at hv
     subst hv
     exact hrun rv (List.mem_of_getElem? hj)
    ·rw [hr]
     refine .tup as _ (by simp [hlen]) fun j b v hb hv=>?_
     simp only [List.getElem?_map,Option.map_eq_some_iff] at hv
     obtain ⟨rv,hj,rfl⟩:=hv
     exact hrel j rv b hj hb
   match rvs,as,hlen,hr,h1,hrun,hrel,tup with
   | [rv],[b],_,hr,h1,hrun,hrel,_ =>
     have hr:r = b:=hr
     subst hr
     exact ⟨hst0.defers,_,Kz h1 (hrun rv (by simp)),post2 (hrel 0 rv _ rfl rfl)⟩
   | [],[],_,hr,_,_,_,tup=>obtain ⟨v,hv1,hv2⟩:=tup (by simp) hr;exact ⟨hst0.defers,v,hv1,hv2⟩
   | _ :: _ :: _,_ :: _ :: _,_,hr,_,_,_,tup=>obtain ⟨v,hv1,hv2⟩:=tup (by simp) hr;exact ⟨hst0.defers,v,hv1,hv2⟩
  ·obtain ⟨θ',hs⟩:=h2 a w' hs0
   exact ⟨hs.defers,_,results_tmp h1 _ _ _,post hs (hs.slots t r (by simp [look]))⟩
  ·obtain ⟨θ',hs⟩:=h2 a w' hs0
   refine ⟨hs.defers,_,results_tmp2 h1 _ _ _,post hs (.tup [a1,b1] [_,_] rfl fun j x y hx hy=>?_)⟩
   match j,hx,hy with
   | 0,hx,hy=>cases hx;cases hy;exact hs.slots t _ (by simp [look])
   | 1,hx,hy=>cases hx;cases hy;exact hs.slots u _ (by rw [F7,if_neg hne,F7,if_pos rfl])
  ·obtain ⟨θ',hs⟩:=h2 a w' hs0
   obtain ⟨b,hθ,hv,_⟩:=Q9 (hs.slots t (.ref i 0) (by simp [look]))
   obtain ⟨b',arr,T',hθ',hh,hsz,hr⟩:=(hs.owns i _ h3).2
   have hbb:θ' i = .pointer (some ⟨b,0,none⟩):=hθ
   have hbb':θ' i = .pointer (some ⟨b',0,none⟩):=hθ'
   rw [hbb] at hbb'
   cases hbb'
   have hh':w'.heap[b]? = some (.cells arr T' (0,0)):=hh
   refine ⟨hs.defers, .agg arr,?_,post hs ?_⟩
   ·have hload:=O7 (P:=P) (T:=T) (sz:=sz) (w:=w') (a:=⟨b,0,none⟩) (cs:=arr.toList) (by rw [Array.length_toList,hsz,hlen]) (fun j v hj=>by rw [addr_add,K0 hh'];simpa using hj)
    rw [Array.getD_eq_getD_getElem?] at hv
    simp [results,h1,hv,Sem.run_bind,Sem.run_pure,asAddr,hload]
   ·have:=F0.agg (c:=⟨θ',m1,hp1,X,w'⟩) l arr.toList (by simp [hsz]) (fun j x y hx hy=>hr j x y hx (by simpa using hy))
    simpa using this
 cases e with
 | normal=>exact fin hq
 | ret=>exact fin hq
 | exit id=>exact hq.elim
 | goto l=>exact hq.elim
 | panic c=>exact hq.elim
 | outgrown=>exact hq.elim
def X0 (ρ s:Nat → Nat):Hp → Hp
 | []=>[]
 | (k,b) :: r=>(ρ k,b.map (U7 ρ s k)) :: X0 ρ s r
theorem DV {ρ s:Nat → Nat} {m:Nat} (hinj:∀ i j,i < m → j < m → ρ i = ρ j → i = j):∀ (hp h:Hp),N2 m hp = true → ∀ j,j < m → look (X0 ρ s hp ++ h) (ρ j) = match look hp j with
  | some b=>some (b.map (U7 ρ s j))
  | none=>look h (ρ j)
 | [],h,_,j,hj=>rfl
 | (k,b) :: r,h,hlt,j,hj=>by
   have hk:k < m ∧ N2 m r = true:=by
    match b,hlt with
    | none,hlt=>simp only [N2,Bool.and_eq_true,Nat.blt_eq] at hlt;exact hlt
    | some (.bx τ l),hlt=>simp only [N2,Bool.and_eq_true,Nat.blt_eq] at hlt;exact ⟨hlt.1.1,hlt.2⟩
    | some (.row ..),hlt=>simp only [N2,Bool.and_eq_true,Nat.blt_eq] at hlt;exact hlt
    | some (.map ..),hlt=>simp only [N2,Bool.and_eq_true,Nat.blt_eq] at hlt;exact hlt
    | some (.it ..),hlt=>simp only [N2,Bool.and_eq_true,Nat.blt_eq] at hlt;exact hlt
   simp only [X0,List.cons_append,F7]
   by_cases e:k = j
   ·subst e;simp
   ·have:ρ k ≠ ρ j:=fun h2=>e (hinj k j hk.1 hj h2)
    simp only [if_neg this,if_neg e]
    exact DV hinj r h hk.2 j hj
theorem p7 {ρ s:Nat → Nat} {m:Nat}:∀ (hp h:Hp),N2 m hp = true → ∀ i,(∀ j,j < m → ρ j ≠ i) → look (X0 ρ s hp ++ h) i = look h i
 | [],h,_,i,_=>rfl
 | (k,b) :: r,h,hlt,i,hi=>by
   have hk:k < m ∧ N2 m r = true:=by
    match b,hlt with
    | none,hlt=>simp only [N2,Bool.and_eq_true,Nat.blt_eq] at hlt;exact hlt
    | some (.bx τ l),hlt=>simp only [N2,Bool.and_eq_true,Nat.blt_eq] at hlt;exact ⟨hlt.1.1,hlt.2⟩
    | some (.row ..),hlt=>simp only [N2,Bool.and_eq_true,Nat.blt_eq] at hlt;exact hlt
    | some (.map ..),hlt=>simp only [N2,Bool.and_eq_true,Nat.blt_eq] at hlt;exact hlt
    | some (.it ..),hlt=>simp only [N2,Bool.and_eq_true,Nat.blt_eq] at hlt;exact hlt
   simp only [X0,List.cons_append,F7,if_neg (hi k hk.1)]
   exact p7 r h hk.2 i hi
def L1 (ι:List Nat) (i:Nat):Nat:=ι.getD i 0
def Oo (h:Hp) (i:Nat):Nat:=match B3 h i with
 | some (.row e _ v _)=>cond (S8 e) v (v + 1)
 | _=>0
def FR (h hp0:Hp) (ι off:List Nat):Nat → Prop
 | 0=>True
 | m + 1=>B3 h (L1 ι m) = (B3 hp0 m).map (U7 (L1 ι) (L1 off) m) ∧ FR h hp0 ι off m
theorem HU {h hp0:Hp} {ι off:List Nat}:∀ {m:Nat},FR h hp0 ι off m → ∀ i,i < m → B3 h (L1 ι i) = (B3 hp0 i).map (U7 (L1 ι) (L1 off) i)
 | 0,_,i,hi=>absurd hi (Nat.not_lt_zero _)
 | m + 1,hb,i,hi=>by
   by_cases e:i = m
   ·subst e;exact hb.1
   ·exact HU hb.2 i (by omega)
def Be (hp0 hp1:Hp):Nat → Bool
 | 0=>true
 | m + 1=>(look hp1 m).isSome && (match B3 hp1 m,B3 hp0 m with
   | some (.row e sz _ _),some (.row e' sz' _ _)=>Nat.beq sz sz' && (S8 e == S8 e')
   | some (.row ..),_=>false
   | _,_=>true) && Be hp0 hp1 m
theorem Fw {hp0 hp1:Hp}:∀ {m:Nat},Be hp0 hp1 m = true → ∀ i,i < m → (look hp1 i).isSome = true ∧ ∀ e sz v l,B3 hp1 i = some (.row e sz v l) → ∃ e' v' l',B3 hp0 i = some (.row e' sz v' l') ∧ S8 e = S8 e'
 | 0,_,i,hi=>absurd hi (Nat.not_lt_zero _)
 | m + 1,hb,i,hi=>by
   simp only [Be,Bool.and_eq_true] at hb
   by_cases e:i = m
   ·subst e
    refine ⟨hb.1.1,fun e sz v l hl=>?_⟩
    have h2:=hb.1.2
    rw [hl] at h2
    split at h2
    ·rename_i h3 h4
     cases h3
     rw [Bool.and_eq_true] at h2
     refine ⟨_,_,_,by rw [h4,Nat.eq_of_beq_eq_true h2.1],?_⟩
     exact eq_of_beq h2.2
    ·cases h2
    ·rename_i h4 h3
     first | exact absurd rfl (h3 e sz v l) | exact absurd rfl (h4 e sz v l) | exact (h3 e sz v l rfl).elim | exact (h4 e sz v l rfl).elim
   ·exact Fw hb.2 i (by omega)
def DW (ι:List Nat) (nx:Nat):Bool:=match ι with
 | []=>true
 | i :: r=>Nat.blt i nx && !(r.contains i) && DW r nx
theorem HV:∀ {ι:List Nat} {nx:Nat},DW ι nx = true → (∀ i,i < ι.length → L1 ι i < nx) ∧ ∀ i j,i < ι.length → j < ι.length → L1 ι i = L1 ι j → i = j
 | [],nx,_=>⟨fun i hi=>absurd hi (Nat.not_lt_zero _),fun i j hi=>absurd hi (Nat.not_lt_zero _)⟩
 | a :: r,nx,h=>by
   simp only [DW,Bool.and_eq_true,Nat.blt_eq,Bool.not_eq_true'] at h
   obtain ⟨h1,h2⟩:=HV h.2
   have hmem:∀ i,i < r.length → L1 r i ∈ r:=fun i hi=>by simp [L1,List.getD,hi]
   have hna:a ∉ r:=by simpa using h.1.2
   refine ⟨fun i hi=>?_,fun i j hi hj he=>?_⟩
   ·cases i with
    | zero=>exact h.1.1
    | succ i=>exact h1 i (by simpa using hi)
   ·cases i with
    | zero =>
      cases j with
      | zero=>rfl
      | succ j=>exact absurd (show a ∈ r from (show a = L1 r j from he) ▸ hmem j (by simpa using hj)) hna
    | succ i =>
      cases j with
      | zero=>exact absurd (show a ∈ r from (show L1 r i = a from he) ▸ hmem i (by simpa using hi)) hna
      | succ j=>exact congrArg (· + 1) (h2 i j (by simpa using hi) (by simpa using hj) he)
def gρ (ι:List Nat) (m0 nx:Nat) (i:Nat):Nat:=cond (Nat.blt i m0) (L1 ι i) (nx + (i - m0))
def gs (ι:List Nat) (m0:Nat) (h:Hp) (i:Nat):Nat:=cond (Nat.blt i m0) (Oo h (L1 ι i)) 0
theorem FS {ι:List Nat} {m0 nx i:Nat} (h:i < m0):gρ ι m0 nx i = L1 ι i:=by
 have:Nat.blt i m0 = true:=Nat.blt_eq ▸ h
 simp [gρ,this]
theorem DX {ι:List Nat} {m0 nx i:Nat} (h:¬ i < m0):gρ ι m0 nx i = nx + (i - m0):=by
 have:Nat.blt i m0 = false:=by
  cases hb:Nat.blt i m0
  ·rfl
  ·exact absurd (Nat.blt_eq ▸ hb) h
 simp [gρ,this]
theorem Qc {c c':Cx} {ρ s:Nat → Nat} (hθ:∀ i,i < c.nx → c'.θ (ρ i) = c.θ i) (hN:∀ i,i < c.nx → c'.θ.N (ρ i) = c.θ.N i) (hw:c'.w = c.w) (hU:∀ k,c.U k → c'.U k)
  (hrows:∀ i,i < c.nx → ∀ e sz v l,B3 c.hp i = some (.row e sz v l) → B3 c'.hp (ρ i) = some (.row e sz (v + s i) l))
  {i:Nat} {b:C6} (hi:i < c.nx) (hbox:∀ τ l,b = .bx τ l → V2 c.nx l = true) (o:O5 c' (ρ i) (U7 ρ s i b)):O5 c i b:=by
 have imB:∀ {a:AV} {x:Value},Im c'.U c'.w a x → Im c.U c.w a x:=fun hi=>hi.mono (fun k _ _=>by rw [hw]) fun k _ hu=>hU k hu
 cases b with
 | bx τ l =>
   obtain ⟨b',arr,T,e1,e2,e3,e4⟩:=o
   refine ⟨b',arr,T,by rw [← hθ i hi];exact e1,by rw [← hw];exact e2,by rw [O1,List.length_map] at e3;exact e3,fun j u z hu hz=>?_⟩
   refine JR hθ hw hU hrows (f7 (hbox τ l rfl) u (List.mem_of_getElem? hu)) (e4 j _ z ?_ hz)
   rw [O1];simp [hu]
 | row e sz v l =>
   obtain ⟨xs,e1,e2,e3,e4⟩:=o
   refine ⟨xs,by rw [← hθ i hi, ← hw];exact e1,e2,fun k el hk j x hx=>?_,fun hne=>⟨fun k p hk=>by rw [← hw];exact (e4 hne).1 k p (by rw [hN i hi];exact hk),fun k el hk j e' sz' l' hj=>?_⟩⟩
   ·obtain ⟨y,hy,hi⟩:=e3 k el hk j x hx
    exact ⟨y,hy,imB hi⟩
   ·obtain ⟨g,m,cap,y,ys,q1,q2,q3,q4,q5,q6,q7⟩:=(e4 hne).2 k el hk j e' sz' l' hj
    exact ⟨g,m,cap,y,ys,by rw [← hθ i hi];exact q1,by rw [← hw];exact q2,by rw [← hw];exact q3,q4,q5,fun q el' hq j' x hx=>by
     obtain ⟨z,hz,hi⟩:=q6 q el' hq j' x hx
     exact ⟨z,hz,imB hi⟩,fun b hb=>by rw [← hN i hi];exact q7 b hb⟩
 | map m =>
   obtain ⟨r,es,clock,e1,e2,e3,e4⟩:=o
   exact ⟨r,es,clock,by rw [← hθ i hi];exact e1,by rw [← hw];exact e2,e3,fun j q e hj he=>⟨(e4 j q e hj he).1,imB (e4 j q e hj he).2⟩⟩
 | it t p =>
   obtain ⟨r,e1,e2⟩:=o
   exact ⟨r,by rw [← hθ i hi];exact e1,by rw [← hw];exact e2⟩
theorem Qd {C:Cx} {A B:List AV} {x y:List Value} (h1:A.length = x.length) (ha:∀ (j:Nat) u v,A[j]? = some u → x[j]? = some v → F0 C u v) (hb:∀ (j:Nat) u v,B[j]? = some u → y[j]? = some v → F0 C u v):∀ (j:Nat) u v,(A ++ B)[j]? = some u → (x ++ y)[j]? = some v → F0 C u v:=fun j u v hu hv=>by
 by_cases hj:j < A.length
 ·rw [List.getElem?_append_left hj] at hu
  rw [List.getElem?_append_left (by omega)] at hv
  exact ha j u v hu hv
 ·rw [List.getElem?_append_right (by omega)] at hu
  rw [List.getElem?_append_right (by omega), ← h1] at hv
  exact hb _ u v hu hv
theorem Qe {f:Nat} {g:Operand} {xs:List Operand} {ts:Array TypeId} {L args caps capF:List AV} {r:AV} {m0 m1:Nat} {hp0 hp1:Hp} (ι off:List Nat) (hc:B9 P f m0 hp0 args m1 hp1 r)
  (hg:(capF = [] ∧ caps = [] ∧ g = .func f) ∨ (capF = [] ∧ f < KZ ∧ F1 σ g = some (.fo f caps)) ∨ (caps = [] ∧ F1 σ g = some (.fo (KZ + f) capF))) (hev:e7 (F1 σ) xs = some L) (hL:Au (L1 ι) (L1 off) args = capF ++ L ++ caps) (hargs:V2 m0 args = true) (hι:Nat.beq ι.length m0 = true) (hιo:DW ι σ.nx = true) (hblk:FR σ.hp hp0 ι off m0) (hback:Be hp0 hp1 m0 = true)
  (hl0:N2 m0 hp0 = true) (hl1:N2 m1 hp1 = true) (hm:Nat.ble m0 m1 = true) (hd:Nat.blt d n = true)
  (k:B8 P E n ops rest (St.put ⟨σ.sl,σ.nx + (m1 - m0),X0 (gρ ι m0 σ.nx) (gs ι m0 σ.hp) hp1 ++ σ.hp⟩ d (M8 (gρ ι m0 σ.nx) (gs ι m0 σ.hp) r)) K) :
  B8 P E n ops (⟨some d, .call ⟨.value g,⟨xs⟩,ts⟩,ty,pos,after,none⟩ :: rest) σ K:=by
 intro a w ⟨θ,hs⟩
 have hι:=Nat.eq_of_beq_eq_true hι
 have hm:=Nat.ble_eq ▸ hm
 obtain ⟨hιlt,hιinj⟩:=HV hιo
 rw [hι] at hιlt hιinj
 have hblk:=HU hblk
 have hback:=Fw hback
 obtain ⟨hl,hr0⟩:=BX hs.evT xs L hev
 let C:=cx E θ σ w
 obtain ⟨cf,cs,hge,hfl,hfr,hcl,hcr⟩:∃ cf cs:List Value,a.eval g = .func (.func f) cf.toArray cs.toArray ∧ capF.length = cf.length ∧ (∀ (j:Nat) x c,capF[j]? = some x → cf[j]? = some c → F0 C x c) ∧ caps.length = cs.length ∧ ∀ (j:Nat) x c,caps[j]? = some x → cs[j]? = some c → F0 C x c:=by
  rcases hg with ⟨rfl,rfl,rfl⟩ | ⟨rfl,hf,hg⟩ | ⟨rfl,hg⟩
  ·exact ⟨[],[],rfl,rfl,fun j x c hx=>by simp at hx,rfl,fun j x c hx=>by simp at hx⟩
  ·have:=hs.ev hg
   generalize a.eval g = v at this
   cases this with
   | im hi=>cases hi
   | fo f l cs hl hc=>exact ⟨[],cs,by unfold Ps;rw [if_pos hf],rfl,fun j x c hx=>by simp at hx,hl,hc⟩
  ·have:=hs.ev hg
   generalize a.eval g = v at this
   generalize hF:KZ + f = F at this
   cases this with
   | im hi=>cases hi
   | fo F l cs hl hc=>exact ⟨cs,[],by unfold Ps;rw [if_neg (by omega), ← hF,Nat.add_sub_cancel_left],hl,hc,rfl,fun j x c hx=>by simp at hx⟩
 have hlm:L.length = (xs.map a.eval).length:=by rw [List.length_map, ← hl]
 have hr:∀ (j:Nat) x v,(capF ++ L ++ caps)[j]? = some x → (cf ++ xs.map a.eval ++ cs)[j]? = some v → F0 C x v :=
  Qd (by rw [List.length_append,List.length_append,hfl,hlm]) (Qd hfl hfr hr0) hcr
 let θc:Th:=⟨fun i=>θ (L1 ι i),fun i=>θ.N (L1 ι i)⟩
 let Xc:Nat → Prop:=fun k=>C.U k ∧ ¬ owned θc hp0 k
 let c0:Cx:=⟨θc,m0,hp0,Xc,w⟩
 have howned:∀ k,owned θc hp0 k → ∃ i b0,i < m0 ∧ B3 hp0 i = some b0 ∧ B3 σ.hp (L1 ι i) = some (U7 (L1 ι) (L1 off) i b0) ∧ FP θ (L1 ι i) (U7 (L1 ι) (L1 off) i b0) k:=by
  rintro k ⟨i,b,hi,hk⟩
  have hlt:=(s5 hl0 hi).1
  exact ⟨i,b,hlt,hi,by rw [hblk i hlt,hi];rfl,(FP.ren (θ:=θc) rfl rfl).2 hk⟩
 have hU0:∀ k,c0.U k → C.U k:=by
  rintro k (hk | hk)
  ·exact hk.1
  ·obtain ⟨i,b0,_,_,h1,h2⟩:=howned k hk
   exact .inr ⟨_,_,h1,h2⟩
 have hrows0:∀ i,i < c0.nx → ∀ e sz v l,B3 c0.hp i = some (.row e sz v l) → B3 C.hp (L1 ι i) = some (.row e sz (v + L1 off i) l):=by
  intro i hi e sz v l hl
  have:=hblk i hi
  have hl':B3 hp0 i = some (.row e sz v l):=hl
  rw [hl'] at this
  exact this
 have hlen:args.length = (cf ++ xs.map a.eval ++ cs).length:=by
  have:=congrArg List.length hL
  rw [O1,List.length_map] at this
  rw [this,List.length_append,List.length_append,List.length_append,List.length_append,hlm,hfl,hcl]
 have hbok:XR Xc θc m0 hp0 w:=by
  refine ⟨fun i b hi=>?_,fun i j b b' k hi hj hki hkj=>?_,fun i b k hi hk hX=>hX.2 ⟨i,b,hi,hk⟩⟩
  ·obtain ⟨hlt,hbx⟩:=s5 hl0 hi
   have h1:B3 σ.hp (L1 ι i) = some (U7 (L1 ι) (L1 off) i b):=by rw [hblk i hlt,hi];rfl
   exact ⟨hlt,Qc (c:=c0) (c':=C) (fun i _=>rfl) (fun i _=>rfl) rfl hU0 hrows0 hlt hbx (hs.owns _ _ h1).2⟩
  ·have h1:=(s5 hl0 hi).1
   have h2:=(s5 hl0 hj).1
   refine hιinj i j h1 h2 (hs.apart _ _ (U7 (L1 ι) (L1 off) i b) (U7 (L1 ι) (L1 off) j b') k (by rw [hblk i h1,hi];rfl) (by rw [hblk j h2,hj];rfl) ((FP.ren (θ:=θc) rfl rfl).2 hki) ((FP.ren (θ:=θc) rfl rfl).2 hkj))
 have hcall:=hc.2 Xc θc w (cf ++ xs.map a.eval ++ cs) (fun k hk=>hs.evT.Ult k hk.1) (hs.evT.tab.mono (fun k _ hk=>hk.elim (fun h=>h.1) (fun h=>hU0 k (.inr h))) fun _ _ _=>rfl) hbok hlen fun j av v hj hv=>by
  refine JR (c:=c0) (c':=C) (ρ:=L1 ι) (s:=L1 off) (fun i _=>rfl) rfl hU0 hrows0 (f7 hargs av (List.mem_of_getElem? hj)) (hr j _ v ?_ hv)
  rw [← hL,O1];simp [hj]
 unfold wpList
 rw [if_pos (by simp [Region.wanted])]
 left
 simp only [Oper.wp]
 rw [QF hc.1 hge]
 simp only [Oper.upon]
 rw [show cf.toArray ++ (xs.map a.eval).toArray ++ cs.toArray = (cf ++ xs.map a.eval ++ cs).toArray by simp]
 refine Calls.mono hcall ?_
 rintro e w' ⟨⟨v,θ',rfl,hv,hbk',hown',hθ'⟩,hos,htape,hout,hsize,hblock⟩
 let ρ:=gρ ι m0 σ.nx
 let s:=gs ι m0 σ.hp
 have hρinj:∀ i j,i < m1 → j < m1 → ρ i = ρ j → i = j:=by
  intro i j hi hj he
  by_cases h1:i < m0 <;> by_cases h2:j < m0
  ·exact hιinj i j h1 h2 (by simpa only [ρ,FS h1,FS h2] using he)
  ·have:=hιlt i h1
   simp only [ρ,FS h1,DX h2] at he
   omega
  ·have:=hιlt j h2
   simp only [ρ,DX h1,FS h2] at he
   omega
  ·simp only [ρ,DX h1,DX h2] at he
   omega
 have hρlt:∀ j,j < m1 → ρ j < σ.nx + (m1 - m0):=by
  intro j hj
  by_cases h1:j < m0
  ·have:=hιlt j h1;simp only [ρ,FS h1];omega
  ·simp only [ρ,DX h1];omega
 have hρold:∀ j,j < m1 → ρ j < σ.nx → j < m0:=by
  intro j hj hlt
  by_cases h1:j < m0
  ·exact h1
  ·simp only [ρ,DX h1] at hlt;omega
 let Θ:Th:=⟨fun i=>open Classical in if h:∃ j,j < m1 ∧ ρ j = i then θ' (Classical.choose h) else θ i,fun i=>open Classical in if h:∃ j,j < m1 ∧ ρ j = i then θ'.N (Classical.choose h) else θ.N i⟩
 have hΘ1:∀ j,j < m1 → Θ (ρ j) = θ' j:=by
  intro j hj
  have hex:∃ j',j' < m1 ∧ ρ j' = ρ j:=⟨j,hj,rfl⟩
  have:Classical.choose hex = j:=hρinj _ _ (Classical.choose_spec hex).1 hj (Classical.choose_spec hex).2
  simp only [Θ,dif_pos hex,this]
 have hN1:∀ j,j < m1 → Θ.N (ρ j) = θ'.N j:=by
  intro j hj
  have hex:∃ j',j' < m1 ∧ ρ j' = ρ j:=⟨j,hj,rfl⟩
  have:Classical.choose hex = j:=hρinj _ _ (Classical.choose_spec hex).1 hj (Classical.choose_spec hex).2
  simp only [Θ,dif_pos hex,this]
 have hN2:∀ i,(∀ j,j < m1 → ρ j ≠ i) → Θ.N i = θ.N i:=by
  intro i hi
  have:¬ ∃ j,j < m1 ∧ ρ j = i:=fun ⟨j,hj,he⟩=>hi j hj he
  simp only [Θ,dif_neg this]
 have hΘ2:∀ i,(∀ j,j < m1 → ρ j ≠ i) → Θ i = θ i:=by
  intro i hi
  have:¬ ∃ j,j < m1 ∧ ρ j = i:=fun ⟨j,hj,he⟩=>hi j hj he
  simp only [Θ,dif_neg this]
 have hF1:∀ {j:Nat} {b:C6} {k:Nat},j < m1 → FP Θ (ρ j) (U7 ρ s j b) k → FP θ' j b k:=fun hj h=>(FP.ren (hΘ1 _ hj) (hN1 _ hj)).1 h
 have hF2:∀ {i:Nat} {b:C6} {k:Nat},(∀ j,j < m1 → ρ j ≠ i) → FP Θ i b k → FP θ i b k:=fun hi h=>by
  unfold FP at h ⊢
  rwa [hΘ2 _ hi,hN2 _ hi] at h
 let HP:=X0 ρ s hp1 ++ σ.hp
 let σ':St:=⟨σ.sl,σ.nx + (m1 - m0),HP⟩
 have hnone:∀ i,σ.nx ≤ i → B3 σ.hp i = none:=by
  intro i hi
  cases hx:B3 σ.hp i with
  | none=>rfl
  | some b=>have:=(hs.owns i b hx).1;omega
 have hlk1:∀ j,j < m1 → B3 HP (ρ j) = (B3 hp1 j).map (U7 ρ s j):=by
  intro j hj
  have:=DV (ρ:=ρ) (s:=s) hρinj hp1 σ.hp hl1 j hj
  unfold B3
  rw [this]
  cases hx:look hp1 j with
  | some b=>cases b <;> rfl
  | none =>
    simp only [Option.map_none]
    have hge:¬ j < m0:=fun h=>by have:=(hback j h).1;rw [hx] at this;cases this
    have h2:=hnone (ρ j) (by simp only [ρ,DX hge];omega)
    exact h2
 have hlk2:∀ i,(∀ j,j < m1 → ρ j ≠ i) → B3 HP i = B3 σ.hp i:=by
  intro i hi
  unfold B3
  rw [p7 (ρ:=ρ) (s:=s) hp1 σ.hp hl1 i hi]
 have hm0:∀ j,j < m0 → ρ j = L1 ι j:=fun j hj=>FS hj
 have hownU:∀ k,owned θc hp0 k → C.own k:=fun k hk=>by
  obtain ⟨i,b0,_,_,h1,h2⟩:=howned k hk
  exact ⟨_,_,h1,h2⟩
 have hnotX:∀ k,owned θc hp0 k → ¬ E.X k ∧ (E.O k ∨ E.w0.heap.size ≤ k):=fun k hk=>by
  obtain ⟨i,b0,_,_,h1,h2⟩:=howned k hk
  exact hs.mine _ _ k h1 h2
 have hother:∀ i b k,B3 σ.hp i = some b → (∀ j,j < m1 → ρ j ≠ i) → FP θ i b k → ¬ owned θc hp0 k:=fun i b k hi hno hk ho=>by
  obtain ⟨j,b0,hj,_,h1,h2⟩:=howned k ho
  have:=hs.apart _ _ _ _ k hi h1 hk h2
  exact hno j (by omega) (by rw [hm0 j hj];exact this.symm)
 let C':=cx E Θ σ' w'
 have le:C.le C':=by
  refine ⟨Nat.le_add_right _ _,fun i hi=>?_,fun i hi e' sz' v' l' hl=>?_,hsize,fun k hk hu=>hblock k hk fun ho=>hu (.inr (hownU k ho)),fun k hk hu=>?_⟩
  ·by_cases hex:∃ j,j < m1 ∧ ρ j = i
   ·obtain ⟨j,hj,rfl⟩:=hex
    have hj0:=hρold j hj hi
    have h1:=hθ' j hj0
    have h2:θc j = θ (ρ j):=by rw [hm0 j hj0]
    rw [h2] at h1
    show Θ (ρ j) = θ (ρ j) ∨ _
    rw [hΘ1 j hj]
    exact h1.imp id (·.1)
   ·exact .inl (hΘ2 i fun j hj he=>hex ⟨j,hj,he⟩)
  ·by_cases hex:∃ j,j < m1 ∧ ρ j = i
   ·obtain ⟨j,hj,rfl⟩:=hex
    have hj0:=hρold j hj hi
    have h1:B3 HP (ρ j) = some (.row e' sz' v' l'):=hl
    rw [hlk1 j hj,Option.map_eq_some_iff] at h1
    obtain ⟨b,hb,hbr⟩:=h1
    cases b with
    | bx τ l=>cases hbr
    | map m=>cases hbr
    | it _ _=>cases hbr
    | row e1 sz1 v1 l1 =>
      simp only [U7] at hbr
      cases hbr
      obtain ⟨e0,v0,l0,h0,hke⟩:=(hback j hj0).2 _ _ _ _ hb
      have h3:=hrows0 j hj0 e0 sz' v0 l0 h0
      refine ⟨e0,v0 + L1 off j,l0,by rw [hm0 j hj0];exact h3,?_⟩
      have h3':B3 σ.hp (L1 ι j) = some (.row e0 sz' (v0 + L1 off j) l0):=h3
      have hb2:Nat.blt j m0 = true:=Nat.blt_eq ▸ hj0
      by_cases hk:S8 e0 = true
      ·have hsj:s j = v0 + L1 off j:=by
        simp only [s,gs,hb2,Oo,h3',hk,cond]
       by_cases hv0:v1 = 0
       ·have hth:θ' j = θ (L1 ι j):=(hθ' j hj0).resolve_right fun h=>h.2 ⟨_,_,_,_,hb,hke.trans hk⟩
        obtain ⟨x1,o1,_⟩:=(hbk'.owns j _ hb).2
        obtain ⟨x2,o2,_⟩:=(hs.owns _ _ h3').2
        have o1':N9 w' e' sz' (θ' j) l'.length x1:=o1
        have o2':N9 w e0 sz' (θ (L1 ι j)) l0.length x2:=o2
        rw [hth] at o1'
        refine .inr ⟨by rw [hsj];omega,o2'.len o1',?_⟩
        show Θ (ρ j) = θ (ρ j)
        rw [hΘ1 j hj,hth,hm0 j hj0]
       ·exact .inl (by rw [hsj];omega)
      ·have:s j = v0 + L1 off j + 1:=by
        have hk2:S8 e0 = false:=by
         cases hx:S8 e0 with
         | false=>rfl
         | true=>exact absurd hx hk
        simp only [s,gs,hb2,Oo,h3',hk2,cond]
       exact .inl (by omega)
   ·have h1:B3 HP i = some (.row e' sz' v' l'):=hl
    have hno:∀ j,j < m1 → ρ j ≠ i:=fun j hj he=>hex ⟨j,hj,he⟩
    rw [hlk2 i hno] at h1
    exact ⟨e',v',l',h1, .inr ⟨rfl,rfl,hΘ2 i hno⟩⟩
  ·rcases hu with hu | ⟨i,b,hi,hk'⟩
   ·exact .inl hu
   ·have hi':B3 HP i = some b:=hi
    have hk2:FP Θ i b k:=hk'
    by_cases hex:∃ j,j < m1 ∧ ρ j = i
    ·obtain ⟨j,hj,rfl⟩:=hex
     rw [hlk1 j hj,Option.map_eq_some_iff] at hi'
     obtain ⟨b1,hb1,rfl⟩:=hi'
     rcases hown' j b1 k hb1 (hF1 hj hk2) with h | h
     ·exact .inr (hownU k h)
     ·have hk3:k < w.heap.size:=hk
      omega
    ·have hno:∀ j,j < m1 → ρ j ≠ i:=fun j hj he=>hex ⟨j,hj,he⟩
     rw [hlk2 i hno] at hi'
     exact .inr ⟨i,b,hi',hF2 hno hk2⟩
 have ren:Ren ⟨θ',m1,hp1,Xc,w'⟩ C' ρ s:=by
  refine ⟨hρlt,hΘ1,hN1,rfl,fun k hu=>?_,fun j hj e sz v' l hl=>?_⟩
  ·rcases hu with hu | ⟨i,b,hi,hk⟩
   ·exact .inl ⟨.inl hu,fun ho=>(hnotX k ho).1 hu⟩
   ·have hi':B3 HP i = some b:=hi
    have hk2:FP Θ i b k:=hk
    by_cases hex:∃ j,j < m1 ∧ ρ j = i
    ·obtain ⟨j,hj,rfl⟩:=hex
     rw [hlk1 j hj,Option.map_eq_some_iff] at hi'
     obtain ⟨b1,hb1,rfl⟩:=hi'
     exact .inr ⟨j,b1,hb1,hF1 hj hk2⟩
    ·have hno:∀ j,j < m1 → ρ j ≠ i:=fun j hj he=>hex ⟨j,hj,he⟩
     rw [hlk2 i hno] at hi'
     have hk2:=hF2 hno hk2
     exact .inl ⟨.inr ⟨i,b,hi',hk2⟩,hother i b k hi' hno hk2⟩
  ·have h1:B3 HP (ρ j) = some (.row e sz v' l):=hl
   rw [hlk1 j hj,Option.map_eq_some_iff] at h1
   obtain ⟨b,hb,hbr⟩:=h1
   cases b with
   | bx τ l=>cases hbr
   | map m=>cases hbr
   | it _ _=>cases hbr
   | row e1 sz1 v1 l1 =>
     simp only [U7] at hbr
     cases hbr
     exact ⟨v1,hb,rfl⟩
 have hsat:L6 E n Θ σ' a w':=by
  refine ⟨hs.size,hs.defers,⟨hos.trans hs.fr.os,htape.trans hs.fr.tape,hout.trans hs.fr.output,Nat.le_trans hs.fr.size hsize,fun k hk hO=>?_⟩,fun t x hx=>(hs.slots t x hx).mono le,fun i b hi=>?_,fun i1 i2 b1 b2 k h1 h2 hk1 hk2=>?_,fun i b k hi hk=>?_,hs.X,⟨by have:=hs.base.1;show E.n0 ≤ σ.nx + _;omega,fun i hi=>?_⟩⟩
  ·have h1:=hs.fr.size
   rw [hblock k (by omega) fun ho=>?_]
   ·exact hs.fr.block k hk hO
   ·rcases (hnotX k ho).2 with h2 | h2
    ·exact hO h2
    ·omega
  ·have hi':B3 HP i = some b:=hi
   by_cases hex:∃ j,j < m1 ∧ ρ j = i
   ·obtain ⟨j,hj,rfl⟩:=hex
    rw [hlk1 j hj,Option.map_eq_some_iff] at hi'
    obtain ⟨b1,hb1,rfl⟩:=hi'
    exact ⟨hρlt j hj,Nc ren hj (hbk'.owns j b1 hb1).2⟩
   ·have hno:∀ j,j < m1 → ρ j ≠ i:=fun j hj he=>hex ⟨j,hj,he⟩
    rw [hlk2 i hno] at hi'
    obtain ⟨h1,h2⟩:=hs.owns i b hi'
    refine ⟨by show i < σ.nx + _;omega,h2.mono le (hΘ2 i hno) (fun k=>congrFun (hN2 i hno) k) fun k hk=>hblock k (h2.lt hk) (hother i b k hi' hno hk)⟩
  ·have h1':B3 HP i1 = some b1:=h1
   have h2':B3 HP i2 = some b2:=h2
   by_cases e1:∃ j,j < m1 ∧ ρ j = i1 <;> by_cases e2:∃ j,j < m1 ∧ ρ j = i2
   ·obtain ⟨j1,hj1,rfl⟩:=e1
    obtain ⟨j2,hj2,rfl⟩:=e2
    rw [hlk1 j1 hj1,Option.map_eq_some_iff] at h1'
    rw [hlk1 j2 hj2,Option.map_eq_some_iff] at h2'
    obtain ⟨c1,hc1,rfl⟩:=h1'
    obtain ⟨c2,hc2,rfl⟩:=h2'
    rw [hbk'.apart j1 j2 c1 c2 k hc1 hc2 (hF1 hj1 hk1) (hF1 hj2 hk2)]
   ·obtain ⟨j1,hj1,rfl⟩:=e1
    have hno:∀ j,j < m1 → ρ j ≠ i2:=fun j hj he=>e2 ⟨j,hj,he⟩
    rw [hlk1 j1 hj1,Option.map_eq_some_iff] at h1'
    obtain ⟨c1,hc1,rfl⟩:=h1'
    have hk1:=hF1 hj1 hk1
    rw [hlk2 i2 hno] at h2'
    have hk2:=hF2 hno hk2
    rcases hown' j1 c1 k hc1 hk1 with h | h
    ·exact absurd h (hother i2 b2 k h2' hno hk2)
    ·have:=(hs.owns i2 b2 h2').2.lt hk2
     have h3:k < w.heap.size:=this
     omega
   ·obtain ⟨j2,hj2,rfl⟩:=e2
    have hno:∀ j,j < m1 → ρ j ≠ i1:=fun j hj he=>e1 ⟨j,hj,he⟩
    rw [hlk1 j2 hj2,Option.map_eq_some_iff] at h2'
    obtain ⟨c2,hc2,rfl⟩:=h2'
    have hk2:=hF1 hj2 hk2
    rw [hlk2 i1 hno] at h1'
    have hk1:=hF2 hno hk1
    rcases hown' j2 c2 k hc2 hk2 with h | h
    ·exact absurd h (hother i1 b1 k h1' hno hk1)
    ·have:=(hs.owns i1 b1 h1').2.lt hk1
     have h3:k < w.heap.size:=this
     omega
   ·have hno1:∀ j,j < m1 → ρ j ≠ i1:=fun j hj he=>e1 ⟨j,hj,he⟩
    have hno2:∀ j,j < m1 → ρ j ≠ i2:=fun j hj he=>e2 ⟨j,hj,he⟩
    rw [hlk2 i1 hno1] at h1'
    rw [hlk2 i2 hno2] at h2'
    exact hs.apart i1 i2 b1 b2 k h1' h2' (hF2 hno1 hk1) (hF2 hno2 hk2)
  ·have hi':B3 HP i = some b:=hi
   by_cases hex:∃ j,j < m1 ∧ ρ j = i
   ·obtain ⟨j,hj,rfl⟩:=hex
    rw [hlk1 j hj,Option.map_eq_some_iff] at hi'
    obtain ⟨c1,hc1,rfl⟩:=hi'
    rcases hown' j c1 k hc1 (hF1 hj hk) with h | h
    ·exact hnotX k h
    ·have h1:=hs.fr.size
     exact ⟨fun hx=>by have:=hs.X k hx;omega, .inr (by omega)⟩
   ·have hno:∀ j,j < m1 → ρ j ≠ i:=fun j hj he=>hex ⟨j,hj,he⟩
    rw [hlk2 i hno] at hi'
    exact hs.mine i b k hi' (hF2 hno hk)
  ·have hnx:i < σ.nx:=by have:=hs.base.1;omega
   show Θ i = _ ∨ _ ∧ ¬ Kept HP i
   by_cases hex:∃ j,j < m1 ∧ ρ j = i
   ·obtain ⟨j,hj,rfl⟩:=hex
    have hj0:=hρold j hj hnx
    have h1:=hθ' j hj0
    have h2:θc j = θ (ρ j):=by rw [hm0 j hj0]
    rw [h2] at h1
    rw [hΘ1 j hj]
    by_cases hkp:Kept HP (ρ j)
    ·obtain ⟨e,sz,v,l,hl,hk⟩:=hkp
     have hl2:=hl
     rw [hlk1 j hj,Option.map_eq_some_iff] at hl2
     obtain ⟨b,hb,hbr⟩:=hl2
     cases b with
     | bx _ _=>cases hbr
     | map _=>cases hbr
     | it _ _=>cases hbr
     | row e1 sz1 v1 l1 =>
       simp only [U7] at hbr
       cases hbr
       have hth:=h1.resolve_right fun h=>h.2 ⟨_,_,_,_,hb,hk⟩
       obtain ⟨e0,v0,l0,h0,hke⟩:=(hback j hj0).2 _ _ _ _ hb
       have h3:=hrows0 j hj0 _ _ _ _ h0
       rw [hth]
       rcases hs.base.2 (ρ j) hi with h4 | ⟨_,h4⟩
       ·exact .inl h4
       ·exact absurd ⟨_,_,_,_,(by rw [hm0 j hj0];exact h3),hke.symm.trans hk⟩ h4
    ·rcases h1 with h1 | ⟨⟨x,m,k,h1⟩,_⟩
     ·rw [h1]
      exact (hs.base.2 _ hi).imp id fun h=>⟨h.1,hkp⟩
     ·rcases hs.base.2 _ hi with h4 | ⟨h4,_⟩
      ·exact .inr ⟨⟨x,m,k,by rw [← h4,h1]⟩,hkp⟩
      ·exact .inr ⟨h4,hkp⟩
   ·have hno:∀ j,j < m1 → ρ j ≠ i:=fun j hj he=>hex ⟨j,hj,he⟩
    rw [hΘ2 i hno]
    refine (hs.base.2 i hi).imp id fun ⟨h1,h2⟩=>⟨h1,fun ⟨e,sz,v,l,hl,hk⟩=>h2 ⟨e,sz,v,l,?_,hk⟩⟩
    rw [← hlk2 i hno];exact hl
 exact k _ _ ⟨Θ,hsat.put (Nat.blt_eq ▸ hd) (Ie ren hv)⟩
theorem b9 {f:Nat} {xs:List Operand} {ts:Array TypeId} {L args:List AV} {r:AV} {m0 m1:Nat} {hp0 hp1:Hp} (ι off:List Nat) (hc:B9 P f m0 hp0 args m1 hp1 r)
  (hev:e7 (F1 σ) xs = some L) (hL:Au (L1 ι) (L1 off) args = L) (hargs:V2 m0 args = true) (hι:Nat.beq ι.length m0 = true) (hιo:DW ι σ.nx = true) (hblk:FR σ.hp hp0 ι off m0) (hback:Be hp0 hp1 m0 = true)
  (hl0:N2 m0 hp0 = true) (hl1:N2 m1 hp1 = true) (hm:Nat.ble m0 m1 = true) (hd:Nat.blt d n = true)
  (k:B8 P E n ops rest (St.put ⟨σ.sl,σ.nx + (m1 - m0),X0 (gρ ι m0 σ.nx) (gs ι m0 σ.hp) hp1 ++ σ.hp⟩ d (M8 (gρ ι m0 σ.nx) (gs ι m0 σ.hp) r)) K) :
  B8 P E n ops (⟨some d, .call ⟨.value (.func f),⟨xs⟩,ts⟩,ty,pos,after,none⟩ :: rest) σ K :=
 Qe (caps:=[]) (capF:=[]) ι off hc (.inl ⟨rfl,rfl,rfl⟩) hev (by rw [List.append_nil,List.nil_append];exact hL) hargs hι hιo hblk hback hl0 hl1 hm hd k
theorem P5 {f:Nat} {xs:List Operand} {ts:Array TypeId} {L args:List AV} {r:AV} {m0 m1:Nat} {hp0 hp1:Hp} (ι off:List Nat) (hc:B9 P f m0 hp0 args m1 hp1 r)
  (hev:e7 (F1 σ) xs = some L) (hL:Au (L1 ι) (L1 off) args = L) (hargs:V2 m0 args = true) (hι:Nat.beq ι.length m0 = true) (hιo:DW ι σ.nx = true) (hblk:FR σ.hp hp0 ι off m0) (hback:Be hp0 hp1 m0 = true)
  (hl0:N2 m0 hp0 = true) (hl1:N2 m1 hp1 = true) (hm:Nat.ble m0 m1 = true) (hd:Nat.blt d n = true)
  (k:R1 (M8 (gρ ι m0 σ.nx) (gs ι m0 σ.hp) r) fun r2=>T1 (X0 (gρ ι m0 σ.nx) (gs ι m0 σ.hp) hp1 ++ σ.hp) fun hp2=>H3 (σ.nx + (m1 - m0)) fun nx2=>B8 P E n ops rest (St.put ⟨σ.sl,nx2,hp2⟩ d r2) K) :
  B8 P E n ops (⟨some d, .call ⟨.value (.func f),⟨xs⟩,ts⟩,ty,pos,after,none⟩ :: rest) σ K :=
 b9 ι off hc hev hL hargs hι hιo hblk hback hl0 hl1 hm hd (E5 (V4 (DU k)))
end rules
section pure
variable {P:Program} {E:Env} {nx:Nat} {hp:Hp} {ev:Operand → Option AV} {ty:TypeId} {x y:Operand} {F:AV → Prop} {T T2:TypeId}
theorem XS {av:AV} (hx:ev x = some av):Aj P E nx hp ev (.move x) ty av:=fun _ _ _ _ _ _ h=>⟨_,fun _=>rfl,h.rel hx⟩
theorem Sx {av:AV} (hx:ev x = some av):Aj P E nx hp ev (.assign x) ty av:=fun _ _ _ _ _ _ h=>⟨_,fun _=>rfl,h.rel hx⟩
theorem LI {op:BinOp} {k:IntKind} {a b:Int} {r:Value} (hx:ev x = some (.v (.int k a))) (hy:ev y = some (.v (.int k b))) (hr:u6 op k a b = some r) :
  Aj P E nx hp ev (.binOp op T x y T2) ty (.v r) :=
 fun _ _ _ _ _ _ h=>⟨r,fun w=>K7 (by rw [(h.rel hx).val,(h.rel hy).val];exact b6 ..) (by rw [(h.rel hx).val,(h.rel hy).val];exact Kf hr T w), .im (.v _)⟩
theorem XT {a b:List UInt8} (hx:ev x = some (.str a)) (hy:ev y = some (.str b)) (hr:a.length + b.length ≤ 9223372036854775807) :
  Aj P E nx hp ev (.binOp .add T x y T2) ty (.str (a ++ b)) :=
 fun _ _ _ _ _ _ h=>⟨_,fun w=>K7 (by rw [(h.rel hx).sval,(h.rel hy).sval];exact CT ..) (by rw [(h.rel hx).sval,(h.rel hy).sval];exact Kg hr T w), .im (.str _)⟩
theorem Mu {S f off sz:Nat} [tf:K6 P S f off sz] {i o:Nat} (hx:ev x = some (.ref i o)) (hz:Nat.blt 0 sz = true):Aj P E nx hp ev (.fieldAddr S x f) ty (.ref i (o + off)) :=
 fun _ _ _ θ a w h=>by
  obtain ⟨b,hθ,hv,hnx⟩:=Q9 (h.rel hx)
  refine ⟨.pointer (some ⟨b,o + off,none⟩),fun w=>?_, .ref i _ b hnx hθ⟩
  simp only [execOp,hv,Sem.run_bind,b7 (P:=P) (S:=S) (f:=f) (off:=off) (sz:=sz) (Nat.blt_eq ▸ hz),Result.andThen_ok,addr_add]
  rfl
theorem LJ {S f off sz:Nat} [tf:K6 P S f off sz] {l:List AV} (hx:ev x = some (.iptr l)) (hz:Nat.blt 0 sz = true):Aj P E nx hp ev (.fieldAddr S x f) ty (.iptr (l.drop off)) :=
 fun _ _ _ θ a w h=>by
  obtain ⟨p,g,hv,hu,hc,hr⟩:=BW (h.rel hx)
  refine ⟨.pointer (some (p.add off)),fun w=>?_, .im (.iptr _ _ (fun j=>g (off + j)) (fun hne=>?_) (fun j hj=>?_) fun j u hu'=>?_)⟩
  ·simp only [execOp,hv,Sem.run_bind,b7 (P:=P) (S:=S) (f:=f) (off:=off) (sz:=sz) (Nat.blt_eq ▸ hz),Result.andThen_ok]
   rfl
  ·rw [T5];exact hu (by rintro rfl;simp at hne)
  ·rw [AK];exact hc _ (by simp at hj;omega)
  ·rw [List.getElem?_drop] at hu';exact hr _ _ hu'
theorem Mv {S f off sz:Nat} [tf:K6 P S f off sz] {i ver k o e Y6:Nat} {l:List (List AV)} (hx:ev x = some (.elt i ver k o)) (hb:B3 hp i = some (.row e Y6 ver l)) (hz:Nat.blt 0 sz = true):Aj P E nx hp ev (.fieldAddr S x f) ty (.elt i ver k (o + off)) :=
 fun _ _ _ θ a w h=>by
  obtain ⟨g,m,cap,hθ,hv,hnx⟩:=b8 (h.rel hx) hb
  refine ⟨.pointer (some ⟨g,k * Y6 + o + off,none⟩),fun w=>?_, .elt i ver k _ _ hnx fun e' sz' v' l' hl'=>?_⟩
  ·simp only [execOp,hv,Sem.run_bind,b7 (P:=P) (S:=S) (f:=f) (off:=off) (sz:=sz) (Nat.blt_eq ▸ hz),Result.andThen_ok,addr_add]
   rfl
  ·have:B3 hp i = some (.row e' sz' v' l'):=hl'
   rw [hb] at this
   cases this
   exact ⟨Nat.le_refl _,fun _=>⟨g,m,cap,hθ,by rw [Nat.add_assoc]⟩⟩
theorem ZI {b:Bool} (hx:ev x = some (.v (.bool b))):Aj P E nx hp ev (.unOp .not T x) ty (.v (.bool (!b))) :=
 fun _ _ _ _ _ _ h=>⟨_,fun w=>by simp [execOp,Op.unary,(h.rel hx).val,Sem.run_bind,Sem.run_pure], .im (.v _)⟩
theorem Qf [ts:S9 P T] {l:List UInt8} (hx:ev x = some (.str l)):Aj P E nx hp ev (.call ⟨.builtin .len, #[x], #[T]⟩) ty (.i l.length) :=
 fun _ _ _ _ _ _ h=>⟨_,fun w=>by rw [O8,(h.rel hx).sval];simp [builtin,run_len_string w T ty _ ts.out,Sem.run_bind,Sem.run_pure,goInt,ByteArray.size], .im (.v _)⟩
theorem Sy {e sz:Nat} [ts:K8 P T e sz] {sz':Nat} {l:List (List AV)} (hx:ev x = some (.sl sz' l)):Aj P E nx hp ev (.call ⟨.builtin .len, #[x], #[T]⟩) ty (.i l.length) :=
 fun _ _ _ _ _ _ h=>by
  obtain ⟨_,p,cap,hv⟩:=QA (h.rel hx)
  exact ⟨_,fun w=>by rw [O8,hv];simp [builtin,run_len_slice ts.out.1,Sem.run_bind,Sem.run_pure], .im (.v _)⟩
theorem Qg {e sz:Nat} [ts:K8 P T e sz] {i ver len e' sz':Nat} {l:List (List AV)} (hx:ev x = some (.row i ver len)) (hb:B3 hp i = some (.row e' sz' ver l)):Aj P E nx hp ev (.call ⟨.builtin .len, #[x], #[T]⟩) ty (.i len) :=
 fun _ _ _ θ a w h=>by
  obtain ⟨hl,hv,_⟩:=T8 (h.rel hx) hb
  obtain ⟨xs,hown,_⟩:=h.row hb
  obtain ⟨p,cap,hs,_⟩:=V0 hown
  have hv':a.eval x = .slice p l.length cap:=by rw [hv];exact hs
  exact ⟨_,fun w=>by rw [O8,hv',hl];simp [builtin,run_len_slice ts.out.1,Sem.run_bind,Sem.run_pure], .im (.v _)⟩
theorem Mw {e sz:Nat} [ts:K8 P T e sz] {i ver len e':Nat} {l:List (List AV)} {k:IntKind} {j:Int} (hx:ev x = some (.row i ver len)) (hb:B3 hp i = some (.row e' sz ver l)) (hy:ev y = some (.v (.int k j))) (h0:0 ≤ j) (h1:j < len) :
  Aj P E nx hp ev (.indexAddr T x y) ty (.elt i ver j.toNat 0) :=
 fun _ _ _ θ a w h=>by
  obtain ⟨hl,hv,hnx⟩:=T8 (h.rel hx) hb
  obtain ⟨xs,hown,hsz,_⟩:=h.row hb
  have hj:=(h.rel hy).val
  rcases hown.2 with ⟨hθ,hn⟩ | ⟨g,cap,cur,hθ,_,hg,_⟩
  ·omega
  ·have hv':a.eval x = .slice (some ⟨g,0,none⟩) l.length cap:=by rw [hv];exact hθ
   refine ⟨.pointer (some ⟨g,j.toNat * sz,none⟩),fun w=>?_, .elt i ver _ 0 _ hnx fun e2 sz2 v2 l2 hl2=>?_⟩
   ·simp only [execOp,hv',hj,Sem.run_bind]
    rw [AY (P:=P) (T:=T) (e:=e) (sz:=sz) h0 (by omega),addr_add,Nat.zero_add]
    rfl
   ·have:B3 hp i = some (.row e2 sz2 v2 l2):=hl2
    rw [hb] at this
    cases this
    exact ⟨Nat.le_refl _,fun _=>⟨g,l.length,cap,hθ,by simp⟩⟩
theorem Oq {e sz:Nat} [ts:K8 P T e sz] {l:List (List AV)} {k:IntKind} {i:Int} {el:List AV} (hx:ev x = some (.sl sz l)) (hy:ev y = some (.v (.int k i))) (h0:0 ≤ i) (hel:l[i.toNat]? = some el):Aj P E nx hp ev (.indexAddr T x y) ty (.iptr el) :=
 fun _ _ _ θ a w h=>by
  have hlt:i.toNat < l.length:=(List.getElem?_eq_some_iff.1 hel).1
  have hi:=(h.rel hy).val
  rcases Cj (h.rel hx) with ⟨_,e⟩ | ⟨p,cap,f,hv,h3,h4,h5,h6,h7,h8⟩
  ·subst e;simp at hlt
  ·have hsz:=h6 _ (List.mem_of_getElem? hel)
   refine ⟨.pointer (some (p.add (i.toNat * sz))),fun w=>?_, .im (.iptr _ _ (f i.toNat) (fun hne=>?_) (fun j hj=>?_) fun j u hu=>h8 _ _ hel j u hu)⟩
   ·simp only [execOp,hv,hi,Sem.run_bind]
    rw [AY (P:=P) (T:=T) (e:=e) (sz:=sz) h0 (by omega)]
    rfl
   ·rw [T5]
    refine h5 (by intro e;simp [e] at hlt) ?_
    have h9:=List.length_pos_iff.2 hne
    omega
   ·rw [AK]
    exact h7 _ hlt _ (by omega)
def Sz:Op → Bool
 | .move _ | .assign _ | .fieldAddr .. | .build ..=>true
 | .binOp .quo .. | .binOp .rem .. | .binOp .shl .. | .binOp .shr ..=>false
 | .binOp ..=>true
 | _=>false
def XU (ev:Operand → Option AV):Op → Bool
 | .indexAddr _ x _=>match ev x with
   | some (.row ..)=>true
   | some (.sl ..)=>true
   | _=>false
 | .call ⟨.builtin .len,⟨[x]⟩,_⟩=>match ev x with
   | some (.row ..)=>true
   | some (.sl ..)=>true
   | some (.str ..)=>true
   | _=>false
 | .unOp .not _ x=>match ev x with
   | some (.v (.bool _))=>true
   | _=>false
 | op=>Sz op
def PV (P:Program) (op:Op) (ev:Operand → Option AV) (hp:Hp) (F:AV → Prop):Prop :=
 match op with
 | .move x=>S2 (ev x) F
 | .assign x=>S2 (ev x) F
 | .binOp op _ x y _=>match op,ev x,ev y with
   | .add,some (.v (.int .i64 a)),some (.v (.int .i64 b))=>G1 (-9223372036854775808 ≤ a + b ∧ a + b ≤ 9223372036854775807) (F (.v (.int .i64 (a + b))))
   | .sub,some (.v (.int .i64 a)),some (.v (.int .i64 b))=>G1 (-9223372036854775808 ≤ a - b ∧ a - b ≤ 9223372036854775807) (F (.v (.int .i64 (a - b))))
   | .add,some (.str a),some (.str b)=>G1 (a.length + b.length ≤ 9223372036854775807) (F (.str (a ++ b)))
   | op,some (.v (.int k a)),some (.v (.int k' b))=>cond (decide (k = k')) (match u6 op k a b with
     | some r=>F (.v r)
     | none=>False) False
   | _,_,_=>False
 | .fieldAddr S x f=>IZ P S f fun off sz=>cond (Nat.blt 0 sz) (match ev x with
   | some (.ref i o)=>F (.ref i (o + off))
   | some (.iptr l)=>F (.iptr (l.drop off))
   | some (.elt i ver k o)=>(match B3 hp i with
     | some (.row _ _ ver' _)=>G1 (ver = ver') (F (.elt i ver k (o + off)))
     | _=>False)
   | _=>False) False
 | .build T ⟨parts⟩=>match n7 ev parts with
   | some ps=>EU P T fun zs pl=>Al hp ps (S2 ((o4 pl zs ps).map AV.agg) F)
   | none=>False
 | .indexAddr T x y=>(match ev x,ev y with
   | some (.sl sz l),some (.v (.int _ i))=>EC P T fun _ sz'=>cond (Nat.beq sz sz') (N5 l i fun el=>F (.iptr el)) False
   | some (.row r ver len),some (.v (.int _ i))=>(match B3 hp r with
     | some (.row _ sz ver' _)=>G1 (ver = ver') (EC P T fun _ sz'=>cond (Nat.beq sz sz') (G1 (0 ≤ i ∧ i < len) (F (.elt r ver i.toNat 0))) False)
     | _=>False)
   | _,_=>False)
 | .call ⟨.builtin .len,⟨[x]⟩,⟨[T]⟩⟩=>(match ev x with
   | some (.sl _ l)=>EC P T fun _ _=>IY l fun m=>F (.i m)
   | some (.str s)=>Ac P T (F (.i s.length))
   | some (.row r ver len)=>(match B3 hp r with
     | some (.row _ _ ver' _)=>G1 (ver = ver') (EC P T fun _ _=>F (.i len))
     | _=>False)
   | _=>False)
 | .unOp .not _ x=>(match ev x with
   | some (.v (.bool b))=>F (.v (.bool (!b)))
   | _=>False)
 | _=>False
theorem Zq {op:Op} (h:PV P op ev hp F):∃ av,Aj P E nx hp ev op ty av ∧ F av:=by
 unfold PV at h
 split at h
 ·obtain ⟨a,hx,h⟩:=I6 h;exact ⟨a,XS hx,h⟩
 ·obtain ⟨a,hx,h⟩:=I6 h;exact ⟨a,Sx hx,h⟩
 ·split at h
  ·rename_i hx hy;exact ⟨_,LI hx hy (by simp only [u6,P6 h.h]),h.k⟩
  ·rename_i hx hy;exact ⟨_,LI hx hy (by simp only [u6,P6 h.h]),h.k⟩
  ·rename_i hx hy;exact ⟨_,XT hx hy h.h,h.k⟩
  ·rename_i hx hy
   obtain ⟨hk,hq⟩:=cond_false h
   have hk:=of_decide_eq_true hk
   subst hk
   split at hq
   ·rename_i hr;exact ⟨_,LI hx hy hr,hq⟩
   ·exact hq.elim
  ·exact h.elim
 ·obtain ⟨⟨off,sz,tf,h⟩⟩:=h
  obtain ⟨hz,h⟩:=cond_false h
  split at h
  ·rename_i hx;exact ⟨_,Mu (off:=off) (sz:=sz) hx hz,h⟩
  ·rename_i hx;exact ⟨_,LJ (off:=off) (sz:=sz) hx hz,h⟩
  ·rename_i hx
   split at h
   ·rename_i hb
    obtain ⟨rfl,h⟩:=h
    exact ⟨_,Mv (off:=off) (sz:=sz) hx hb hz,h⟩
   ·exact h.elim
  ·exact h.elim
 ·split at h
  ·rename_i ps hps
   obtain ⟨⟨zs,pl,tz,tp,h⟩⟩:=h
   obtain ⟨hf,h⟩:=W4 h
   obtain ⟨a,ha,h⟩:=I6 h
   rw [Option.map_eq_some_iff] at ha
   obtain ⟨l,hl,rfl⟩:=ha
   exact ⟨_,NT (T:=_) hps hf hl,h⟩
  ·exact h.elim
 ·split at h
  ·rename_i hx hy
   obtain ⟨⟨e,sz',ts,h⟩⟩:=h
   obtain ⟨hc,hq⟩:=cond_false h
   have hc:=Nat.eq_of_beq_eq_true hc
   subst hc
   obtain ⟨h0,h1,hk⟩:=hq
   rename_i sz l kk i
   have hlt:i.toNat < l.length:=by omega
   have hel:l[i.toNat]? = some l[i.toNat]:=List.getElem?_eq_getElem hlt
   exact ⟨_,Oq (e:=e) hx hy h0 hel,hk _ hel⟩
  ·rename_i hx hy
   split at h
   ·rename_i hb
    obtain ⟨rfl,h⟩:=h
    obtain ⟨⟨e,sz',ts,h⟩⟩:=h
    obtain ⟨hc,hq⟩:=cond_false h
    have hc:=Nat.eq_of_beq_eq_true hc
    subst hc
    exact ⟨_,Mw (e:=e) hx hb hy hq.h.1 hq.h.2,hq.k⟩
   ·exact h.elim
  ·exact h.elim
 ·split at h
  ·rename_i hx
   obtain ⟨⟨e,sz',ts,h⟩⟩:=h
   exact ⟨_,Sy (e:=e) (sz:=sz') hx,h.k⟩
  ·rename_i hx
   obtain ⟨ts,h⟩:=h
   exact ⟨_,Qf hx,h⟩
  ·rename_i hx
   split at h
   ·rename_i hb
    obtain ⟨rfl,h⟩:=h
    obtain ⟨⟨e,sz',ts,h⟩⟩:=h
    exact ⟨_,Qg (e:=e) (sz:=sz') hx hb,h⟩
   ·exact h.elim
  ·exact h.elim
 ·split at h
  ·rename_i hx;exact ⟨_,ZI hx,h⟩
  ·exact h.elim
 ·exact h.elim
end pure
def c6 (ops:Array Oper):List (List Nat):=ops.toList.map fun o=>(o.after.toList.filter fun e=>Region.binds .any e).map (·.on)
def X7 (all:List Bool):Nat → List (List Nat) → List Bool → List Nat
 | k,e :: es,b :: bs=>cond b (X7 all (k + 1) es bs) (cond (e.all fun j=>all.getD j false) (k :: X7 all (k + 1) es bs) (X7 all (k + 1) es bs))
 | _,_,_=>[]
theorem w3 {all:List Bool}:∀ (es:List (List Nat)) (bs:List Bool) (k i:Nat),i ∈ X7 all k es bs ↔ ∃ j e,i = k + j ∧ es[j]? = some e ∧ bs[j]? = some false ∧ (∀ x ∈ e,all.getD x false = true)
 | [],bs,k,i=>by simp [X7]
 | e :: es,[],k,i=>by simp [X7]
 | e :: es,b :: bs,k,i=>by
   have ih:=w3 (all:=all) es bs (k + 1) i
   have key:(∃ j e',i = k + j ∧ (e :: es)[j]? = some e' ∧ (b :: bs)[j]? = some false ∧ (∀ x ∈ e',all.getD x false = true)) ↔ (i = k ∧ b = false ∧ ∀ x ∈ e,all.getD x false = true) ∨ i ∈ X7 all (k + 1) es bs:=by
    rw [ih]
    constructor
    ·rintro ⟨j,e',h1,h2,h3,h4⟩
     cases j with
     | zero=>simp at h2 h3;subst h2;exact .inl ⟨by omega,h3,h4⟩
     | succ j=>exact .inr ⟨j,e',by omega,by simpa using h2,by simpa using h3,h4⟩
    ·rintro (⟨h1,h2,h3⟩ | ⟨j,e',h1,h2,h3,h4⟩)
     ·exact ⟨0,e,by omega,rfl,by simp [h2],h3⟩
     ·exact ⟨j + 1,e',by omega,by simpa using h2,by simpa using h3,h4⟩
   rw [key]
   have hall:(e.all fun j=>all.getD j false) = true ↔ ∀ x ∈ e,all.getD x false = true:=by rw [List.all_eq_true]
   cases b with
   | true=>simp [X7]
   | false =>
     simp only [X7,Bool.cond_false]
     cases ha:e.all fun j=>all.getD j false with
     | true =>
       rw [ha] at hall
       simp only [true_iff] at hall
       simp only [Bool.cond_true,List.mem_cons]
       constructor
       ·intro h
        rcases h with h | h
        ·exact Or.inl ⟨h,by first | trivial | rfl,by first | exact hall | trivial⟩
        ·exact Or.inr h
       ·intro h
        rcases h with h | h
        ·exact Or.inl h.1
        ·exact Or.inr h
     | false =>
       rw [ha] at hall
       simp only [Bool.false_eq_true,false_iff] at hall
       simp only [Bool.cond_false]
       constructor
       ·exact Or.inr
       ·intro h
        rcases h with h | h
        ·exact absurd h.2.2 hall
        ·exact h
theorem g8 {ops:Array Oper} {l:List Bool} (hl:l.length = ops.size) (i:Nat):i ∈ Region.ready .any ops l.toArray ↔ i ∈ X7 l 0 (c6 ops) l:=by
 rw [mem_ready,w3]
 constructor
 ·rintro ⟨h1,o,ho,h2⟩
  have hlt:i < ops.size:=(Array.getElem?_eq_some_iff.1 ho).1
  refine ⟨i,_,by omega,by simp [c6,ho];rfl,?_,?_⟩
  ·have hlt2:i < l.length:=by omega
   simp [hlt2] at h1 ⊢
   exact h1
  ·intro x hx
   simp only [List.mem_map,List.mem_filter,Array.mem_toList_iff] at hx
   obtain ⟨e,⟨he,hb⟩,rfl⟩:=hx
   have:=h2 e he hb
   simpa using this
 ·rintro ⟨j,e,h0,h1,h2,h3⟩
  have:j = i:=by omega
  subst this
  simp only [c6,List.getElem?_map,Option.map_eq_some_iff,Array.getElem?_toList] at h1
  obtain ⟨o,ho,rfl⟩:=h1
  refine ⟨by simp [h2],o,ho,fun e he hb=>?_⟩
  have:=h3 e.on (List.mem_map.2 ⟨e,List.mem_filter.2 ⟨by simpa using he,hb⟩,rfl⟩)
  simpa using this
theorem GT {P:Program} {o:Oper} {a:Act} {w:World} {K K':Act → World → Prop} {Q Q':Exit → Act → World → Prop} (hQ:∀ e a w,Q e a w → e = .normal) (h:∀ a w,K a w → K' a w) (hh:o.wp P a w K Q):o.wp P a w K' Q':=by
 unfold Oper.wp at *
 generalize (execOp a.eval o).run P w = r at *
 cases r with
 | ok n w' =>
   cases n <;> simp only [Oper.upon] at hh ⊢ <;>
    first
     | exact h _ _ hh
     | exact Calls.mono hh (fun e w'' he=>by
       cases e with
       | returned v=>exact h _ _ he
       | panicked c=>exact absurd (hQ _ _ _ he) (by simp)
       | outgrown=>obtain ⟨a,w,hx⟩:=he;exact absurd (hQ _ _ _ hx) (by simp))
     | exact Rows.mono hh (fun _ _ he=>h _ _ he)
 | halt x w' =>
   cases x <;> simp only [Oper.upon] at hh ⊢
   exact absurd (hQ _ _ _ hh) (by simp)
theorem Ig {P:Program} {ops:Array Oper} {Q Q':Exit → Act → World → Prop} (hQ:∀ e a w,Q e a w → e = .normal) (h:∀ a w,Q .normal a w → Q' .normal a w):∀ (fuel:Nat) (listed:Array Bool) (a:Act) (w:World),wpAny P .any ops Q fuel listed a w → wpAny P .any ops Q' fuel listed a w:=by
 intro fuel
 induction fuel with
 | zero=>intro l a w hx;exact ⟨hx.1,h a w hx.2⟩
 | succ fuel ih =>
   intro l a w hx
   refine ⟨fun hr=>h a w (hx.1 hr),fun i hi=>?_⟩
   have h1:=hx.2 i hi
   unfold wpOp at h1 ⊢
   split at h1
   ·exact ih _ _ _ h1
   ·split at h1
    ·rename_i hw
     rw [if_pos hw]
     rcases h1 with h1 | ⟨_,a1,w1,hx⟩
     ·exact .inl (GT hQ (fun a' w' hn=>ih _ _ _ hn) h1)
     ·exact absurd (hQ _ _ _ hx) (by simp)
    ·rename_i hw
     rw [if_neg hw]
     exact ih _ _ _ h1
section rules
variable {P:Program} {E:Env} {n:Nat} {ops:Array Oper} {σ:St} {K:St → Prop} {Q:Exit → St → Prop}
def D8 (P:Program) (E:Env) (n:Nat) (ops:Array Oper) (fuel:Nat) (l:List Bool) (σ:St) (K:St → Prop):Prop :=
 ∀ a w,d9 E n σ a w → wpAny P .any ops (fun e a' w'=>e = .normal ∧ ∃ σ',K σ' ∧ d9 E n σ' a' w') fuel l.toArray a w
def TA (P:Program) (E:Env) (n:Nat) (ops:Array Oper) (fuel:Nat) (l:List Bool) (σ:St) (K:St → Prop):List Nat → Prop
 | []=>True
 | i :: r=>(match ops[i]? with
   | some o=>B8 P E n ops [o] σ fun σ'=>D8 P E n ops fuel (l.set i true) σ' K
   | none=>False) ∧ TA P E n ops fuel l σ K r
theorem LK {fuel:Nat} {l:List Bool}:∀ {r:List Nat},TA P E n ops fuel l σ K r → ∀ i ∈ r, ∃ o,ops[i]? = some o ∧ B8 P E n ops [o] σ fun σ'=>D8 P E n ops fuel (l.set i true) σ' K
 | [],_,i,hi=>by cases hi
 | j :: r,h,i,hi=>by
   rcases List.mem_cons.1 hi with rfl | hi
   ·have:=h.1
    split at this
    ·rename_i o ho;exact ⟨o,ho,this⟩
    ·exact this.elim
   ·exact LK h.2 i hi
structure Ot (P:Program) (E:Env) (n:Nat) (ops:Array Oper) (fuel:Nat) (l:List Bool) (σ:St) (K:St → Prop) (r:List Nat):Prop where
 h:TA P E n ops fuel l σ K r
def Ee (ev:Operand → Option AV) (ops:Array Oper) (l:List Bool):List Nat → Option Nat
 | []=>none
 | i :: r=>match ops[i]? with
   | some ⟨some _,op,_,_,_,none⟩=>cond (XU ev op) (some i) (Ee ev ops l r)
   | _=>Ee ev ops l r
structure VD (p:Prop) (A:Prop):Prop where
 h:p
 k:A
def XV (P:Program) (E:Env) (n:Nat) (ops:Array Oper) (fuel:Nat) (l:List Bool) (σ:St) (K:St → Prop):Prop :=
 match X7 l 0 (c6 ops) l with
 | []=>K σ
 | i :: r=>match fuel with
   | 0=>False
   | fuel + 1=>match Ee (F1 σ) ops l (i :: r) with
     | some i=>match ops[i]? with
       | some ⟨some d,op,_,_,_,none⟩=>VD (Region.free .any ops l.toArray i = true ∧ i ∈ X7 l 0 (c6 ops) l) (cond (Nat.blt d n) (PV P op (F1 σ) σ.hp fun av=>D8 P E n ops fuel (l.set i true) (σ.put d av) K) False)
       | _=>False
     | none=>Ot P E n ops fuel l σ K (i :: r)
theorem c7 (l:List Bool) (i:Nat):l.toArray.setIfInBounds i true = (l.set i true).toArray:=by simp
theorem Vm {fuel:Nat} {l:List Bool} (hns:Region.noSelect ops = true) (hl:Nat.beq l.length ops.size = true) (h:XV P E n ops fuel l σ K):D8 P E n ops fuel l σ K:=by
 have hl:=Nat.eq_of_beq_eq_true hl
 unfold XV at h
 split at h
 ·rename_i hr
  intro a w hs
  have hnil:Region.ready .any ops l.toArray = []:=by
   cases hx:Region.ready .any ops l.toArray with
   | nil=>rfl
   | cons i r=>have:=(g8 hl i).1 (by rw [hx];simp);rw [hr] at this;cases this
  exact wpAny_done hnil ⟨rfl,σ,h,hs⟩ _
 ·rename_i i r hr
  split at h
  ·exact h.elim
  ·rename_i fuel
   split at h
   ·rename_i i' hfp
    split at h
    ·rename_i d op ty pos after hop
     obtain ⟨⟨hf,hir⟩,h⟩:=h
     obtain ⟨hd,h⟩:=cond_false h
     obtain ⟨av,hp,h⟩:=Zq (E:=E) (nx:=σ.nx) (ty:=ty) h
     rintro a w ⟨θ,hs⟩
     obtain ⟨v,hv1,hv2⟩:=hp (some d) pos after θ a w hs.evT
     refine wpAny_take hop hns hf (by simpa using (g8 hl i').2 hir) (fun c a w hc=>by cases hc.1) (v:=v) (.inl ⟨by simp [Region.wanted],hv1⟩) ?_
     rw [c7]
     exact h _ _ ⟨θ,hs.put (Nat.blt_eq ▸ hd) hv2⟩
    ·exact h.elim
   ·intro a w hs
    refine ⟨fun hnil=>?_,fun j hj=>?_⟩
    ·have:=(g8 hl i).2 (by rw [hr];simp)
     rw [hnil] at this
     cases this
    ·have hj':=(g8 hl j).1 hj
     rw [hr] at hj'
     obtain ⟨o,ho,hA⟩:=LK h.h j hj'
     have hw:=hA a w hs
     unfold wpOp
     simp only [ho]
     unfold wpList at hw
     split
     ·rename_i hwant
      rw [if_pos hwant] at hw
      rcases hw with hw | ⟨_,a1,w1,hx⟩
      ·refine .inl (GT (fun e a w h=>h.1) (fun a' w' hn=>?_) hw)
       obtain ⟨_,σ',hk,hs'⟩:=hn
       rw [c7]
       exact hk a' w' hs'
      ·exact absurd hx.1 (by simp)
     ·rename_i hwant
      rw [if_neg hwant] at hw
      obtain ⟨_,σ',hk,hs'⟩:=hw
      rw [c7]
      exact hk _ _ hs'
def W5 (ops:Array Oper):List Bool:=ops.toList.map fun _=>false
theorem Am {id:Nat} [hm:Ic P] (S:St) (h:D8 P E n ops ops.size (W5 ops) σ fun σ'=>St.le E n σ' S) (k:Q .normal S):Ad P E n id ops σ Q:=by
 refine ⟨fun a w ⟨θ,hs⟩=>wp_region_any hm.out ?_⟩
 have hb:Below w.heap.size w { w with drawn:=w.drawn + 1 }:=Below.drew (Below.refl _ _)
 have h1:=h a { w with drawn:=w.drawn + 1 } ⟨θ,hs.below hb⟩
 have e:(W5 ops).toArray = Array.replicate ops.size false:=by
  apply Array.ext'
  simp [W5,List.map_const']
 rw [e] at h1
 exact Ig (fun e a w hx=>hx.1) (fun a w hx=>by
  obtain ⟨_,σ',hle,hs'⟩:=hx
  exact ⟨S,k,hle a w hs'⟩) _ _ _ _ h1
theorem C3 {σ1 σ2 σ3:St} (h:St.le E n σ1 σ2) (h':St.le E n σ2 σ3):St.le E n σ1 σ3:=fun a w hs=>h' a w (h a w hs)
theorem B7 {σ1:St}:St.le E n σ1 σ1:=fun a w hs=>hs
def swp (i j k:Nat):Nat:=cond (Nat.beq k i) j (cond (Nat.beq k j) i k)
theorem Cl (i j k:Nat):swp i j k = if k = i then j else if k = j then i else k:=by
 unfold swp
 cases h1:Nat.beq k i with
 | true=>rw [if_pos (Nat.eq_of_beq_eq_true h1)];rfl
 | false =>
   have:k ≠ i:=by intro e;subst e;simp at h1
   rw [if_neg this]
   cases h2:Nat.beq k j with
   | true=>rw [if_pos (Nat.eq_of_beq_eq_true h2)];rfl
   | false =>
     have:k ≠ j:=by intro e;subst e;simp at h2
     rw [if_neg this];rfl
theorem AM (i j k:Nat):swp i j (swp i j k) = k:=by
 rw [Cl i j k]
 split
 ·rename_i h;subst h
  rw [Cl]
  split
  ·rename_i h;exact h
  ·rw [if_pos rfl]
 ·split
  ·rename_i h;subst h;rw [Cl,if_pos rfl]
  ·rename_i h1 h2;rw [Cl,if_neg h1,if_neg h2]
theorem Bf (i j:Nat) {m:Nat} (h0:E.n0 = m) (hb:(Nat.ble m i && Nat.ble m j && Nat.blt i σ.nx && Nat.blt j σ.nx) = true) (hlt:N2 σ.nx σ.hp = true) :
  St.le E n σ ⟨e8 (M8 (swp i j) fun _=>0) σ.sl,σ.nx,X0 (swp i j) (fun _=>0) σ.hp⟩:=by
 simp only [Bool.and_eq_true,Nat.ble_eq,Nat.blt_eq] at hb
 obtain ⟨⟨⟨hi0,hj0⟩,hi⟩,hj⟩:=hb
 have hsw:∀ k,k < σ.nx → swp i j k < σ.nx:=fun k hk=>by
  rw [Cl]
  split
  ·exact hj
  ·split
   ·exact hi
   ·exact hk
 have hinj:∀ a b,a < σ.nx → b < σ.nx → swp i j a = swp i j b → a = b:=fun a b _ _ h=>by rw [← AM i j a,h,AM]
 have hlk:∀ q,q < σ.nx → B3 (X0 (swp i j) (fun _=>0) σ.hp) (swp i j q) = (B3 σ.hp q).map (U7 (swp i j) (fun _=>0) q):=by
  intro q hq
  have:=DV (ρ:=swp i j) (s:=fun _=>0) hinj σ.hp [] hlt q hq
  rw [List.append_nil] at this
  unfold B3
  rw [this]
  cases look σ.hp q with
  | none=>rfl
  | some b=>cases b <;> rfl
 have hno:∀ k,σ.nx ≤ k → B3 (X0 (swp i j) (fun _=>0) σ.hp) k = none:=by
  intro k hk
  have:=p7 (ρ:=swp i j) (s:=fun _=>0) (m:=σ.nx) σ.hp [] hlt k (fun q hq he=>by have:=hsw q hq;omega)
  rw [List.append_nil] at this
  unfold B3
  rw [this]
  rfl
 rintro a w ⟨θ,hs⟩
 let σ':St:=⟨e8 (M8 (swp i j) fun _=>0) σ.sl,σ.nx,X0 (swp i j) (fun _=>0) σ.hp⟩
 let θ':Th:=⟨fun k=>θ (swp i j k),fun k=>θ.N (swp i j k)⟩
 have back:∀ k b,B3 σ'.hp k = some b → ∃ q b0,k = swp i j q ∧ q < σ.nx ∧ B3 σ.hp q = some b0 ∧ b = U7 (swp i j) (fun _=>0) q b0 ∧ ∀ z,FP θ' k b z → FP θ q b0 z:=by
  intro k b hb
  by_cases hk:k < σ.nx
  ·have hb':B3 (X0 (swp i j) (fun _=>0) σ.hp) (swp i j (swp i j k)) = some b:=by rw [AM];exact hb
   rw [hlk _ (hsw k hk),Option.map_eq_some_iff] at hb'
   obtain ⟨b0,h1,h2⟩:=hb'
   refine ⟨swp i j k,b0,(AM i j k).symm,hsw k hk,h1,h2.symm,fun z hz=>?_⟩
   subst h2
   unfold FP at hz ⊢
   rwa [JS] at hz
  ·rw [hno k (by omega)] at hb;cases hb
 have ren:Ren (cx E θ σ w) (cx E θ' σ' w) (swp i j) (fun _=>0):=by
  refine ⟨hsw,fun k hk=>by show θ (swp i j (swp i j k)) = _;rw [AM];rfl,fun k hk=>by show θ.N (swp i j (swp i j k)) = _;rw [AM];rfl,rfl,fun k hu=>?_,fun q hq e sz v' l hl=>?_⟩
  ·rcases hu with hu | ⟨q,b,hb,hk⟩
   ·exact .inl hu
   ·obtain ⟨q',b0,rfl,hq,h1,h2,h3⟩:=back q b hb
    exact .inr ⟨q',b0,h1,h3 k hk⟩
  ·have h1:B3 (X0 (swp i j) (fun _=>0) σ.hp) (swp i j q) = some (.row e sz v' l):=hl
   rw [hlk q hq,Option.map_eq_some_iff] at h1
   obtain ⟨b,hb,hbr⟩:=h1
   cases b with
   | bx τ l=>cases hbr
   | map m=>cases hbr
   | it _ _=>cases hbr
   | row e1 sz1 v1 l1 =>
     simp only [U7] at hbr
     cases hbr
     exact ⟨v1,hb,rfl⟩
 refine ⟨θ',hs.size,hs.defers,hs.fr,fun s x hx=>?_,fun k b hb=>?_,fun k1 k2 b1 b2 k h1 h2 hk1 hk2=>?_,fun k b q hb hk=>?_,hs.X,⟨hs.base.1,fun k hk=>?_⟩⟩
 ·have hx':look (e8 (M8 (swp i j) fun _=>0) σ.sl) s = some x:=hx
  rw [u9,Option.map_eq_some_iff] at hx'
  obtain ⟨x0,h1,rfl⟩:=hx'
  exact Ie ren (hs.slots s x0 h1)
 ·obtain ⟨q,b0,rfl,hq,h1,rfl,h3⟩:=back k b hb
  exact ⟨hsw q hq,Nc ren hq (hs.owns q b0 h1).2⟩
 ·obtain ⟨q1,c1,rfl,_,g1,_,g2⟩:=back k1 b1 h1
  obtain ⟨q2,c2,rfl,_,g3,_,g4⟩:=back k2 b2 h2
  rw [hs.apart q1 q2 c1 c2 k g1 g3 (g2 k hk1) (g4 k hk2)]
 ·obtain ⟨q1,c1,rfl,_,g1,_,g2⟩:=back k b hb
  exact hs.mine q1 c1 q g1 (g2 q hk)
 ·have:swp i j k = k:=by rw [Cl,if_neg (by omega),if_neg (by omega)]
  show θ (swp i j k) = _ ∨ _
  rw [this]
  refine (hs.base.2 k hk).imp id fun ⟨h1,h2⟩=>⟨h1,fun ⟨e,sz,v,l,hl,hkk⟩=>h2 ?_⟩
  obtain ⟨q,b0,hq,_,hb0,hbb,_⟩:=back k _ hl
  have hqk:q = k:=(AM i j q).symm.trans ((congrArg (swp i j) hq.symm).trans this)
  subst hqk
  cases b0 with
  | bx τ l=>cases hbb
  | map m=>cases hbb
  | it _ _=>cases hbb
  | row e1 sz1 v1 l1 =>
    simp only [U7] at hbb
    cases hbb
    exact ⟨_,_,_,_,hb0,hkk⟩
theorem A7 {fuel:Nat} {l:List Bool}:Ot P E n ops fuel l σ K []:=⟨trivial⟩
theorem A8 {fuel:Nat} {l:List Bool} {i:Nat} {r:List Nat} (h1:match ops[i]? with
  | some o=>B8 P E n ops [o] σ fun σ'=>D8 P E n ops fuel (l.set i true) σ' K
  | none=>False) (h2:Ot P E n ops fuel l σ K r):Ot P E n ops fuel l σ K (i :: r):=⟨⟨h1,h2.h⟩⟩
theorem A9 {p A:Prop} (h:p) (k:A):VD p A:=⟨h,k⟩
end rules
def MV (P:Program) (op:Op) (ev:Operand → Option AV) (F:AV → Prop):Prop :=
 match op with
 | .move x=>S2 (ev x) F
 | .assign x=>S2 (ev x) F
 | .binOp op T x y _=>Kx P T op (ev x) (ev y) F
 | .load T x=>match ev x with
   | some (.iptr l)=>HN P T [] (some (.iptr l)) F
   | _=>False
 | .fieldAddr S x f=>match ev x with
   | some (.iptr l)=>IZ P S f fun off sz=>cond (Nat.blt 0 sz) (F (.iptr (l.drop off))) False
   | some (.ref i o)=>IZ P S f fun off sz=>cond (Nat.blt 0 sz) (F (.ref i (o + off))) False
   | _=>False
 | .indexAddr T x y=>match ev x with
   | some (.sl sz l)=>EY P T [] (some (.sl sz l)) (ev y) F
   | _=>False
 | .call ⟨.builtin .len,⟨[x]⟩,⟨[T]⟩⟩=>match ev x with
   | some (.sl sz l)=>DP P T [] (some (.sl sz l)) F
   | some (.str s)=>DP P T [] (some (.str s)) F
   | some (.v (.slice none 0 0))=>DP P T [] (some (.v (.slice none 0 0))) F
   | _=>False
 | .call ⟨.value (.func f),⟨args⟩,_⟩=>match e7 ev args with
   | some l=>cond (J4 l) (KN P f (l ++ []) F) False
   | none=>False
 | .build T ⟨parts⟩=>match n7 ev parts with
   | some ps=>EU P T fun zs pl=>Al [] ps (S2 ((o4 pl zs ps).map AV.agg) F)
   | none=>False
 | .buildSlice T len ⟨parts⟩=>match n7 ev parts with
   | some ps=>Bd P T fun _ sz _ _=>cond (u7 0 ps && X4 sz (M7 ps) && Nat.beq ps.length len && Nat.blt 0 sz) (G1 (len * sz ≤ 16777216) (Al [] ps (HL (M7 ps) (F (.sl sz (M7 ps)))))) False
   | none=>False
 | .convert S T x=>S2 (ev x) fun a=>k7 P S T a F
 | .extract x k=>match ev x with
   | some (.tup l)=>S2 (l[k]?) F
   | _=>False
 | .slice T x lo hi none=>match ev x with
   | some (.str s)=>Ac P T (match Y9 ev 0 lo,Y9 ev s.length hi with
     | some l,some h=>G1 (0 ≤ l ∧ l ≤ h ∧ h ≤ s.length) (F (.str ((s.take h.toNat).drop l.toNat)))
     | _,_=>False)
   | _=>False
 | .unOp .not _ x=>match ev x with
   | some (.v (.bool b))=>F (.v (.bool (!b)))
   | _=>False
 | .index T x y=>match ev x,ev y with
   | some (.str s),some (.v (.int _ i))=>Ac P T (N5 s i fun b=>F (.v (.int .u8 b.toNat)))
   | _,_=>False
 | _=>False
theorem Vn {hp:Hp} {a:AV} (h:One [] a):One hp a:=by
 cases h with
 | row hl=>cases hl
 | v h=>exact .v h
 | str l=>exact .str l
 | sl s l=>exact .sl s l
 | iptr l=>exact .iptr l
 | ref i o=>exact .ref i o
 | mp i=>exact .mp i
 | fn f l=>exact .fn f l
 | fo f l=>exact .fo f l
theorem TB {hp:Hp} {a:AV} (h:Fits [] a):Fits hp a:=by
 cases a <;> first | exact trivial | exact Vn h
theorem Ef {hp:Hp}:∀ {ps:List (Nat × AV)},AZ [] ps → AZ hp ps
 | [],_=>trivial
 | (_,a) :: r,h=>⟨TB h.1,Ef h.2⟩
theorem Zs {P:Program} {op:Op} {ev:Operand → Option AV} {F:AV → Prop} (h:MV P op ev F):∃ av,(∀ (E:Env) (nx:Nat) (hp:Hp) (ty:TypeId),G5 P E nx hp ev op ty av) ∧ F av:=by
 unfold MV at h
 split at h
 ·obtain ⟨a,hx,h⟩:=I6 h;exact ⟨a,fun _ _ _ _=>Px hx,h⟩
 ·obtain ⟨a,hx,h⟩:=I6 h;exact ⟨a,fun _ _ _ _=>Ke hx,h⟩
 ·rename_i op T x y T2
  unfold Kx at h
  split at h
  ·rename_i hx hy;exact ⟨_,fun _ _ _ _=>Ut hx hy h.h,h.k⟩
  ·rename_i hx hy;exact ⟨_,fun _ _ _ _=>Uu hx hy h.h,h.k⟩
  ·rename_i hx hy
   obtain ⟨hk,hq⟩:=cond_false h
   clear h
   have hk:=of_decide_eq_true hk
   subst hk
   unfold Kv at hq
   split at hq
   ·exact ⟨_,fun _ _ _ _=>Ak hx hy (by simp only [u6,P6 hq.h]),hq.k⟩
   ·exact ⟨_,fun _ _ _ _=>Ak hx hy (by simp only [u6,P6 hq.h]),hq.k⟩
   ·exact ⟨_,fun _ _ _ _=>Ak hx hy (by simp only [u6,P6 hq.h]),hq.k⟩
   ·refine ⟨_,fun E nx hp ty=>?_,hq.k⟩
    have hq2:=KL (P:=P) (E:=E) (nx:=nx) (hp:=hp) (ty:=ty) (T:=T) (T2:=T2) hx hy hq.h.1
    rw [P6 hq.h.2] at hq2
    exact hq2
   ·exact ⟨_,fun _ _ _ _=>KL hx hy hq.h,hq.k⟩
   ·exact ⟨_,fun _ _ _ _=>Us hx hy hq.h,hq.k⟩
   ·split at hq
    ·rename_i hr;exact ⟨_,fun _ _ _ _=>Ak hx hy hr,hq⟩
    ·exact hq.elim
  ·rename_i s t hx hy
   unfold Sa at h
   split at h
   ·exact ⟨_,fun _ _ _ _=>Pz hx hy h.h,h.k⟩
   ·split at h
    ·rename_i hr;exact ⟨_,fun _ _ _ _=>Py hx hy hr,h⟩
    ·exact h.elim
  ·rename_i a b hx hy
   unfold Oh at h
   split at h
   ·have:=h.h;exact ⟨_,fun _ _ _ _=>KM (T:=T) false hx hy,h.k⟩
   ·have:=h.h;exact ⟨_,fun _ _ _ _=>KM (T:=T) true hx hy,h.k⟩
   ·exact h.elim
  ·rename_i l m hx hy
   unfold DO at h
   split at h
   ·obtain ⟨hk,hq⟩:=cond_false h
    obtain ⟨rfl,rfl⟩:=of_decide_eq_true hk
    have:=hq.h;exact ⟨_,fun _ _ _ _=>DE (T:=T) false hx hy,hq.k⟩
   ·obtain ⟨hk,hq⟩:=cond_false h
    obtain ⟨rfl,rfl⟩:=of_decide_eq_true hk
    have:=hq.h;exact ⟨_,fun _ _ _ _=>DE (T:=T) true hx hy,hq.k⟩
   ·obtain ⟨hk,hq⟩:=cond_false h
    obtain ⟨rfl,rfl,rfl⟩:=of_decide_eq_true hk
    have:=hq.h;exact ⟨_,fun _ _ _ _=>DG (T:=T) false hx hy,hq.k⟩
   ·obtain ⟨hk,hq⟩:=cond_false h
    obtain ⟨rfl,rfl,rfl⟩:=of_decide_eq_true hk
    have:=hq.h;exact ⟨_,fun _ _ _ _=>DG (T:=T) true hx hy,hq.k⟩
   ·obtain ⟨hk,hq⟩:=cond_false h
    obtain rfl:=of_decide_eq_true hk
    have:=hq.h;exact ⟨_,fun _ _ _ _=>Gx (T:=T) false hx hy,hq.k⟩
   ·obtain ⟨hk,hq⟩:=cond_false h
    obtain rfl:=of_decide_eq_true hk
    have:=hq.h;exact ⟨_,fun _ _ _ _=>Gx (T:=T) true hx hy,hq.k⟩
   ·exact h.elim
  ·exact h.elim
 ·rename_i T x
  split at h
  ·rename_i l hx
   unfold HN at h
   obtain ⟨⟨ag,sz,tv,h⟩⟩:=h
   cases ag with
   | true =>
     change cond (Nat.beq l.length sz) _ _ at h
     cases hc:Nat.beq l.length sz with
     | true =>
       rw [hc] at h
       exact ⟨_,fun _ _ _ _=>e6 (sz:=sz) hx (by rw [← Nat.eq_of_beq_eq_true hc,List.take_length]) (Nat.eq_of_beq_eq_true hc),h⟩
     | false =>
       rw [hc] at h
       exact ⟨_,fun _ _ _ _=>e6 (sz:=sz) hx rfl h.h,h.k⟩
   | false =>
     cases l with
     | nil=>exact h.elim
     | cons av r=>exact ⟨_,fun _ _ _ _=>Fj (sz:=sz) hx,h⟩
  ·exact h.elim
 ·split at h
  ·rename_i hx
   obtain ⟨⟨off,sz,tf,h⟩⟩:=h
   obtain ⟨hz,h⟩:=cond_false h
   exact ⟨_,fun _ _ _ _=>EJ (off:=off) (sz:=sz) hx hz,h⟩
  ·rename_i hx
   obtain ⟨⟨off,sz,tf,h⟩⟩:=h
   obtain ⟨hz,h⟩:=cond_false h
   exact ⟨_,fun _ _ _ _=>Fk (off:=off) (sz:=sz) hx hz,h⟩
  ·exact h.elim
 ·split at h
  ·rename_i hx
   unfold EY at h
   split at h
   ·rename_i heq hy
    cases heq
    obtain ⟨⟨e,sz',ts,h⟩⟩:=h
    obtain ⟨hz,hq⟩:=cond_false h
    clear h
    have:=Nat.eq_of_beq_eq_true hz
    subst this
    obtain ⟨h0,h1,hk⟩:=hq
    exact ⟨_,fun _ _ _ _=>Gt (e:=e) hx hy h0 (List.getElem?_eq_getElem (by omega)),hk _ (List.getElem?_eq_getElem (by omega))⟩
   ·rename_i heq _;cases heq
   ·rename_i heq _;cases heq
   ·exact h.elim
  ·exact h.elim
 ·split at h
  ·rename_i hx
   unfold DP at h
   obtain ⟨⟨e,sz,ts,h⟩⟩:=h
   exact ⟨_,fun _ _ _ _=>Kj (e:=e) (sz:=sz) hx,h.k⟩
  ·rename_i hx
   unfold DP at h
   obtain ⟨ts,h⟩:=h
   exact ⟨_,fun _ _ _ _=>JI hx,h⟩
  ·rename_i hx
   unfold DP at h
   obtain ⟨⟨e,sz,ts,h⟩⟩:=h
   exact ⟨_,fun _ _ _ _=>JJ (e:=e) (sz:=sz) hx,h⟩
  ·exact h.elim
 ·split at h
  ·rename_i l hl
   obtain ⟨hc,h⟩:=cond_false h
   obtain ⟨⟨r,hr,h⟩⟩:=h
   rw [List.append_nil] at hr
   exact ⟨_,fun _ _ _ _=>Kl hr hl hc,h⟩
  ·exact h.elim
 ·split at h
  ·rename_i ps hps
   obtain ⟨⟨zs,pl,tz,tp,h⟩⟩:=h
   obtain ⟨hf,h⟩:=W4 h
   obtain ⟨a,ha,h⟩:=I6 h
   rw [Option.map_eq_some_iff] at ha
   obtain ⟨l,hl,rfl⟩:=ha
   exact ⟨_,fun _ _ _ _=>NU (T:=_) hps (Ef hf) hl,h⟩
  ·exact h.elim
 ·split at h
  ·rename_i ps hps
   obtain ⟨⟨e,sz,bs,z,ts,tz,tb,hz,h⟩⟩:=h
   obtain ⟨hc,h⟩:=cond_false h
   simp only [Bool.and_eq_true,Nat.beq_eq,Nat.blt_eq] at hc
   obtain ⟨hs,h⟩:=h
   obtain ⟨hf,h⟩:=W4 h
   obtain ⟨hi,h⟩:=BF h
   exact ⟨_,fun _ _ _ _=>EQ (e:=e) (z:=z) hps (Ef hf) hc.1.1.1 hc.1.1.2 hc.1.2 hz hs hc.2 hi,h⟩
  ·exact h.elim
 ·obtain ⟨a,hx,h⟩:=I6 h
  obtain ⟨⟨r,hr,h⟩⟩:=h
  cases hr with
  | bytes l hl=>rename_i e sz _ _ _;exact ⟨_,fun _ _ _ _=>Fn (e:=e) (sz:=sz) hx hl,h⟩
  | back l=>rename_i e sz _ _ _;exact ⟨_,fun _ _ _ _=>Fo (e:=e) (sz:=sz) hx,h⟩
  | int m=>exact ⟨_,fun _ _ _ _=>Gv hx,h⟩
  | rune m=>exact ⟨_,fun _ _ _ _=>Fp hx,h⟩
 ·split at h
  ·rename_i hx
   obtain ⟨a,ha,h⟩:=I6 h
   exact ⟨_,fun _ _ _ _=>JM hx ha,h⟩
  ·exact h.elim
 ·split at h
  ·rename_i hx
   obtain ⟨ts,h⟩:=h
   split at h
   ·rename_i hl hh;exact ⟨_,fun _ _ _ _=>Fs hx hl hh h.h.1 h.h.2.1 h.h.2.2,h.k⟩
   ·exact h.elim
  ·exact h.elim
 ·split at h
  ·rename_i hx;exact ⟨_,fun _ _ _ _=>Uv hx,h⟩
  ·exact h.elim
 ·split at h
  ·rename_i s k i hx hy
   obtain ⟨ts,h0,h1,hk⟩:=h
   have hlt:i.toNat < s.length:=by omega
   have hel:s[i.toNat]? = some s[i.toNat]:=List.getElem?_eq_getElem hlt
   exact ⟨_,fun _ _ _ _=>Fm hx hy h0 hel,hk _ hel⟩
  ·exact h.elim
 ·exact h.elim
structure MB where
 i:Nat
 d:Nat
 av:AV
 rd:List (Nat × AV)
def Zt (P:Program) (ops:Array Oper) (m:MB):Prop:=∃ op ty pos after,ops[m.i]? = some ⟨some m.d,op,ty,pos,after,none⟩ ∧ ∀ (E:Env) (nx:Nat) (hp:Hp) (ty:TypeId),G5 P E nx hp (F1 ⟨m.rd,0,[]⟩) op ty m.av
def CB (ops:Array Oper) (i:Nat):List Nat:=(c6 ops).getD i []
def L2:List MB → List (Nat × AV)
 | []=>[]
 | ⟨_,d,av,_⟩ :: r=>(d,av) :: L2 r
def S6 (l:List Bool) (mb:List MB):List MB:=mb.filter fun m=>l.getD m.i false
def aj (ops:Array Oper) (mb:List MB) (sl:List (Nat × AV)):Prop:=∀ m ∈ mb,∀ p ∈ m.rd,look sl p.1 = some p.2 ∨ ∃ m' ∈ mb,m'.d = p.1 ∧ m'.av = p.2 ∧ m'.i ∈ CB ops m.i
def Ae (n:Nat) (sl:List (Nat × AV)):List MB → Bool
 | []=>true
 | m :: r=>Nat.blt m.d n && (look sl m.d).isNone && (r.all fun u=>!(Nat.beq u.d m.d) && !(Nat.beq u.i m.i)) && Ae n sl r
theorem CC {n:Nat} {sl:List (Nat × AV)}:∀ {mb:List MB},Ae n sl mb = true → (∀ m ∈ mb,m.d < n ∧ look sl m.d = none) ∧ (∀ m ∈ mb,∀ m' ∈ mb,m.d = m'.d → m = m') ∧ ∀ m ∈ mb,∀ m' ∈ mb,m.i = m'.i → m = m'
 | [],_=>⟨(fun m hm=>by cases hm),(fun m hm=>by cases hm),fun m hm=>by cases hm⟩
 | a :: r,h=>by
   simp only [Ae,Bool.and_eq_true,List.all_eq_true,Bool.not_eq_true',Nat.blt_eq,Option.isNone_iff_eq_none] at h
   obtain ⟨⟨⟨h1,h2⟩,h3⟩,h4⟩:=h
   obtain ⟨i1,i2,i3⟩:=CC h4
   have beqD:∀ u ∈ r,u.d ≠ a.d ∧ u.i ≠ a.i:=fun u hu=>by
    have h5:=h3 u hu
    refine ⟨fun e=>?_,fun e=>?_⟩
    ·have:=h5.1;rw [e] at this;simp at this
    ·have:=h5.2;rw [e] at this;simp at this
   refine ⟨fun m hm=>?_,fun m hm m' hm' e=>?_,fun m hm m' hm' e=>?_⟩
   ·rcases List.mem_cons.1 hm with rfl | hm
    ·exact ⟨h1,h2⟩
    ·exact i1 m hm
   ·rcases List.mem_cons.1 hm with h5 | h5 <;> rcases List.mem_cons.1 hm' with h6 | h6
    ·rw [h5,h6]
    ·subst h5;exact absurd e.symm (beqD _ h6).1
    ·subst h6;exact absurd e (beqD _ h5).1
    ·exact i2 m h5 m' h6 e
   ·rcases List.mem_cons.1 hm with h5 | h5 <;> rcases List.mem_cons.1 hm' with h6 | h6
    ·rw [h5,h6]
    ·subst h5;exact absurd e.symm (beqD _ h6).2
    ·subst h6;exact absurd e (beqD _ h5).2
    ·exact i3 m h5 m' h6 e
theorem O4 (l m:List (Nat × AV)) (s:Nat):look (l ++ m) s = match look l s with
  | some x=>some x
  | none=>look m s:=by
 induction l with
 | nil=>rfl
 | cons a r ih =>
   obtain ⟨k,x⟩:=a
   simp only [List.cons_append,F7]
   by_cases e:k = s
   ·simp [e]
   ·simp [e,ih]
theorem Cm {T:List MB} {s:Nat} (h:∀ m ∈ T,m.d ≠ s):look (L2 T) s = none:=by
 induction T with
 | nil=>rfl
 | cons a r ih =>
   obtain ⟨ai,ad,aav,ard⟩:=a
   have h0:ad ≠ s:=h ⟨ai,ad,aav,ard⟩ (by simp)
   simp only [L2,F7]
   rw [if_neg h0,ih fun m hm=>h m (by simp [hm])]
theorem An {T:List MB} {m:MB} (hu:∀ m ∈ T,∀ m' ∈ T,m.d = m'.d → m = m') (hm:m ∈ T):look (L2 T) m.d = some m.av:=by
 induction T with
 | nil=>cases hm
 | cons a r ih =>
   obtain ⟨ai,ad,aav,ard⟩:=a
   simp only [L2,F7]
   by_cases e:ad = m.d
   ·rw [if_pos e, ← hu ⟨ai,ad,aav,ard⟩ (by simp) m hm e]
   ·rw [if_neg e]
    rcases List.mem_cons.1 hm with rfl | hm
    ·exact absurd rfl e
    ·exact ih (fun x hx y hy=>hu x (by simp [hx]) y (by simp [hy])) hm
theorem X8 {T:List MB} {s:Nat} {x:AV} (h:look (L2 T) s = some x):∃ m ∈ T,m.d = s ∧ m.av = x:=by
 induction T with
 | nil=>cases h
 | cons a r ih =>
   obtain ⟨ai,ad,aav,ard⟩:=a
   simp only [L2,F7] at h
   by_cases e:ad = s
   ·rw [if_pos e] at h;cases h;exact ⟨⟨ai,ad,_,ard⟩,by simp,e,rfl⟩
   ·rw [if_neg e] at h
    obtain ⟨m,hm,h1,h2⟩:=ih h
    exact ⟨m,by simp [hm],h1,h2⟩
theorem DY {E:Env} {n nx:Nat} {hp:Hp} {sl sl':List (Nat × AV)} {a:Act} {w:World} (e:∀ s x,look sl' s = some x → look sl s = some x) (h:d9 E n ⟨sl,nx,hp⟩ a w):d9 E n ⟨sl',nx,hp⟩ a w:=by
 obtain ⟨θ,h⟩:=h
 exact ⟨θ,h.size,h.defers,h.fr,fun s x hs=>h.slots s x (e s x hs),h.owns,h.apart,h.mine,h.X,h.base⟩
def D7 (P:Program) (E:Env) (n:Nat) (ops:Array Oper) (done:List Bool) (mb:List MB) (σ:St) (K:St → Prop):Prop :=
 (∀ m ∈ mb,Zt P ops m) → aj ops mb σ.sl → Ae n σ.sl mb = true →
 ∀ (fuel:Nat) (l:List Bool) (a:Act) (w:World),l.length = ops.size → (∀ i,done.getD i false = true → l.getD i false = true) → (∀ i,l.getD i false = true → done.getD i false = true ∨ ∃ m ∈ mb,m.i = i) → l.count false ≤ fuel →
  d9 E n ⟨L2 (S6 l mb) ++ σ.sl,σ.nx,σ.hp⟩ a w → wpAny P .any ops (fun e a' w'=>e = .normal ∧ ∃ σ',K σ' ∧ d9 E n σ' a' w') fuel l.toArray a w
def X9 (ops:Array Oper) (mb:List MB) (i:Nat):List MB:=mb.filter fun m=>(CB ops i).contains m.i
def V5 (ops:Array Oper) (mb:List MB) (i:Nat):List MB:=mb.filter fun m=>!((CB ops i).contains m.i)
def Eg (ops:Array Oper) (done:List Bool) (mb:List MB) (i:Nat):List Bool:=(X9 ops mb i).foldl (fun l m=>l.set m.i true) (done.set i true)
def c8:List MB → List Nat
 | []=>[]
 | m :: r=>m.rd.map (·.1) ++ c8 r
structure HW (P:Program) (E:Env) (n:Nat) (ops:Array Oper) (done:List Bool) (mb:List MB) (K:St → Prop) (base:List (Nat × AV)) (k:Nat) (ex:List (Nat × AV)) (σ':St):Prop where
 sl:σ'.sl = σ'.sl.take k ++ ex
 rd:(c8 mb).map (look (σ'.sl.take k)) = (c8 mb).map (look base)
 chk:Ae n (σ'.sl.take k) mb = true
 go:D7 P E n ops done mb ⟨σ'.sl.take k,σ'.nx,σ'.hp⟩ K
def HX (P:Program) (E:Env) (n:Nat) (ops:Array Oper) (done:List Bool) (mb:List MB) (σ:St) (K:St → Prop) (i:Nat):Prop :=
 match ops[i]? with
 | some o=>∀ ex:List (Nat × AV),B8 P E n ops [o] ⟨L2 (X9 ops mb i) ++ (σ.sl ++ ex),σ.nx,σ.hp⟩ fun σ'=>HW P E n ops (Eg ops done mb i) (V5 ops mb i) K (L2 (X9 ops mb i) ++ σ.sl) (match o.dst,o.guard with
   | some _,some _=>(X9 ops mb i).length + σ.sl.length + 2
   | some _,none=>(X9 ops mb i).length + σ.sl.length + 1
   | none,_=>(X9 ops mb i).length + σ.sl.length) ex σ'
 | none=>False
def Ou (P:Program) (E:Env) (n:Nat) (ops:Array Oper) (done:List Bool) (mb:List MB) (σ:St) (K:St → Prop):List Nat → Prop
 | []=>True
 | i :: r=>HX P E n ops done mb σ K i ∧ Ou P E n ops done mb σ K r
theorem LL {P:Program} {E:Env} {n:Nat} {ops:Array Oper} {done:List Bool} {mb:List MB} {σ:St} {K:St → Prop}:∀ {r:List Nat},Ou P E n ops done mb σ K r → ∀ i ∈ r,HX P E n ops done mb σ K i
 | [],_,i,hi=>by cases hi
 | j :: r,h,i,hi=>by
   rcases List.mem_cons.1 hi with rfl | hi
   ·exact h.1
   ·exact LL h.2 i hi
def DZ (ops:Array Oper) (done:List Bool) (mb:List MB):List Nat :=
 (List.range ops.size).filter fun i=>!(done.getD i false) && !(mb.any fun m=>Nat.beq m.i i) && (CB ops i).all fun j=>done.getD j false || mb.any fun m=>Nat.beq m.i j
def Cn (ops:Array Oper):Bool:=(List.range ops.size).all fun i=>(CB ops i).all fun j=>Nat.blt j i
def KQ (ops:Array Oper) (done:List Bool) (mb:List MB):Bool:=(List.range ops.size).all fun i=>done.getD i false || mb.any fun m=>Nat.beq m.i i
theorem Da (l:List Bool) (i j:Nat):(l.set i true).getD j false = if i = j ∧ i < l.length then true else l.getD j false:=by
 simp only [List.getD_eq_getElem?_getD,List.getElem?_set]
 by_cases e:i = j
 ·subst e
  by_cases h:i < l.length
  ·simp [h]
  ·simp [h]
 ·simp [e]
theorem JV:∀ (l:List Bool) (i:Nat),l[i]? = some false → (l.set i true).count false + 1 = l.count false
 | [],i,h=>by simp at h
 | b :: r,0,h=>by simp at h;subst h;simp
 | b :: r,i + 1,h=>by
   have:=JV r i (by simpa using h)
   rw [List.set_cons_succ,List.count_cons,List.count_cons]
   omega
theorem Co:∀ (T:List MB) (l:List Bool) (j:Nat),(∀ m ∈ T,m.i < l.length) → ((T.foldl (fun l m=>l.set m.i true) l).getD j false = true ↔ l.getD j false = true ∨ ∃ m ∈ T,m.i = j)
 | [],l,j,_=>by simp
 | m :: r,l,j,h=>by
   rw [List.foldl_cons,Co r _ j (fun x hx=>by rw [List.length_set];exact h x (by simp [hx])),Da]
   have hm:=h m (by simp)
   by_cases e:m.i = j
   ·subst e
    constructor
    ·intro _;exact .inr ⟨m,by simp,rfl⟩
    ·intro _;left;rw [if_pos ⟨rfl,hm⟩]
   ·rw [if_neg (fun h=>e h.1)]
    constructor
    ·rintro (h1 | ⟨x,hx,e2⟩)
     ·exact .inl h1
     ·exact .inr ⟨x,by simp [hx],e2⟩
    ·rintro (h1 | ⟨x,hx,e2⟩)
     ·exact .inl h1
     ·rcases List.mem_cons.1 hx with rfl | hx
      ·exact absurd e2 e
      ·exact .inr ⟨x,hx,e2⟩
theorem Nd {ops:Array Oper} {i:Nat} (h:i < ops.size):(c6 ops)[i]? = some (CB ops i):=by
 have hl:i < (c6 ops).length:=by simp [c6];exact h
 rw [CB,List.getD_eq_getElem?_getD,List.getElem?_eq_getElem hl];rfl
theorem FT {P:Program} {E:Env} {n:Nat} {ops:Array Oper} {done:List Bool} {mb:List MB} {σ:St} {K:St → Prop} (hlen:Nat.beq done.length ops.size = true) (hback:Cn ops = true)
  (hend:KQ ops done mb = true → K ⟨L2 mb ++ σ.sl,σ.nx,σ.hp⟩) (hall:Ou P E n ops done mb σ K (DZ ops done mb)):D7 P E n ops done mb σ K:=by
 have hlen:=Nat.eq_of_beq_eq_true hlen
 intro hok hrd hchk
 obtain ⟨hc1,hc2,hc3⟩:=CC hchk
 have hmi:∀ m ∈ mb,m.i < ops.size:=fun m hm=>by
  obtain ⟨op,ty,pos,after,h,_⟩:=hok m hm
  exact (Array.getElem?_eq_some_iff.1 h).1
 have hsub:∀ l,∀ m ∈ S6 l mb,m ∈ mb ∧ l.getD m.i false = true:=fun l m hm=>by
  unfold S6 at hm
  exact List.mem_filter.1 hm
 have hin:∀ l,∀ m ∈ mb,l.getD m.i false = true → m ∈ S6 l mb:=fun l m hm h=>List.mem_filter.2 ⟨hm,h⟩
 have hu:∀ l,∀ m ∈ S6 l mb,∀ m' ∈ S6 l mb,m.d = m'.d → m = m':=fun l m hm m' hm'=>hc2 m (hsub l m hm).1 m' (hsub l m' hm').1
 -- a slot of the state is none of those that may be filled
 have hnone:∀ l s x,look σ.sl s = some x → look (L2 (S6 l mb)) s = none:=fun l s x hs=>Cm fun m hm e=>by
  have:=(hc1 m (hsub l m hm).1).2
  rw [e,hs] at this
  cases this
 have fin:∀ (l:List Bool) (a:Act) (w:World),(∀ i,i < ops.size → l.getD i false = true) → (∀ i,l.getD i false = true → done.getD i false = true ∨ ∃ m ∈ mb,m.i = i) → d9 E n ⟨L2 (S6 l mb) ++ σ.sl,σ.nx,σ.hp⟩ a w → (Exit.normal = Exit.normal ∧ ∃ σ',K σ' ∧ d9 E n σ' a w):=by
  intro l a w hl h2 hs
  refine ⟨rfl,_,hend ?_,DY (fun s x h=>?_) hs⟩
  ·unfold KQ
   rw [List.all_eq_true]
   intro i hi
   rcases h2 i (hl i (List.mem_range.1 hi)) with h | ⟨m,hm,e⟩
   ·rw [h];rfl
   ·have:(mb.any fun m=>Nat.beq m.i i) = true:=List.any_eq_true.2 ⟨m,hm,by simp [e]⟩
    rw [this];simp
  ·have:S6 l mb = mb:=List.filter_eq_self.2 fun m hm=>hl _ (hmi m hm)
   rw [this];exact h
 have allTrue:∀ (l:List Bool),l.length = ops.size → Region.ready .any ops l.toArray = [] → ∀ i,i < ops.size → l.getD i false = true:=by
  intro l hl hr i
  induction i using Nat.strongRecOn with
  | _ i ih =>
    intro hi
    cases hx:l.getD i false with
    | true=>rfl
    | false =>
      exfalso
      have hmem:i ∈ X7 l 0 (c6 ops) l:=by
       rw [w3]
       refine ⟨i,CB ops i,by omega,Nd hi,?_,fun x hxe=>?_⟩
       ·rw [List.getD_eq_getElem?_getD] at hx
        have h1:l[i]? = some (l[i]'(by omega)):=List.getElem?_eq_getElem (by omega)
        rw [h1] at hx ⊢
        simpa using hx
       ·unfold Cn at hback
        have h1:=List.all_eq_true.1 hback i (List.mem_range.2 hi)
        have h2:=List.all_eq_true.1 h1 x hxe
        have h3:x < i:=by simpa using h2
        exact ih x h3 (by omega)
      have:=(g8 hl i).2 hmem
      rw [hr] at this
      cases this
 intro fuel
 induction fuel with
 | zero =>
   intro l a w hl h1 h2 hcnt hs
   have h0:∀ i,i < ops.size → l.getD i false = true:=by
    intro i hi
    have hli:l[i]? = some (l[i]'(by omega)):=List.getElem?_eq_getElem (by omega)
    rw [List.getD_eq_getElem?_getD,hli]
    cases hb:l[i]'(by omega) with
    | true=>rfl
    | false =>
      have:0 < l.count false:=List.count_pos_iff.2 (hb ▸ List.getElem_mem _)
      omega
   refine ⟨?_,fin l a w h0 h2 hs⟩
   cases hx:Region.ready .any ops l.toArray with
   | nil=>rfl
   | cons i r =>
     have:=(g8 hl i).1 (by rw [hx];simp)
     rw [w3] at this
     obtain ⟨j,e,e1,_,e2,_⟩:=this
     have hj:j < ops.size:=by rw [← hl];exact (List.getElem?_eq_some_iff.1 e2).1
     have:=h0 j hj
     rw [List.getD_eq_getElem?_getD,e2] at this
     cases this
 | succ fuel ih =>
   intro l a w hl h1 h2 hcnt hs
   refine ⟨fun hr=>fin l a w (allTrue l hl hr) h2 hs,fun i hi=>?_⟩
   have hi':=(g8 hl i).1 hi
   rw [w3] at hi'
   obtain ⟨i',e,ei,he,hf,hed⟩:=hi'
   obtain rfl:i = i':=by omega
   have his:i < ops.size:=by rw [← hl];exact (List.getElem?_eq_some_iff.1 hf).1
   rw [Nd his] at he
   cases he
   have hlf:l.getD i false = false:=by rw [List.getD_eq_getElem?_getD,hf];rfl
   have hl':(l.set i true).length = ops.size:=by rw [List.length_set];exact hl
   have hcnt':(l.set i true).count false ≤ fuel:=by have:=JV l i hf;omega
   have hset:∀ j,(l.set i true).getD j false = true ↔ j = i ∨ l.getD j false = true:=by
    intro j
    rw [Da]
    by_cases e:i = j
    ·subst e;simp;omega
    ·simp [e,Ne.symm e]
   by_cases hm:∃ m ∈ mb,m.i = i
   ·obtain ⟨m,hm,hmi2⟩:=hm
    subst hmi2
    obtain ⟨op,ty,pos,after,ho,hq⟩:=hok m hm
    unfold wpOp
    simp only [ho]
    rw [if_pos (by simp [Region.wanted])]
    left
    obtain ⟨θ,hs⟩:=hs
    have hev:Y8 E θ σ.nx σ.hp (F1 ⟨m.rd,0,[]⟩) a w:=by
     have h0:=hs.evT
     refine ⟨h0.fr,h0.owns,h0.X,fun {x av} hx=>h0.rel (x:=x) ?_,h0.apart,h0.fresh,h0.tab⟩
     cases x with
     | tmp t =>
       have hx':look m.rd t = some av:=hx
       show look (L2 (S6 l mb) ++ σ.sl) t = some av
       have hmem:∀ (rd:List (Nat × AV)),look rd t = some av → (t,av) ∈ rd:=by
        intro rd
        induction rd with
        | nil=>intro h;cases h
        | cons p r ih =>
          obtain ⟨k,x⟩:=p
          intro h
          rw [F7] at h
          by_cases e:k = t
          ·subst e;rw [if_pos rfl] at h;cases h;simp
          ·rw [if_neg e] at h;exact List.mem_cons_of_mem _ (ih h)
       rw [O4]
       rcases hrd m hm (t,av) (hmem _ hx') with h | ⟨m',hm',e1,e2,e3⟩
       ·rw [hnone l t av h];exact h
       ·have h4:m' ∈ S6 l mb:=hin l m' hm' (hed _ e3)
        have h5:=An (hu l) h4
        have e1:m'.d = t:=e1
        have e2:m'.av = av:=e2
        rw [e1,e2] at h5
        rw [h5]
     | const c=>exact hx
     | global g=>exact hx
     | func f=>exact hx
    refine Kd (hq E σ.nx σ.hp ty (some m.d) pos after θ a w (fun v w'=>Below w.heap.size w w' ∧ F0 (kx E θ σ.nx σ.hp w') m.av v) hev fun v w' hb hr=>⟨hb,hr⟩) fun v w' hvw=>?_
    rw [c7]
    refine ih (l.set m.i true) _ w' hl' (fun j hj=>(hset j).2 (.inr (h1 j hj))) (fun j hj=>?_) hcnt' ?_
    ·rcases (hset j).1 hj with e | e
     ·exact .inr ⟨m,hm,e.symm⟩
     ·exact h2 j e
    ·have hput:=(hs.below hvw.1).put (d:=m.d) (hc1 m hm).1 (x:=m.av) (v:=v) hvw.2
     refine DY (sl:=(m.d,m.av) :: (L2 (S6 l mb) ++ σ.sl)) (fun s x h=>?_) ⟨θ,hput⟩
     rw [O4] at h
     rw [F7,O4]
     cases hx:look (L2 (S6 (l.set m.i true) mb)) s with
     | some y =>
       rw [hx] at h
       cases h
       obtain ⟨m',hm',e1,e2⟩:=X8 hx
       obtain ⟨h3,h4⟩:=hsub _ m' hm'
       by_cases e:m.d = s
       ·rw [if_pos e,hc2 m hm m' h3 (by rw [e,e1]),e2]
       ·rw [if_neg e]
        have h5:l.getD m'.i false = true:=by
         rcases (hset _).1 h4 with h6 | h6
         ·have:=hc3 m' h3 m hm h6
          subst this
          exact absurd e1 e
         ·exact h6
        have:=An (hu l) (hin l m' h3 h5)
        rw [e1,e2] at this
        rw [this]
     | none =>
       rw [hx] at h
       have h':look σ.sl s = some x:=h
       have hne:m.d ≠ s:=fun e=>by have:=(hc1 m hm).2;rw [e,h'] at this;cases this
       rw [if_neg hne,hnone l s x h']
       exact h'
   ·have hnm:∀ m ∈ mb,m.i ≠ i:=fun m hm' e=>hm ⟨m,hm',e⟩
    have hnd:done.getD i false = false:=by
     cases hx:done.getD i false with
     | false=>rfl
     | true=>rw [h1 i hx] at hlf;cases hlf
    have hanyF:(mb.any fun m=>Nat.beq m.i i) = false:=by
     rw [List.any_eq_false]
     intro m hm' h
     exact hnm m hm' (Nat.eq_of_beq_eq_true h)
    have hrdy:i ∈ DZ ops done mb:=by
     unfold DZ
     rw [List.mem_filter]
     refine ⟨List.mem_range.2 his,?_⟩
     rw [hnd,hanyF]
     simp only [Bool.not_false,Bool.true_and,List.all_eq_true]
     intro j hj
     rcases h2 j (hed j hj) with h | ⟨m,hm',e⟩
     ·rw [h];rfl
     ·have:(mb.any fun m=>Nat.beq m.i j) = true:=List.any_eq_true.2 ⟨m,hm',by simp [e]⟩
      rw [this];simp
    have hnext:=LL hall i hrdy
    unfold HX at hnext
    split at hnext
    ·rename_i o ho
     have hte:∀ m,m ∈ X9 ops mb i ↔ m ∈ mb ∧ m.i ∈ CB ops i:=fun m=>by simp [X9,List.mem_filter]
     have hre:∀ m,m ∈ V5 ops mb i ↔ m ∈ mb ∧ m.i ∉ CB ops i:=fun m=>by simp [V5,List.mem_filter]
     have hs1:d9 E n ⟨L2 (X9 ops mb i) ++ (σ.sl ++ L2 (S6 l (V5 ops mb i))),σ.nx,σ.hp⟩ a w:=by
      refine DY (fun s x h=>?_) hs
      rw [O4] at h ⊢
      cases hx:look (L2 (X9 ops mb i)) s with
      | some y =>
        rw [hx] at h
        cases h
        obtain ⟨m,hm',e1,e2⟩:=X8 hx
        obtain ⟨h3,h4⟩:=(hte m).1 hm'
        have:=An (hu l) (hin l m h3 (hed _ h4))
        rw [e1,e2] at this
        rw [this]
      | none =>
        rw [hx] at h
        have h:look (σ.sl ++ L2 (S6 l (V5 ops mb i))) s = some x:=h
        rw [O4] at h
        cases hy:look σ.sl s with
        | some y =>
          rw [hy] at h
          cases h
          rw [hnone l s _ hy]
        | none =>
          rw [hy] at h
          have h:look (L2 (S6 l (V5 ops mb i))) s = some x:=h
          obtain ⟨m,hm',e1,e2⟩:=X8 h
          obtain ⟨h3,h4⟩:=List.mem_filter.1 hm'
          have:=An (hu l) (hin l m ((hre m).1 h3).1 h4)
          rw [e1,e2] at this
          rw [this]
     have hw:=hnext (L2 (S6 l (V5 ops mb i))) a w hs1
     have last:∀ (kk:Nat) σ' a' w',HW P E n ops (Eg ops done mb i) (V5 ops mb i) K (L2 (X9 ops mb i) ++ σ.sl) kk (L2 (S6 l (V5 ops mb i))) σ' → d9 E n σ' a' w' → wpAny P .any ops (fun e a' w'=>e = .normal ∧ ∃ σ',K σ' ∧ d9 E n σ' a' w') fuel (l.set i true).toArray a' w':=by
      intro kk σ' a' w' hp hs'
      have hdl:∀ j,(Eg ops done mb i).getD j false = true ↔ (done.getD j false = true ∨ j = i) ∨ ∃ m ∈ X9 ops mb i,m.i = j:=by
       intro j
       unfold Eg
       rw [Co _ _ _ (fun m hm'=>by rw [List.length_set,hlen];exact hmi m ((hte m).1 hm').1),Da]
       by_cases e:i = j
       ·subst e;simp;left;omega
       ·simp [e,Ne.symm e]
      have hbase:∀ m ∈ X9 ops mb i,look (L2 (X9 ops mb i) ++ σ.sl) m.d = some m.av:=fun m hm'=>by
       rw [O4,An (fun m h m' h'=>hc2 m ((hte m).1 h).1 m' ((hte m').1 h').1) hm']
      refine hp.go (fun m hm'=>hok m ((hre m).1 hm').1) (fun m hm' p hpm=>?_) hp.chk fuel (l.set i true) a' w' hl' (fun j hj=>?_) (fun j hj=>?_) hcnt' ?_
      ·have hkeep:look (σ'.sl.take kk) p.1 = look (L2 (X9 ops mb i) ++ σ.sl) p.1:=by
        have hmem:p.1 ∈ c8 (V5 ops mb i):=by
         have:∀ (L:List MB),m ∈ L → p.1 ∈ c8 L:=by
          intro L
          induction L with
          | nil=>intro h;cases h
          | cons a r ih =>
            intro h
            simp only [c8,List.mem_append,List.mem_map]
            rcases List.mem_cons.1 h with rfl | h
            ·exact .inl ⟨p,hpm,rfl⟩
            ·exact .inr (ih h)
         exact this _ hm'
        obtain ⟨t,ht,et⟩:=List.getElem_of_mem hmem
        have h3:=congrArg (fun L:List (Option AV)=>L[t]?) hp.rd
        simp only [List.getElem?_map,List.getElem?_eq_getElem ht,Option.map_some,Option.some.injEq,et] at h3
        exact h3
       rcases hrd m ((hre m).1 hm').1 p hpm with h | ⟨m',hm'',e1,e2,e3⟩
       ·left
        rw [hkeep,O4,Cm (fun u hu' e=>by
         have:=(hc1 u ((hte u).1 hu').1).2
         rw [e,h] at this
         cases this)]
        exact h
       ·by_cases hmt:m'.i ∈ CB ops i
        ·left
         rw [hkeep, ← e1,hbase m' ((hte m').2 ⟨hm'',hmt⟩),e2]
        ·exact .inr ⟨m',(hre m').2 ⟨hm'',hmt⟩,e1,e2,e3⟩
      ·rw [hset]
       rcases (hdl j).1 hj with (h | h) | ⟨m,hm',e⟩
       ·exact .inr (h1 j h)
       ·exact .inl h
       ·exact .inr (e ▸ hed _ ((hte m).1 hm').2)
      ·rw [hdl]
       rcases (hset j).1 hj with h | h
       ·exact .inl (.inl (.inr h))
       ·rcases h2 j h with h | ⟨m,hm',e⟩
        ·exact .inl (.inl (.inl h))
        ·by_cases hmt:m.i ∈ CB ops i
         ·exact .inl (.inr ⟨m,(hte m).2 ⟨hm',hmt⟩,e⟩)
         ·exact .inr ⟨m,(hre m).2 ⟨hm',hmt⟩,e⟩
      ·have hsl:=hp.sl
       obtain ⟨c1,c2,c3⟩:=CC hp.chk
       have:S6 (l.set i true) (V5 ops mb i) = S6 l (V5 ops mb i):=by
        unfold S6
        refine List.filter_congr fun m hm'=>?_
        rw [Da,if_neg (fun h=>hnm m ((hre m).1 hm').1 h.1.symm)]
       rw [this]
       refine DY (sl:=σ'.sl) (fun s x h=>?_) hs'
       rw [O4] at h
       rw [hsl,O4]
       cases hx:look (L2 (S6 l (V5 ops mb i))) s with
       | some y =>
         rw [hx] at h
         cases h
         obtain ⟨m,hm',e1,e2⟩:=X8 hx
         have h3:=(c1 m (List.mem_filter.1 hm').1).2
         rw [e1] at h3
         rw [h3]
       | none =>
         rw [hx] at h
         have h:look (σ'.sl.take kk) s = some x:=h
         rw [h]
     unfold wpOp
     simp only [ho]
     unfold wpList at hw
     split
     ·rename_i hwant
      rw [if_pos hwant] at hw
      rcases hw with hw | ⟨_,a1,w1,hx⟩
      ·refine .inl (GT (fun e a w h=>h.1) (fun a' w' hn=>?_) hw)
       obtain ⟨_,σ',hk,hs'⟩:=hn
       rw [c7]
       exact last _ σ' a' w' hk hs'
      ·exact absurd hx.1 (by simp)
     ·rename_i hwant
      rw [if_neg hwant] at hw
      obtain ⟨_,σ',hk,hs'⟩:=hw
      rw [c7]
      exact last _ σ' _ _ hk hs'
    ·exact hnext.elim
def KR:List MB → (List MB → Prop) → Prop
 | [],F=>F []
 | ⟨i,d,av,rd⟩ :: r,F=>v8 rd fun rd2=>KR r fun s=>F (⟨i,d,av,rd2⟩ :: s)
theorem HY:∀ {l:List MB} {F:List MB → Prop},KR l F → F l
 | [],F,h=>h
 | ⟨i,d,av,rd⟩ :: r,F,h=>HY (l:=r) (F:=fun s=>F (⟨i,d,av,rd⟩ :: s)) (V3 h)
def GU (op:Op) (sl:List (Nat × AV)):List (Nat × AV):=op.operands.toList.filterMap fun x=>match x with
 | .tmp t=>(look sl t).map fun a=>(t,a)
 | _=>none
def Nf (ops:Array Oper) (mb:List MB) (i:Nat) (op:Op):Bool:=op.operands.toList.all fun x=>match x with
 | .tmp t=>mb.all fun m=>!(Nat.beq m.d t) || (CB ops i).contains m.i
 | _=>true
def g9 (ev:Operand → Option AV) (x:Operand):Bool:=match ev x with
 | some a=>K2 a
 | none=>false
def ak (op:Op) (ev:Operand → Option AV):Bool :=
 match op with
 | .move x=>(ev x).isSome
 | .assign x=>(ev x).isSome
 | .binOp _ _ x y _=>g9 ev x && g9 ev y
 | .load _ x=>match ev x with
   | some (.iptr _)=>true
   | _=>false
 | .fieldAddr _ x _=>match ev x with
   | some (.iptr _)=>true
   | some (.ref _ _)=>true
   | _=>false
 | .indexAddr _ x y=>(match ev x with
   | some (.sl _ _)=>true
   | _=>false) && g9 ev y
 | .call ⟨.builtin .len,⟨[x]⟩,⟨[_]⟩⟩=>match ev x with
   | some (.sl _ _)=>true
   | some (.str _)=>true
   | some (.v (.slice none 0 0))=>true
   | _=>false
 | .call ⟨.value (.func f),⟨args⟩,_⟩=>match e7 ev args with
   | some l=>J4 l
   | none=>false
 | .build _ ⟨parts⟩=>match n7 ev parts with
   | some ps=>ps.all fun p=>K2 p.2
   | none=>false
 | .buildSlice _ _ ⟨parts⟩=>match n7 ev parts with
   | some ps=>ps.all fun p=>K2 p.2
   | none=>false
 | .convert _ _ x=>g9 ev x
 | .extract x k=>match ev x with
   | some (.tup l)=>(l[k]?).isSome
   | _=>false
 | .slice _ x lo hi none=>(match ev x with
   | some (.str _)=>true
   | _=>false) && (match lo with
   | some o=>g9 ev o
   | none=>true) && (match hi with
   | some o=>g9 ev o
   | none=>true)
 | .unOp .not _ x=>match ev x with
   | some (.v (.bool _))=>true
   | _=>false
 | .index _ x y=>(match ev x with
   | some (.str _)=>true
   | _=>false) && g9 ev y
 | _=>false
def KS (ops:Array Oper) (n:Nat) (done:List Bool) (mb:List MB) (sl:List (Nat × AV)) (i:Nat):Bool :=
 !(done.getD i false) && !(mb.any fun m=>Nat.beq m.i i) && ((CB ops i).all fun j=>done.getD j false || mb.any fun m=>Nat.beq m.i j) && match ops[i]? with
  | some ⟨some d,op,_,_,_,none⟩=>ak op (F1 ⟨L2 mb ++ sl,0,[]⟩) && Ae n sl (⟨i,d, .any,[]⟩ :: mb) && Nf ops mb i op
  | _=>false
theorem TC {op:Op} {sl:List (Nat × AV)} {p:Nat × AV} (h:p ∈ GU op sl):look sl p.1 = some p.2 ∧ Operand.tmp p.1 ∈ op.operands.toList:=by
 unfold GU at h
 rw [List.mem_filterMap] at h
 obtain ⟨x,hx,h⟩:=h
 split at h
 ·rw [Option.map_eq_some_iff] at h
  obtain ⟨a,ha,rfl⟩:=h
  exact ⟨ha,hx⟩
 ·cases h
theorem LM {P:Program} {E:Env} {n:Nat} {ops:Array Oper} {done:List Bool} {mb:List MB} {σ:St} {K:St → Prop} {i d:Nat} {op:Op} {ty:TypeId} {pos:String} {after:Array Edge} (hop:ops[i]? = some ⟨some d,op,ty,pos,after,none⟩)
  (hed:Nf ops mb i op = true) (hnew:Ae n σ.sl (⟨i,d, .any,[]⟩ :: mb) = true) (hnd:done.getD i false = false)
  (h:MV P op (F1 ⟨GU op (L2 mb ++ σ.sl),0,[]⟩) fun av=>D7 P E n ops done (⟨i,d,av,GU op (L2 mb ++ σ.sl)⟩ :: mb) σ K):D7 P E n ops done mb σ K:=by
 obtain ⟨av,hq,h⟩:=Zs h
 intro hok hrd hchk fuel l a w hl h1 h2 hcnt hs
 obtain ⟨c1,c2,c3⟩:=CC hnew
 have hli:l.getD i false = false:=by
  cases hx:l.getD i false with
  | false=>rfl
  | true =>
    exfalso
    rcases h2 i hx with h | ⟨m,hm,e⟩
    ·rw [hnd] at h;cases h
    ·simp only [Ae,Bool.and_eq_true,List.all_eq_true,Bool.not_eq_true'] at hnew
     have h3:=(hnew.1.2 m hm).2
     rw [e] at h3
     simp at h3
 refine h (fun m hm=>?_) (fun m hm p hp=>?_) hnew fuel l a w hl h1 (fun j hj=>?_) hcnt ?_
 ·rcases List.mem_cons.1 hm with rfl | hm
  ·exact ⟨op,ty,pos,after,hop,hq⟩
  ·exact hok m hm
 ·rcases List.mem_cons.1 hm with rfl | hm
  ·obtain ⟨h3,h4⟩:=TC hp
   rw [O4] at h3
   cases hx:look (L2 mb) p.1 with
   | none=>rw [hx] at h3;exact .inl h3
   | some y =>
     rw [hx] at h3
     cases h3
     obtain ⟨m',hm',e1,e2⟩:=X8 hx
     refine .inr ⟨m',List.mem_cons_of_mem _ hm',e1,e2,?_⟩
     have h5:=List.all_eq_true.1 hed _ h4
     have h6:=List.all_eq_true.1 h5 m' hm'
     rw [e1] at h6
     simpa using h6
  ·rcases hrd m hm p hp with h3 | ⟨m',hm',h4⟩
   ·exact .inl h3
   ·exact .inr ⟨m',List.mem_cons_of_mem _ hm',h4⟩
 ·rcases h2 j hj with h3 | ⟨m,hm,e⟩
  ·exact .inl h3
  ·exact .inr ⟨m,List.mem_cons_of_mem _ hm,e⟩
 ·have:S6 l (⟨i,d,av,GU op (L2 mb ++ σ.sl)⟩ :: mb) = S6 l mb:=by
   unfold S6
   rw [List.filter_cons,if_neg (by simp only [hli];exact Bool.false_ne_true)]
  rw [this]
  exact hs
structure XW (F:List (Nat × AV) → Prop):Prop where
 h:∀ ex,F ex
theorem Zu {F:List (Nat × AV) → Prop} (h:∀ ex,F ex):XW F:=⟨h⟩
structure HZ (P:Program) (E:Env) (n:Nat) (ops:Array Oper) (done:List Bool) (mb:List MB) (σ:St) (K:St → Prop) (r:List Nat):Prop where
 h:Ou P E n ops done mb σ K r
theorem A5 {P:Program} {E:Env} {n:Nat} {ops:Array Oper} {done:List Bool} {mb:List MB} {σ:St} {K:St → Prop}:HZ P E n ops done mb σ K []:=⟨trivial⟩
def Ov (P:Program) (E:Env) (n:Nat) (ops:Array Oper) (done:List Bool) (mb:List MB) (σ:St) (K:St → Prop) (i:Nat):Prop :=
 match ops[i]? with
 | some o=>v8 (L2 (X9 ops mb i) ++ σ.sl) fun sl2=>XW fun ex=>B8 P E n ops [o] ⟨sl2 ++ ex,σ.nx,σ.hp⟩ fun σ'=>HW P E n ops (Eg ops done mb i) (V5 ops mb i) K (L2 (X9 ops mb i) ++ σ.sl) (match o.dst,o.guard with
   | some _,some _=>(X9 ops mb i).length + σ.sl.length + 2
   | some _,none=>(X9 ops mb i).length + σ.sl.length + 1
   | none,_=>(X9 ops mb i).length + σ.sl.length) ex σ'
 | none=>False
theorem Ow {P:Program} {E:Env} {n:Nat} {ops:Array Oper} {done:List Bool} {mb:List MB} {σ:St} {K:St → Prop} {i:Nat} (h:Ov P E n ops done mb σ K i):HX P E n ops done mb σ K i:=by
 unfold Ov at h
 unfold HX
 split at h
 ·have h2:=(V3 h).h
  simp only [List.append_assoc] at h2
  exact h2
 ·exact h.elim
theorem A6 {P:Program} {E:Env} {n:Nat} {ops:Array Oper} {done:List Bool} {mb:List MB} {σ:St} {K:St → Prop} {i:Nat} {r:List Nat} (h:Ov P E n ops done mb σ K i) (k:HZ P E n ops done mb σ K r):HZ P E n ops done mb σ K (i :: r):=⟨⟨Ow h,k.h⟩⟩
theorem Vo {P:Program} {E:Env} {n:Nat} {ops:Array Oper} {done:List Bool} {mb:List MB} {K:St → Prop} {base:List (Nat × AV)} {k:Nat} {ex:List (Nat × AV)} {σ':St} (h1:σ'.sl = σ'.sl.take k ++ ex) (h2:(c8 mb).map (look (σ'.sl.take k)) = (c8 mb).map (look base)) (h3:Ae n (σ'.sl.take k) mb = true)
  (h4:v8 (σ'.sl.take k) fun sl2=>T1 σ'.hp fun hp2=>H3 σ'.nx fun nx2=>FQ done fun done2=>KR mb fun mb2=>D7 P E n ops done2 mb2 ⟨sl2,nx2,hp2⟩ K):HW P E n ops done mb K base k ex σ' :=
 ⟨h1,h2,h3,HY (BI (E5 (V4 (V3 h4))))⟩
def XX (P:Program) (E:Env) (n:Nat) (ops:Array Oper) (done:List Bool) (mb:List MB) (σ:St) (K:St → Prop):Prop :=
 match (List.range ops.size).find? (KS ops n done mb σ.sl) with
 | some i=>match ops[i]? with
   | some ⟨some d,op,_,_,_,none⟩=>v8 (GU op (L2 mb ++ σ.sl)) fun rd=>MV P op (F1 ⟨rd,0,[]⟩) fun av=>D7 P E n ops done (⟨i,d,av,rd⟩ :: mb) σ K
   | _=>False
 | none=>KP (DZ ops done mb) fun L=>match L with
   | []=>cond (KQ ops done mb) (K ⟨L2 mb ++ σ.sl,σ.nx,σ.hp⟩) False
   | i :: r=>HZ P E n ops done mb σ K (i :: r)
theorem A0 {P:Program} {E:Env} {n:Nat} {ops:Array Oper} {done:List Bool} {mb:List MB} {σ:St} {K:St → Prop} (hlen:Nat.beq done.length ops.size = true) (hback:Cn ops = true) (h:XX P E n ops done mb σ K):D7 P E n ops done mb σ K:=by
 unfold XX at h
 split at h
 ·rename_i i hi
  have hc:=List.find?_some hi
  split at h
  ·rename_i d op ty pos after hop
   simp only [KS,hop,Bool.and_eq_true,Bool.not_eq_true'] at hc
   exact LM hop hc.2.2 hc.2.1.2 hc.1.1.1 (V3 h)
  ·exact h.elim
 ·have h:=DT h
  split at h
  ·rename_i hr
   obtain ⟨ha,h⟩:=cond_false h
   exact FT hlen hback (fun _=>h) (by rw [hr];trivial)
  ·rename_i i r hr
   refine FT hlen hback (fun ha=>?_) (by rw [hr];exact h.h)
   exfalso
   have hmem:i ∈ DZ ops done mb:=by rw [hr];simp
   unfold DZ at hmem
   rw [List.mem_filter] at hmem
   have h2:=List.all_eq_true.1 ha i hmem.1
   have h3:=hmem.2
   simp only [Bool.and_eq_true,Bool.not_eq_true'] at h3
   rw [h3.1.1,h3.1.2] at h2
   cases h2
theorem LN {P:Program} {E:Env} {n:Nat} {ops:Array Oper} {σ:St} {K:St → Prop} (h:D7 P E n ops (W5 ops) [] σ K):D8 P E n ops ops.size (W5 ops) σ K:=fun a w hs =>
 h (fun m hm=>by cases hm) (fun m hm=>by cases hm) rfl ops.size (W5 ops) a w (by simp [W5]) (fun i h=>h) (fun i h=>.inl h) (by
  have:=List.count_le_length (a:=false) (l:=W5 ops)
  simpa [W5] using this) hs
theorem G6 {P:Program} {E:Env} {n:Nat} {ops:Array Oper} {σ:St} {Q:Exit → St → Prop} {id:Nat} [hm:Ic P] (S:St) (h:FQ (W5 ops) fun d=>v8 σ.sl fun sl=>D7 P E n ops d [] ⟨sl,σ.nx,σ.hp⟩ fun σ'=>St.le E n σ' S) (k:Q .normal S):Ad P E n id ops σ Q:=Am S (LN (V3 (BI h))) k
def XY (S:Nat → List AV → Prop):List Nat → List AV → Prop
 | [],l=>l = []
 | t :: r,l=>∃ a b,S t a ∧ XY S r b ∧ l = a ++ b
def XZ (S:List AV → Prop):Nat → List AV → Prop
 | 0,l=>l = []
 | n + 1,l=>∃ a b,S a ∧ XZ S n b ∧ l = a ++ b
def Eh (P:Program) (tot:Nat):List Field → Nat → Bool
 | [],o=>Nat.beq o tot
 | f :: r,o=>Nat.beq f.offset o && Eh P tot r (o + P.cellsOf f.type)
def Sh (P:Program):Nat → TypeId → List AV → Prop
 | 0,_,_=>False
 | f + 1,t,l=>match P.underlying t with
   | some .bool=>∃ b,l = [.v (.bool b)]
   | some (.int k)=>∃ n,(Lit.int k n).wf = true ∧ l = [.v (.int k n)]
   | some .string=>∃ s,s.length ≤ maxLen ∧ l = [.str s]
   | some (.slice e)=>∃ ls,ls.length ≤ maxLen ∧ (∀ x ∈ ls,Sh P f e x) ∧ l = [.sl (P.cellsOf e) ls]
   | some (.struct fs)=>Eh P (P.cellsOf t) fs.toList 0 = true → XY (Sh P f) (fs.toList.map (·.type)) l
   | some (.array n e)=>P.cellsOf t = n * P.cellsOf e → XZ (Sh P f e) n l
   | _=>True
def Cp:Nat → Prop:=fun _=>False
def AB (w:World) (l:List AV) (cs:List Value):Prop:=l.length = cs.length ∧ ∀ (j:Nat) x y,l[j]? = some x → cs[j]? = some y → Im Cp w x y
theorem AB.nil {w:World}:AB w [] []:=⟨rfl,fun j x y h=>by simp at h⟩
theorem AB.one {w:World} {a:AV} {v:Value} (h:Im Cp w a v):AB w [a] [v]:=⟨rfl,fun j x y hx hy=>by
 cases j with
 | zero=>simp at hx hy;subst hx hy;exact h
 | succ j=>simp at hx⟩
theorem AB.app {w:World} {l m:List AV} {cs ds:List Value} (h:AB w l cs) (h':AB w m ds):AB w (l ++ m) (cs ++ ds):=by
 refine ⟨by rw [List.length_append,List.length_append,h.1,h'.1],fun j x y hx hy=>?_⟩
 by_cases hj:j < l.length
 ·rw [List.getElem?_append_left hj] at hx
  rw [List.getElem?_append_left (by rw [← h.1];exact hj)] at hy
  exact h.2 j x y hx hy
 ·rw [List.getElem?_append_right (by omega)] at hx
  rw [List.getElem?_append_right (by rw [← h.1];omega), ← h.1] at hy
  exact h'.2 _ x y hx hy
theorem AB.raw {w:World} (cs:List Value):AB w (cs.map .v) cs:=⟨by simp,fun j x y hx hy=>by
 rw [List.getElem?_map,hy] at hx
 simp at hx;subst hx;exact .v _⟩
theorem Db {α β:Type} {f:α → Option β}:∀ {l:List α} {r:List β},l.mapM f = some r → r.length = l.length ∧ ∀ (i:Nat) x,l[i]? = some x → ∃ y,r[i]? = some y ∧ f x = some y
 | [],r,h=>by simp at h;subst h;simp
 | a :: l,r,h=>by
   rw [List.mapM_cons] at h
   cases ha:f a with
   | none=>rw [ha] at h;cases h
   | some y =>
     rw [ha] at h
     cases hl:l.mapM f with
     | none=>rw [hl] at h;cases h
     | some r' =>
       rw [hl] at h
       cases h
       obtain ⟨h1,h2⟩:=Db hl
       refine ⟨by simp [h1],fun i x hi=>?_⟩
       cases i with
       | zero=>simp at hi;subst hi;exact ⟨y,rfl,ha⟩
       | succ i=>simp at hi;simpa using h2 i x hi
theorem Mx {w:World} {base:Nat} {a:Addr} {n:Nat} {cs:List Value} (h:w.cells? base a n = some cs):cs.length = n ∧ ∀ j,j < n → ∃ v,cs[j]? = some v ∧ w.cell? (a.add j) = some v:=by
 unfold World.cells? at h
 split at h
 ·obtain ⟨h1,h2⟩:=Db h
  rw [List.length_range] at h1
  refine ⟨h1,fun j hj=>?_⟩
  obtain ⟨y,hy,hc⟩:=h2 j j (by rw [List.getElem?_range hj])
  exact ⟨y,hy,hc⟩
 ·cases h
theorem TD {α:Type} (n:Nat) (f:Nat → α) (i:Nat):((List.range n).map f)[i]? = if i < n then some (f i) else none:=by
 by_cases h:i < n
 ·simp [h]
 ·simp [h]
section
variable {H:Type} {enc:TypeId × Value → H} {P:Program} {w:World} {base:Nat} {spare:Nat → Bool} {held:Bool}
theorem JW {S:Nat → List AV → Prop} {T:Nat → List Value → Option (DataW H × List MemPlace)} (hT:∀ t cs y,T t cs = some y → ∃ l,S t l ∧ AB w l cs) {tot:Nat} (cs:List Value) (hcs:cs.length = tot) :
  ∀ (fs:List Field) (o:Nat) {r},Eh P tot fs o = true → (fs.mapM fun f=>T f.type ((cs.drop f.offset).take (P.cellsOf f.type))) = some r → ∃ l,XY S (fs.map (·.type)) l ∧ AB w l (cs.drop o)
 | [],o,r,hc,h=>by
   have:o = tot:=Nat.eq_of_beq_eq_true hc
   exact ⟨[],rfl,by rw [List.drop_of_length_le (by omega)];exact .nil⟩
 | f :: fs,o,r,hc,h=>by
   simp only [Eh,Bool.and_eq_true] at hc
   have ho:f.offset = o:=Nat.eq_of_beq_eq_true hc.1
   rw [List.mapM_cons] at h
   cases ha:T f.type ((cs.drop f.offset).take (P.cellsOf f.type)) with
   | none=>rw [ha] at h;cases h
   | some y =>
     rw [ha] at h
     cases hl:(fs.mapM fun f=>T f.type ((cs.drop f.offset).take (P.cellsOf f.type))) with
     | none=>rw [hl] at h;cases h
     | some r' =>
       obtain ⟨a,ha1,ha2⟩:=hT _ _ _ ha
       obtain ⟨b,hb1,hb2⟩:=JW hT cs hcs fs _ hc.2 hl
       refine ⟨a ++ b,⟨a,b,ha1,hb1,rfl⟩,?_⟩
       have:=ha2.app hb2
       rw [ho, ← List.drop_drop,List.take_append_drop] at this
       exact this
theorem LO {S:List AV → Prop} {c:Nat} {T:List Value → Option (DataW H × List MemPlace)} (hT:∀ cs y,T cs = some y → ∃ l,S l ∧ AB w l cs) (cs:List Value) :
  ∀ (n i:Nat),cs.length = (i + n) * c → (∀ k,k < n → ∃ y,T ((cs.drop ((i + k) * c)).take c) = some y) → ∃ l,XZ S n l ∧ AB w l (cs.drop (i * c))
 | 0,i,hl,_=>⟨[],rfl,by rw [List.drop_of_length_le (by rw [hl,Nat.add_zero];exact Nat.le_refl _)];exact .nil⟩
 | n + 1,i,hl,h=>by
   obtain ⟨y,hy⟩:=h 0 (by omega)
   obtain ⟨a,ha1,ha2⟩:=hT _ _ hy
   obtain ⟨b,hb1,hb2⟩:=LO hT cs n (i + 1) (by rw [hl];congr 1;omega) (fun k hk=>by
    obtain ⟨z,hz⟩:=h (k + 1) (by omega)
    exact ⟨z,by rw [show i + 1 + k = i + (k + 1) by omega];exact hz⟩)
   refine ⟨a ++ b,⟨a,b,ha1,hb1,rfl⟩,?_⟩
   have:=ha2.app hb2
   rw [Nat.add_zero,Nat.add_mul,Nat.one_mul, ← List.drop_drop,List.take_append_drop] at this
   exact this
theorem Vp:∀ (fuel:Nat) (t:TypeId) (cs:List Value) (y:DataW H × List MemPlace),DataW.trod enc P w base spare held fuel t cs = some y → ∃ l,Sh P fuel t l ∧ AB w l cs:=by
 intro fuel
 induction fuel with
 | zero=>intro t cs y h;simp [DataW.trod] at h
 | succ f ih =>
   intro t cs y h
   have raw:(∀ l,Sh P (f + 1) t l) → ∃ l,Sh P (f + 1) t l ∧ AB w l cs:=fun hall=>⟨_,hall _, .raw cs⟩
   unfold DataW.trod at h
   split at h
   ·rename_i ht
    exact ⟨[.v (.bool _)],by simp only [Sh,ht];exact ⟨_,rfl⟩, .one (.v _)⟩
   ·rename_i k k' n ht
    split at h
    ·rename_i hk
     obtain ⟨rfl,hwf⟩:=hk
     exact ⟨[.v (.int k' n)],by simp only [Sh,ht];exact ⟨_,hwf,rfl⟩, .one (.v _)⟩
    ·cases h
   ·rename_i ht;exact raw fun l=>by simp only [Sh,ht]
   ·rename_i s ht
    split at h
    ·rename_i hs
     refine ⟨[.str s.data.toList],by simp only [Sh,ht];exact ⟨_,by rw [Array.length_toList];exact hs,rfl⟩, .one ?_⟩
     have:=Im.str (U:=Cp) (w:=w) s.data.toList
     simpa using this
    ·cases h
   ·rename_i ht;exact raw fun l=>by simp only [Sh,ht]
   ·rename_i ht;exact raw fun l=>by simp only [Sh,ht]
   ·rename_i e ht
    exact ⟨[.sl (P.cellsOf e) []],by simp only [Sh,ht];exact ⟨[],Nat.zero_le _,(fun x hx=>by cases hx),rfl⟩, .one (.slnil _)⟩
   ·rename_i e a len cap ht
    simp only at h
    split at h
    ·rename_i hb
     obtain ⟨hb0,hlc,hcm⟩:=hb
     rw [Option.bind_eq_some_iff] at h
     obtain ⟨elems,hel,_⟩:=h
     obtain ⟨_,hel2⟩:=Db hel
     have key:∀ i, ∃ p:List AV × List Value,i < len → Sh P f e p.1 ∧ AB w p.1 p.2 ∧ p.2.length = P.cellsOf e ∧ ∀ j,j < P.cellsOf e → ∃ v,p.2[j]? = some v ∧ w.cell? (a.add (i * P.cellsOf e + j)) = some v:=by
      intro i
      by_cases hi:i < len
      ·obtain ⟨z,_,hz⟩:=hel2 i i (by rw [List.getElem?_range hi])
       rw [Option.bind_eq_some_iff] at hz
       obtain ⟨csi,hcs,htr⟩:=hz
       obtain ⟨hlen,hcell⟩:=Mx hcs
       obtain ⟨l,hsh,hp⟩:=ih _ _ _ htr
       exact ⟨(l,csi),fun _=>⟨hsh,hp,hlen,fun j hj=>by
        obtain ⟨v,hv,hc⟩:=hcell j hj
        rw [AK] at hc
        exact ⟨v,hv,hc⟩⟩⟩
      ·exact ⟨([],[]),fun h=>absurd h hi⟩
     have key2:=fun i=>Classical.choose_spec (key i)
     generalize hg:(fun i=>Classical.choose (key i)) = g at key2
     have gi:∀ i,Classical.choose (key i) = g i:=fun i=>congrFun hg i
     simp only [gi] at key2
     refine ⟨[.sl (P.cellsOf e) ((List.range len).map fun i=>(g i).1)],?_, .one ?_⟩
     ·simp only [Sh,ht]
      refine ⟨_,by simp;omega,fun x hx=>?_,rfl⟩
      obtain ⟨i,hi,rfl⟩:=List.mem_map.1 hx
      exact (key2 i (List.mem_range.1 hi)).1
     ·have hl:((List.range len).map fun i=>(g i).1).length = len:=by simp
      have:=Im.sl (U:=Cp) (w:=w) (P.cellsOf e) ((List.range len).map fun i=>(g i).1) a cap (fun i j=>(g i).2.getD j undef) (by rw [hl];exact hlc) hcm (fun _ _ h=>h)
       (fun x hx=>by
        obtain ⟨i,hi,rfl⟩:=List.mem_map.1 hx
        obtain ⟨_,h1,h2,_⟩:=key2 i (List.mem_range.1 hi)
        rw [h1.1,h2])
       (fun i hi j hj=>by
        rw [hl] at hi
        obtain ⟨_,_,_,h3⟩:=key2 i hi
        obtain ⟨v,hv,hc⟩:=h3 j hj
        simp only [List.getD_eq_getElem?_getD,hv]
        exact hc)
       (fun i x hx j u hu=>by
        rw [TD] at hx
        split at hx
        ·rename_i hi
         cases hx
         obtain ⟨_,h1,h2,h3⟩:=key2 i hi
         have hj:j < P.cellsOf e:=by rw [← h2, ← h1.1];exact (List.getElem?_eq_some_iff.1 hu).1
         obtain ⟨v,hv,_⟩:=h3 j hj
         simp only [List.getD_eq_getElem?_getD,hv]
         exact h1.2 j u v hu hv
        ·cases hx)
      rw [hl] at this
      exact this
    ·cases h
   ·rename_i fs ht
    split at h
    ·rename_i hl
     rw [Option.map_eq_some_iff] at h
     obtain ⟨r,hr,_⟩:=h
     by_cases hc:Eh P (P.cellsOf t) fs.toList 0 = true
     ·obtain ⟨l,h1,h2⟩:=JW (S:=Sh P f) (fun t cs y h=>ih t cs y h) _ hl fs.toList 0 hc hr
      exact ⟨l,by simp only [Sh,ht];exact fun _=>h1,by simpa using h2⟩
     ·exact raw fun l=>by simp only [Sh,ht];exact fun h=>absurd h hc
    ·cases h
   ·rename_i n e ht
    split at h
    ·rename_i hl
     rw [Option.map_eq_some_iff] at h
     obtain ⟨r,hr,_⟩:=h
     by_cases hc:P.cellsOf t = n * P.cellsOf e
     ·obtain ⟨_,hr2⟩:=Db hr
      obtain ⟨l,h1,h2⟩:=LO (S:=Sh P f e) (c:=P.cellsOf e) (T:=fun cs=>DataW.trod enc P w base spare held f e cs) (fun cs y h=>ih e cs y h) _ n 0 (by rw [hl,hc,Nat.zero_add]) (fun k hk=>by
       obtain ⟨z,_,hz⟩:=hr2 k k (by rw [List.getElem?_range hk])
       exact ⟨z,by rw [Nat.zero_add];exact hz⟩)
      exact ⟨l,by simp only [Sh,ht];exact fun _=>h1,by simpa using h2⟩
     ·exact raw fun l=>by simp only [Sh,ht];exact fun h=>absurd h hc
    ·cases h
   all_goals first
    | cases h;done
    | (rename_i ht;exact raw (by intro l;simp only [Sh,ht]))
    | (rename_i ht;split at h <;> first | (cases h;done) | exact raw (by intro l;simp only [Sh,ht]))
    | (rename_i ht _;exact raw (by intro l;simp only [Sh,ht]))
def Y0 (P:Program) (t:TypeId) (a:AV):Prop:=match P.underlying t with
 | some (.struct _) | some (.array _ _)=>∃ fuel l,a = .agg l ∧ Sh P fuel t l
 | _=>∃ fuel,Sh P fuel t [a]
theorem LP {v:Value} (h:∀ cs,v ≠ .agg cs):v.cells = #[v]:=by
 cases v <;> first | rfl | exact absurd rfl (h _)
theorem My {r:Reach} {b0:Nat} {t:TypeId} {v:Value} (h:Cell.okWide P w r b0 t v):∀ cs,v ≠ .agg cs:=by
 rintro cs rfl
 simp only [Cell.okWide,Cell.ok] at h
 split at h <;> simp_all
theorem TE {r:Reach} {b0:Nat} {t:TypeId} {v:Value} {d:DataW H} {ps:List MemPlace} (hok:Value.okWide P w r b0 t v) (h:DataW.Trod enc P w base spare held t v d ps):∃ a,Y0 P t a ∧ Im Cp w a v:=by
 obtain ⟨fuel,h⟩:=h
 obtain ⟨l,hs,hp⟩:=Vp fuel t _ _ h
 have one:(∀ cs,v ≠ .agg cs) → ∃ a,l = [a] ∧ Im Cp w a v:=by
  intro hna
  rw [LP hna] at hp
  obtain ⟨h1,h2⟩:=hp
  match l,h1,h2 with
  | [a],_,h2=>exact ⟨a,rfl,h2 0 a v rfl rfl⟩
 have agg:∀ cs,v = .agg cs → Im Cp w (.agg l) v:=by
  rintro cs rfl
  have hp':AB w l cs.toList:=hp
  have:=Im.agg (U:=Cp) (w:=w) l cs.toList hp'.1 hp'.2
  simpa using this
 unfold Y0
 unfold Value.okWide at hok
 split at hok
 ·rename_i ht
  obtain ⟨cs,hv,_⟩:=hok
  exact ⟨.agg l,(by simp only [ht];exact ⟨fuel,l,rfl,hs⟩),agg cs hv⟩
 ·rename_i ht
  obtain ⟨cs,hv,_⟩:=hok
  exact ⟨.agg l,(by simp only [ht];exact ⟨fuel,l,rfl,hs⟩),agg cs hv⟩
 ·obtain ⟨a,rfl,ha⟩:=one (My hok)
  refine ⟨a,?_,ha⟩
  split
  all_goals first | exact ⟨fuel,hs⟩ | (exfalso;simp_all)
def FU (P:Program):List TypeId → List AV → Prop
 | [],l=>l = []
 | t :: ts,l=>∃ a r,l = a :: r ∧ Y0 P t a ∧ FU P ts r
theorem JX {r:Reach} {b0:Nat}:∀ {ts:List TypeId} {vs:List Value} {ds:List (DataW H)} {ps:List MemPlace},(∀ (j:Nat) t v,ts[j]? = some t → vs[j]? = some v → Value.okWide P w r b0 t v) → DataW.TrodAll enc P w base spare held ts vs ds ps →
  ds.length = ts.length ∧ ∃ l,FU P ts l ∧ l.length = vs.length ∧ ∀ (j:Nat) a v,l[j]? = some a → vs[j]? = some v → Im Cp w a v
 | [],[],[],ps,_,_=>⟨rfl,[],rfl,rfl,fun j a v h=>by simp at h⟩
 | [],[],_ :: _,ps,_,h=>h.elim
 | [],_ :: _,_,ps,_,h=>h.elim
 | _ :: _,[],_,ps,_,h=>h.elim
 | _ :: _,_ :: _,[],ps,_,h=>h.elim
 | t :: ts,v :: vs,d :: ds,ps,hok,h=>by
   obtain ⟨p,q,h1,h2,_⟩:=h
   obtain ⟨a,ha,hi⟩:=TE (hok 0 t v rfl rfl) h1
   obtain ⟨hd,l,hl,hlen,hr⟩:=JX (ts:=ts) (vs:=vs) (fun j t v ht hv=>hok (j + 1) t v (by simpa using ht) (by simpa using hv)) h2
   refine ⟨by simp [hd],a :: l,⟨a,l,rfl,ha,hl⟩,by simp [hlen],fun j x y hx hy=>?_⟩
   cases j with
   | zero=>simp at hx hy;subst hx hy;exact hi
   | succ j=>exact hr j x y (by simpa using hx) (by simpa using hy)
theorem JY (hl:laidOutB P = true) {w':World} (hb:Below w.heap.size w w'):∀ {ts:List TypeId} {vs:List Value} {ds:List (DataW H)} {ps:List MemPlace},(ts.all fun t=>P.readableRec t && decide (t < P.types.size)) = true → (∀ x ∈ ps,x.block < w.heap.size) →
  DataW.TrodAll enc P w 0 (fun _=>true) true ts vs ds ps → DataW.TrodAll enc P w' 0 (fun b=>decide (b < w.heap.size)) true ts vs ds ps
 | [],[],[],ps,_,_,h=>h
 | [],[],_ :: _,ps,_,_,h=>h.elim
 | [],_ :: _,_,ps,_,_,h=>h.elim
 | _ :: _,[],_,ps,_,_,h=>h.elim
 | _ :: _,_ :: _,[],ps,_,_,h=>h.elim
 | t :: ts,v :: vs,d :: ds,ps,hr,hlt,h=>by
   obtain ⟨p,q,h1,h2,rfl⟩:=h
   rw [List.all_cons,Bool.and_eq_true,Bool.and_eq_true] at hr
   exact ⟨p,q,Below.trod hl hr.1.1 (of_decide_eq_true hr.1.2) h1 hb fun x hx=>hlt x (by simp [hx]),JY hl hb hr.2 (fun x hx=>hlt x (by simp [hx])) h2,rfl⟩
end
section
variable {P:Program}
theorem Qh {k:IntKind} {n:Int} (h:(Lit.int k n).wf = true):k.min ≤ n ∧ n ≤ k.max:=by
 simpa [Lit.wf] using h
theorem wf_u8 {n:Int} (h:(Lit.int .u8 n).wf = true):0 ≤ n ∧ n < 256:=by
 obtain ⟨h1,h2⟩:=Qh h
 have e1:IntKind.min .u8 = 0:=rfl
 have e2:IntKind.max .u8 = 255:=rfl
 omega
theorem wf_i64 {n:Int} (h:(Lit.int .i64 n).wf = true):-9223372036854775808 ≤ n ∧ n ≤ 9223372036854775807:=by
 obtain ⟨h1,h2⟩:=Qh h
 have e1:IntKind.min .i64 = -9223372036854775808:=by decide
 have e2:IntKind.max .i64 = 9223372036854775807:=by decide
 omega
theorem LQ {f t:Nat} {l:List AV} {k:IntKind} (ht:P.underlying t = some (.int k)) (h:Sh P f t l):∃ n,(Lit.int k n).wf = true ∧ l = [.v (.int k n)]:=by
 cases f with
 | zero=>exact h.elim
 | succ f=>simpa only [Sh,ht] using h
theorem Xa {f t:Nat} {l:List AV} (ht:P.underlying t = some .string) (h:Sh P f t l):∃ s,s.length ≤ maxLen ∧ l = [.str s]:=by
 cases f with
 | zero=>exact h.elim
 | succ f=>simpa only [Sh,ht] using h
theorem TF {f t e c:Nat} {l:List AV} (ht:P.underlying t = some (.slice e)) (hc:P.cellsOf e = c) (h:Sh P f t l):∃ f' ls,ls.length ≤ maxLen ∧ (∀ x ∈ ls,Sh P f' e x) ∧ l = [.sl c ls] ∧ f = f' + 1:=by
 cases f with
 | zero=>exact h.elim
 | succ f =>
   simp only [Sh,ht] at h
   obtain ⟨ls,h1,h2,h3⟩:=h
   exact ⟨f,ls,h1,h2,by rw [h3,hc],rfl⟩
def Ih (P:Program) (t:Nat):Bool:=match P.underlying t with
 | some (.struct _) | some (.array _ _)=>true
 | _=>false
theorem FV {t:Nat} {a:AV} (ht:Ih P t = false) (h:Y0 P t a):∃ fuel,Sh P fuel t [a]:=by
 unfold Y0 at h
 unfold Ih at ht
 split at ht
 ·cases ht
 ·cases ht
 ·split at h
  all_goals first | exact h | (exfalso;simp_all)
theorem Xb {t:Nat} {a:AV} (ht:P.underlying t = some (.int .u8)) (h:Y0 P t a):∃ n:Nat,n < 256 ∧ a = .v (.int .u8 n):=by
 obtain ⟨f,h⟩:=FV (by simp [Ih,ht]) h
 obtain ⟨n,hw,e⟩:=LQ ht h
 obtain ⟨h1,h2⟩:=wf_u8 hw
 refine ⟨n.toNat,by omega,?_⟩
 rw [Int.toNat_of_nonneg h1]
 simpa using e
theorem Vq {t:Nat} {a:AV} (ht:P.underlying t = some (.int .i64)) (h:Y0 P t a):∃ n:Int,(-9223372036854775808 ≤ n ∧ n ≤ 9223372036854775807) ∧ a = .i n:=by
 obtain ⟨f,h⟩:=FV (by simp [Ih,ht]) h
 obtain ⟨n,hw,e⟩:=LQ ht h
 exact ⟨n,wf_i64 hw,by simpa using e⟩
theorem Vr {t:Nat} {a:AV} (ht:P.underlying t = some .string) (h:Y0 P t a):∃ s:List UInt8,s.length ≤ maxLen ∧ a = .str s:=by
 obtain ⟨f,h⟩:=FV (by simp [Ih,ht]) h
 obtain ⟨s,hl,e⟩:=Xa ht h
 exact ⟨s,hl,by simpa using e⟩
theorem Qi {t e c:Nat} {a:AV} (ht:P.underlying t = some (.slice e)) (hc:P.cellsOf e = c) (h:Y0 P t a):∃ f ls,ls.length ≤ maxLen ∧ (∀ x ∈ ls,Sh P f e x) ∧ a = .sl c ls:=by
 obtain ⟨f,h⟩:=FV (by simp [Ih,ht]) h
 obtain ⟨f',ls,h1,h2,h3,_⟩:=TF ht hc h
 exact ⟨f',ls,h1,h2,by simpa using h3⟩
theorem LR {α:Type} {F:α → List AV} {R:α → Prop}:∀ {ls:List (List AV)},(∀ x ∈ ls, ∃ y,R y ∧ x = F y) → ∃ l:List α,ls = l.map F ∧ ∀ y ∈ l,R y
 | [],_=>⟨[],rfl,fun y h=>by cases h⟩
 | x :: r,h=>by
   obtain ⟨y,hy,e⟩:=h x (by simp)
   obtain ⟨l,hl,hr⟩:=LR (ls:=r) fun z hz=>h z (by simp [hz])
   refine ⟨y :: l,by simp [e,hl],fun z hz=>?_⟩
   rcases List.mem_cons.1 hz with rfl | hz
   ·exact hy
   ·exact hr z hz
abbrev T7 (b:UInt8):List AV:=[.v (.int .u8 b.toNat)]
theorem Qj {t e:Nat} {a:AV} (ht:P.underlying t = some (.slice e)) (he:P.underlying e = some (.int .u8)) (hc:P.cellsOf e = 1) (h:Y0 P t a):∃ l:List UInt8,l.length ≤ maxLen ∧ a = .sl 1 (l.map T7):=by
 obtain ⟨f,ls,h1,h2,h3⟩:=Qi ht hc h
 obtain ⟨l,hl,_⟩:=LR (F:=T7) (R:=fun _=>True) (ls:=ls) (fun x hx=>by
  obtain ⟨n,hw,e⟩:=LQ he (h2 x hx)
  obtain ⟨g1,g2⟩:=wf_u8 hw
  refine ⟨UInt8.ofNat n.toNat,trivial,?_⟩
  rw [e,T7,UInt8.toNat_ofNat']
  rw [show ((n.toNat % 2 ^ 8:Nat):Int) = n by omega])
 exact ⟨l,by rw [hl,List.length_map] at h1;exact h1,by rw [h3,hl]⟩
end
theorem Ox {α:Type} {l:List UInt8} {f:UInt8 → α} {k:Nat} {F:α → Prop} (h:k < l.length) (kk:∀ x,l[k]? = some x → x.toNat < 256 → F (f x)):N5 (l.map f) (k:Int) F:=f9 h fun x hx=>kk x hx x.toNat_lt
theorem Qk {α:Type} {l:List UInt8} {f:UInt8 → α} {i:Int} {F:α → Prop} (h0:0 ≤ i) (h:i < l.length) (kk:∀ x,l[i.toNat]? = some x → x.toNat < 256 → F (f x)):N5 (l.map f) i F:=DN h0 h fun x hx=>kk x hx x.toNat_lt
theorem Vs {l:List UInt8} {i:Int} {F:UInt8 → Prop} (h0:0 ≤ i) (h:i < l.length) (kk:∀ x,l[i.toNat]? = some x → x.toNat < 256 → F x):N5 l i F:=QL h0 h fun x hx=>kk x hx x.toNat_lt
theorem Vt {P:Program} {S T:Nat} {k':IntKind} {b:UInt8} {F:AV → Prop} [O0 P T .i64] [O0 P S k'] (kk:F (.v (.int .i64 b.toNat))):k7 P S T (.v (.int k' b.toNat)) F:=Vj (P6 (by have:=b.toNat_lt;omega)) kk
theorem Z0 {P:Program} {E:Env} {n:Nat} {ops:Array Oper} {rest:List Oper} {σ:St} {K:St → Prop} {d:Nat} {ty:TypeId} {pos:String} {after:Array Edge} {T len:Nat} {parts:List (Nat × Operand)} (hd:Nat.blt d n = true)
  (h:match n7 (F1 σ) parts with
   | some ps=>Bd P T fun e sz _ _=>cond (u7 0 ps && X4 sz (M7 ps) && Nat.beq ps.length len && Nat.blt 0 sz && Nat.blt e E9) (G1 (len * sz ≤ 16777216) (Al σ.hp ps (HL (M7 ps) (H3 σ.nx fun nx=>B8 P E n ops rest ((σ.new (.row e sz 0 (M7 ps))).put d (.row nx 0 len)) K)))) False
   | none=>False):B8 P E n ops (⟨some d, .buildSlice T len ⟨parts⟩,ty,pos,after,none⟩ :: rest) σ K:=by
 split at h
 ·rename_i ps he
  obtain ⟨⟨e,sz,bs,z,ts,tz,tb,hz,h⟩⟩:=h
  obtain ⟨hc,h⟩:=cond_false h
  simp only [Bool.and_eq_true,Nat.beq_eq] at hc
  obtain ⟨⟨⟨⟨h1,h2⟩,h3⟩,h4⟩,hek⟩:=hc
  obtain ⟨h5,h⟩:=h
  obtain ⟨h6,h⟩:=W4 h
  obtain ⟨h7,h⟩:=BF h
  exact HC (e:=e) (sz:=sz) (z:=z) he h6 h1 h2 h3 hz h5 (Nat.blt_eq ▸ h4) h7 (Nat.blt_eq ▸ hek) hd (E5 h)
 ·exact h.elim
theorem JZ {P:Program} {E:Env} {n:Nat} {ops:Array Oper} {rest:List Oper} {σ:St} {K:St → Prop} {d:Nat} {ty:TypeId} {pos:String} {after:Array Edge} {S T e:Nat} {x:Operand} [hS:S9 P S] [ts:K8 P T e 1] [he:O0 P e .u8] {l:List UInt8} (hd:Nat.blt d n = true)
  (hx:F1 σ x = some (.str l)) (hl:l.length ≤ 9223372036854775807) (k:H3 σ.nx fun nx=>B8 P E n ops rest ((σ.new (.row (F8 + e) 1 0 (l.map T7))).put d (.row nx 0 l.length)) K) (hee:e < F8:=by decide) :
  B8 P E n ops (⟨some d, .convert S T x,ty,pos,after,none⟩ :: rest) σ K:=by
 refine f5 hd (fun θ a w h=>?_) (E5 k) (H7 (AH (by unfold F8 at hee ⊢;unfold E9;omega)))
 have hv:=(h.rel hx).sval
 have hr:=run_bytes_of_string (P:=P) w S T e ⟨l.toArray⟩ hS.out ts.out.1 he.out
 have hsz:(ByteArray.mk l.toArray).size = l.length:=rfl
 rw [hsz] at hr
 have hcap:grownCap w l.length 0 e ≤ maxLen:=grownCap_le_maxLen w _ 0 e (by unfold maxLen;omega)
 have hge:=grownCap_ge w l.length 0 e
 generalize grownCap w l.length 0 e = cap at hr hcap hge
 generalize hC:bytesRow ⟨l.toArray⟩ cap = C at hr
 have hCs:C.size = cap:=by rw [← hC];simp [bytesRow,ByteArray.size];omega
 have hCt:C.toList.take l.length = l.map fun b=>Value.int .u8 b.toNat:=by
  rw [← hC];simp [bytesRow]
 refine ⟨.slice (some ⟨w.heap.size,0,none⟩) l.length cap, .slice (some ⟨w.heap.size,0,none⟩) l.length cap,w.drew.alloc (.cells C e (C.size,C.size + 1)),?_,p3 w _,DI (Nat.le_refl _),fun le=>⟨⟨l.map fun b=>Value.int .u8 b.toNat,⟨by simp, .inr ⟨w.heap.size,cap,C,by simp [cx,D4], .lt (GL (by unfold F8 at hee ⊢;unfold E9;omega)), .inr (.inl ⟨Nat.le_add_right _ _,by unfold F8 at hee ⊢;unfold E9;omega,e,_,heap_alloc_new w.drew _,Nat.le_refl _⟩),by simpa using hge,hcap,by omega,by simpa using hCt⟩⟩,fun el hel=>?_,fun k el hk j u hu=>?_, .lt (AH (by unfold F8 at hee ⊢;unfold E9;omega))⟩, .row _ _ _ _ (by simp [cx,St.new]) fun e' sz' v' l' hl'=>?_⟩⟩
 ·simp only [execOp,hv,Sem.run_bind,hr,Result.andThen_ok,Sem.run_pure]
 ·obtain ⟨b,_,rfl⟩:=List.mem_map.1 hel
  rfl
 ·rw [List.getElem?_map,Option.map_eq_some_iff] at hk
  obtain ⟨b,hb,rfl⟩:=hk
  cases j with
  | zero =>
    cases hu
    exact ⟨.int .u8 b.toNat,by rw [Nat.mul_one,Nat.add_zero,List.getElem?_map,hb];rfl, .v _⟩
  | succ j=>cases hu
 ·simp only [cx,St.new,F2,if_pos] at hl'
  cases hl'
  exact ⟨Nat.le_refl _,fun _=>⟨by simp,by simp [cx,D4]⟩⟩
def LS:AV → Bool
 | .v x=>Of x
 | .str _ | .sl _ _ | .iptr _ | .fn _ _=>true
 | _=>false
theorem Fx {x:AV} (h:LS x = true):T0 x:=by
 cases x <;> first | exact EV h | trivial | cases h
theorem Zv {m:List (List AV)} (h:(m.all fun el=>el.all LS) = true):∀ el ∈ m,∀ u ∈ el,T0 u:=fun el hel u hu =>
 Fx (List.all_eq_true.1 (List.all_eq_true.1 h el hel) u hu)
theorem Vu {α:Type} {l:List α} {f:α → List AV} (h:∀ x,(f x).all LS = true):∀ el ∈ l.map f,∀ u ∈ el,T0 u:=fun el hel u hu=>by
 obtain ⟨x,_,rfl⟩:=List.mem_map.1 hel
 exact Fx (List.all_eq_true.1 (h x) u hu)
theorem G2 (id:Nat) {P:Program} {E:Env} {n:Nat} {ops:Array Oper} {σ:St} {Q:Exit → St → Prop} (h:Ad P E n id ops σ Q):Ad P E n id ops σ Q:=h
def Ng (o:Oper):Bool:=o.dst.isSome && match o.op with
 | .box .. | .alloc .. | .makeSlice .. | .makeMap .. | .mapUpdate .. | .store ..=>false
 | .call ⟨.builtin .append,_,_⟩=>false
 | _=>true
theorem Xd {P:Program} {E:Env} {n:Nat} {ops:Array Oper} {σ:St} {id:Nat} {Q:Exit → St → Prop} [hm:Ic P] (hq:ops.toList.all Ng = true) (hd:BH ops = true) (h:DQ P E n ops ops.toList σ fun σ'=>Q .normal σ'):Ad P E n id ops σ Q :=
 E3 hd h
theorem K5 {P:Program} {E:Env} {n:Nat} {ops:Array Oper} {σ σ':St} {id:Nat} {Q:Exit → St → Prop} (h:St.le E n σ σ') (k:Ad P E n id ops σ' Q):Ad P E n id ops σ Q:=⟨O6 h k.h⟩
def Af (sl:List (Nat × AV)):List Nat → List (Nat × AV)
 | []=>[]
 | s :: r=>match look sl s with
   | some x=>(s,x) :: Af sl r
   | none=>Af sl r
def V6 (hp:Hp):Nat → Hp
 | 0=>[]
 | i + 1=>match B3 hp i with
   | some b=>(i,some b) :: V6 hp i
   | none=>V6 hp i
theorem Dc {sl:List (Nat × AV)}:∀ {l:List Nat} {s:Nat} {x:AV},look (Af sl l) s = some x → look sl s = some x
 | [],s,x,h=>by cases h
 | t :: r,s,x,h=>by
   unfold Af at h
   cases hx:look sl t with
   | none=>rw [hx] at h;exact Dc h
   | some y =>
     rw [hx] at h
     simp only [F7] at h
     by_cases e:t = s
     ·subst e;rw [if_pos rfl] at h;rw [hx];exact h
     ·rw [if_neg e] at h;exact Dc h
theorem Ca {hp:Hp}:∀ (m i:Nat),B3 (V6 hp m) i = if i < m then B3 hp i else none
 | 0,i=>by simp [V6,B3,look]
 | m + 1,i=>by
   unfold V6
   cases hx:B3 hp m with
   | none =>
     simp only
     rw [Ca m i]
     by_cases e:i = m
     ·subst e;simp [hx]
     ·by_cases h:i < m
      ·rw [if_pos h,if_pos (by omega)]
      ·rw [if_neg h,if_neg (by omega)]
   | some b =>
     simp only [F2]
     by_cases e:m = i
     ·subst e;simp [hx]
     ·rw [if_neg e,Ca m i]
      by_cases h:i < m
      ·rw [if_pos h,if_pos (by omega)]
      ·rw [if_neg h,if_neg (by omega)]
theorem Ql {E:Env} {n:Nat} {σ:St} (keep:List Nat):St.le E n σ ⟨Af σ.sl keep,σ.nx,V6 σ.hp σ.nx⟩:=by
 rintro a w ⟨θ,h⟩
 have e:∀ i,B3 (V6 σ.hp σ.nx) i = B3 σ.hp i:=by
  intro i
  rw [Ca]
  by_cases hi:i < σ.nx
  ·rw [if_pos hi]
  ·rw [if_neg hi]
   cases hx:B3 σ.hp i with
   | none=>rfl
   | some b=>exact absurd (h.owns i b hx).1 hi
 have le:(cx E θ σ w).le (cx E θ ⟨Af σ.sl keep,σ.nx,V6 σ.hp σ.nx⟩ w):=by
  refine ⟨Nat.le_refl _,fun i hi=>.inl rfl,fun i hi e' sz' v' l' hl=>⟨e',v',l',?_, .inr ⟨rfl,rfl,rfl⟩⟩,Nat.le_refl _,fun k hk _=>rfl,fun k hk hu=>?_⟩
  ·have hl':B3 (V6 σ.hp σ.nx) i = some (.row e' sz' v' l'):=hl
   rw [e i] at hl';exact hl'
  ·rcases hu with hu | ⟨i,b,hi,hk'⟩
   ·exact .inl hu
   ·have hi':B3 (V6 σ.hp σ.nx) i = some b:=hi
    rw [e i] at hi'
    exact .inr ⟨i,b,hi',hk'⟩
 refine ⟨θ,h.size,h.defers,h.fr,fun s x hs=>(h.slots s x (Dc hs)).mono le,fun i b hi=>?_,fun i j b b' k hi hj=>?_,fun i b k hi=>?_,h.X,⟨h.base.1,fun i hi=>(h.base.2 i hi).imp id fun ⟨h1,h2⟩=>⟨h1,fun ⟨e',sz,v,l,hl,hk⟩=>h2 ⟨e',sz,v,l,by rw [← e i];exact hl,hk⟩⟩⟩⟩
 ·have hi':B3 (V6 σ.hp σ.nx) i = some b:=hi
  rw [e i] at hi'
  exact ⟨(h.owns i b hi').1,(h.owns i b hi').2.mono le rfl (fun _=>rfl) fun k _=>rfl⟩
 ·have hi':B3 (V6 σ.hp σ.nx) i = some b:=hi
  have hj':B3 (V6 σ.hp σ.nx) j = some b':=hj
  rw [e i] at hi'
  rw [e j] at hj'
  exact h.apart i j b b' k hi' hj'
 ·have hi':B3 (V6 σ.hp σ.nx) i = some b:=hi
  rw [e i] at hi'
  exact h.mine i b k hi'
def Oy (σ:St) (keep:List Nat) (F:St → Prop):Prop:=v8 (Af σ.sl keep) fun sl=>H3 σ.nx fun nx=>T1 (V6 σ.hp nx) fun hp=>F ⟨sl,nx,hp⟩
theorem Ja {σ:St} {keep:List Nat} {F:St → Prop} (h:Oy σ keep F):F ⟨Af σ.sl keep,σ.nx,V6 σ.hp σ.nx⟩:=V4 (F:=fun hp=>F ⟨Af σ.sl keep,σ.nx,hp⟩) (E5 (F:=fun nx=>T1 (V6 σ.hp nx) fun hp=>F ⟨Af σ.sl keep,nx,hp⟩) (V3 h))
section rules
variable {P:Program} {E:Env} {n:Nat} {ops:Array Oper} {rest:List Oper} {σ:St} {K:St → Prop} {Q:Exit → St → Prop}
theorem LT {l:List Oper} (keep:List Nat) (h:Oy σ keep fun σ'=>B8 P E n ops l σ' K):B8 P E n ops l σ K:=Ib (Ql keep) (Ja (F:=fun σ'=>B8 P E n ops l σ' K) h)
theorem TG {c:Code} (keep:List Nat) (h:Oy σ keep fun σ'=>HQ P E n c σ' Q):HQ P E n c σ Q:=⟨O6 (Ql keep) (Ja (F:=fun σ'=>HQ P E n c σ' Q) h).h⟩
theorem Vv {o:Oper} {l:List AV} (i:Nat) (keep:List Nat) (h:Oy (σ.frz i) keep fun σ'=>B8 P E n ops (o :: rest) σ' K):U1 P E n ops o rest l σ K:=P8 i (LT keep h)
end rules
end Go.Av
namespace Go.Av
open Go Go.RowKit
class P9 (G:Prop) where
 sub:Prop
 imp:sub → G
theorem al {G:Prop} [s:P9 G] (h:s.sub):G:=s.imp h
section
variable {P:Program} {E:Env} {n:Nat} {ops:Array Oper} {l:List Oper} {σ:St} {K:St → Prop} {Q:Exit → St → Prop} {c:Code} {S T f:Nat}
instance:P9 (B8 P E n ops l σ K):=⟨XO P E n ops l σ K,A4⟩
instance:P9 (D6 P E n c σ Q):=⟨Oj P E n c σ Q,QY⟩
instance:P9 (DQ P E n ops l σ K):=⟨Sv P E n ops l σ K,ZH⟩
instance {ag:Bool} {sz:Nat} {F:Bool → Nat → Prop} [I4 P T ag sz]:P9 (GR P T F):=⟨F ag sz,ZA⟩
instance {z:List Value} {F:List AV → Prop} [I1 P T z]:P9 (Oc P T F):=⟨F (z.map R4),XG⟩
instance {off sz:Nat} {F:Nat → Nat → Prop} [K6 P S f off sz]:P9 (IZ P S f F):=⟨F off sz,ZB⟩
instance {e sz:Nat} {F:Nat → Nat → Prop} [K8 P T e sz]:P9 (EC P T F):=⟨F e sz,Zo⟩
instance {len e sz:Nat} {F:Nat → Nat → Prop} [GN P T len e sz]:P9 (SW P T F):=⟨F len sz,ZC (e:=e)⟩
instance {A:Prop} [S9 P T]:P9 (Ac P T A):=⟨A,XH⟩
instance {A:Prop} [Fi P T]:P9 (Ux P T A):=⟨A,Zp⟩
instance {A:Prop} [DC P T]:P9 (HI P T A):=⟨A,Vh⟩
instance {A:Prop} [Ai P T]:P9 (Ck P T A):=⟨A,Ve⟩
instance {A:Prop} {k1 k2 k3:IntKind} [FI P T k1 k2 k3]:P9 (HH P T k1 k2 k3 A):=⟨A,Vf⟩
instance {A:Prop} {k:IntKind} [AJ P T k]:P9 (DM P T k A):=⟨A,ZD⟩
instance {A:Prop} {k1 k2:IntKind} [FH P T k1 k2]:P9 (HG P T k1 k2 A):=⟨A,Vg⟩
instance {zs:List Value} {pl:List (Nat × Nat)} {F:List AV → List (Nat × Nat) → Prop} [I1 P T zs] [R9 P T pl]:P9 (EU P T F):=⟨F (zs.map R4) pl,Vi⟩
instance {e sz bs:Nat} {z:List Value} {F:Nat → Nat → Nat → List AV → Prop} [K8 P T e sz] [I1 P e z] [M1 P e bs]:P9 (Bd P T F):=⟨G1 (z.length = sz) (F e sz bs (z.map R4)),fun h=>ZE h.h h.k⟩
instance {k e:Nat} {t:TypeDesc} {z:Value} {F:TypeDesc → AV → Prop} [BE P T k e t z]:P9 (Od P T F):=⟨F t (R4 z),ZF⟩
instance (priority:=low) {α:Type} {l:List α} {F:Nat → Prop}:P9 (IY l F):=⟨F l.length,Yz⟩
instance {α β:Type} {l:List β} {f:β → α} {F:Nat → Prop}:P9 (IY (l.map f) F):=⟨F l.length,Vb⟩
instance (priority:=low) {k:IntKind} {m:Int} {F:AV → Prop} [O0 P S k] [S9 P T]:P9 (k7 P S T (.v (.int k m)) F):=⟨F (.str (Utf8.encode m).data.toList),QN⟩
instance {k k':IntKind} {m:Int} {F:AV → Prop} [O0 P T k] [O0 P S k']:P9 (k7 P S T (.v (.int k' m)) F):=⟨F (.v (.int k (k.wrap m))),SX⟩
instance (priority:=high) {k':IntKind} {b:UInt8} {F:AV → Prop} [O0 P T .i64] [O0 P S k']:P9 (k7 P S T (.v (.int k' b.toNat)) F):=⟨F (.v (.int .i64 b.toNat)),Vt⟩
variable {A B p:Prop} {b:Bool}
instance (priority:=low):P9 (N0 b true A B):=⟨(b = true → A) ∧ (b = false → B),fun h=>So h.1 h.2⟩
instance (priority:=low):P9 (N0 b false A B):=⟨(b = false → A) ∧ (b = true → B),fun h=>Sp h.1 h.2⟩
instance (priority:=low):P9 (o5 b A B):=⟨(b = true → A) ∧ (b = false → B),fun h=>XF h.1 h.2⟩
instance:P9 (N0 (!b) true A B):=⟨(b = false → A) ∧ (b = true → B),fun h=>QV h.1 h.2⟩
instance:P9 (N0 (!b) false A B):=⟨(b = true → A) ∧ (b = false → B),fun h=>QX h.1 h.2⟩
instance:P9 (o5 (!b) A B):=⟨(b = false → A) ∧ (b = true → B),fun h=>Vd h.1 h.2⟩
instance [Decidable p]:P9 (N0 (decide p) true A B):=⟨(p → A) ∧ (¬ p → B),fun h=>Sm h.1 h.2⟩
instance [Decidable p]:P9 (N0 (decide p) false A B):=⟨(¬ p → A) ∧ (p → B),fun h=>Sn h.1 h.2⟩
instance [Decidable p]:P9 (o5 (decide p) A B):=⟨(p → A) ∧ (¬ p → B),fun h=>XE h.1 h.2⟩
instance (priority:=high) [Decidable p]:P9 (N0 (!decide p) true A B):=⟨(¬ p → A) ∧ (p → B),fun h=>QT h.1 h.2⟩
instance (priority:=high) [Decidable p]:P9 (N0 (!decide p) false A B):=⟨(p → A) ∧ (¬ p → B),fun h=>QU h.1 h.2⟩
instance (priority:=high) [Decidable p]:P9 (o5 (!decide p) A B):=⟨(¬ p → A) ∧ (p → B),fun h=>Vc h.1 h.2⟩
instance {F:List (Nat × AV) → Prop}:P9 (XW F):=⟨∀ ex,F ex,Zu⟩
variable {α β:Type}
class Jb (G:Prop) where
 side:Prop
 sub:Prop
 imp:side → sub → G
instance (priority:=low) {l:List α} {i:Int} {F:α → Prop}:Jb (N5 l i F):=⟨0 ≤ i ∧ i < l.length,∀ x,l[i.toNat]? = some x → F x,fun h k=>QL h.1 h.2 k⟩
instance {l:List β} {f:β → α} {i:Int} {F:α → Prop}:Jb (N5 (l.map f) i F):=⟨0 ≤ i ∧ i < l.length,∀ x,l[i.toNat]? = some x → F (f x),fun h k=>DN h.1 h.2 k⟩
instance (priority:=1010) {l:List β} {f:β → α} {k:Nat} {F:α → Prop}:Jb (N5 (l.map f) (k:Int) F):=⟨0 ≤ k ∧ k < l.length,∀ x,l[k]? = some x → F (f x),fun h kk=>f9 h.2 kk⟩
instance (priority:=1020) {l:List UInt8} {i:Int} {F:UInt8 → Prop}:Jb (N5 l i F):=⟨0 ≤ i ∧ i < l.length,∀ x,l[i.toNat]? = some x → x.toNat < 256 → F x,fun h k=>Vs h.1 h.2 k⟩
instance (priority:=1020) {l:List UInt8} {f:UInt8 → α} {i:Int} {F:α → Prop}:Jb (N5 (l.map f) i F):=⟨0 ≤ i ∧ i < l.length,∀ x,l[i.toNat]? = some x → x.toNat < 256 → F (f x),fun h k=>Qk h.1 h.2 k⟩
instance (priority:=high) {l:List UInt8} {f:UInt8 → α} {k:Nat} {F:α → Prop}:Jb (N5 (l.map f) (k:Int) F):=⟨0 ≤ k ∧ k < l.length,∀ x,l[k]? = some x → x.toNat < 256 → F (f x),fun h kk=>Ox h.2 kk⟩
instance {e sz:Nat} {l:List UInt8} {F:AV → Prop} [K8 P S e sz] [O0 P e .u8] [S9 P T]:P9 (k7 P S T (.sl 1 (l.map fun b=>[.v (.int .u8 b.toNat)])) F):=⟨F (.str l),QM (e:=e) (sz:=sz)⟩
instance {e sz:Nat} {l:List UInt8} {F:AV → Prop} [S9 P S] [K8 P T e sz] [O0 P e .u8]:Jb (k7 P S T (.str l) F):=⟨0 ≤ l.length ∧ l.length ≤ 9223372036854775807,F (.sl 1 (l.map fun b=>[.v (.int .u8 b.toNat)])),fun h k=>Oe (e:=e) (sz:=sz) h.2 k⟩
class Xe (G:Prop) (α β:outParam Type) (l:outParam (List β)) (f:outParam (β → α)) (i:outParam Int) (F:outParam (α → Prop)):Prop where
 eq:G = N5 (l.map f) i F
instance {l:List β} {f:β → α} {i:Int} {F:α → Prop}:Xe (N5 (l.map f) i F) α β l f i F:=⟨rfl⟩
class Xf (G:Prop) (α:outParam Type) (l:outParam (List α)) (i:outParam Int) (F:outParam (α → Prop)):Prop where
 eq:G = N5 l i F
instance {l:List α} {i:Int} {F:α → Prop}:Xf (N5 l i F) α l i F:=⟨rfl⟩
theorem Z1 {G:Prop} {l:List β} {f:β → α} {i:Int} {x:β} {F:α → Prop} [s:Xe G α β l f i F] (kk:F (f x)) (h:l[i.toNat]? = some x:=by assumption) (h0:0 ≤ i:=by omega):G:=s.eq ▸ A3 h h0 kk
theorem Z2 {G:Prop} {l:List α} {i:Int} {x:α} {F:α → Prop} [s:Xf G α l i F] (kk:F x) (h:l[i.toNat]? = some x:=by assumption) (h0:0 ≤ i:=by omega):G:=s.eq ▸ k8 h h0 kk
class Xg (G:Prop) (p A:outParam Prop):Prop where
 imp:p → A → G
instance:Xg (G1 p A) p A:=⟨G9⟩
theorem Z3 {G:Prop} [s:Xg G p A] (k:A) (h:p:=by first | omega | exact Eq.refl _ | exact ⟨Eq.refl _,by omega⟩ | (simp only [List.length_map];omega) | exact Zv rfl | exact Vu fun _=>rfl | (constructor <;> (simp only [M7,J6,List.length_cons,List.length_nil,List.length_map];omega))):G:=s.imp h k
theorem Z4 {G:Prop} [s:Jb G] (k:s.sub) (h:s.side:=by (conv=>whnf);omega):G:=s.imp h k
class Qm (G:Prop) where
 side:Prop
 sub:Prop
 imp:side → sub → G
instance {fuel:Nat} {l:List Bool}:Qm (D8 P E n ops fuel l σ K):=⟨Nat.beq l.length ops.size = true ∧ Region.noSelect ops = true,XV P E n ops fuel l σ K,fun h k=>Vm h.2 h.1 k⟩
instance {done:List Bool} {mb:List MB}:Qm (D7 P E n ops done mb σ K):=⟨Nat.beq done.length ops.size = true ∧ Cn ops = true,XX P E n ops done mb σ K,fun h k=>A0 h.1 h.2 k⟩
instance {done:List Bool} {mb:List MB} {base:List (Nat × AV)} {k:Nat} {ex:List (Nat × AV)} {σ':St}:Qm (HW P E n ops done mb K base k ex σ') :=
 ⟨(σ'.sl,(c8 mb).map (look (σ'.sl.take k)),Ae n (σ'.sl.take k) mb) = (σ'.sl.take k ++ ex,(c8 mb).map (look base),true) ∧ true = true,
  v8 (σ'.sl.take k) fun sl2=>T1 σ'.hp fun hp2=>H3 σ'.nx fun nx2=>FQ done fun done2=>KR mb fun mb2=>D7 P E n ops done2 mb2 ⟨sl2,nx2,hp2⟩ K,
  fun h k=>Vo (congrArg (·.1) h.1) (congrArg (·.2.1) h.1) (congrArg (·.2.2) h.1) k⟩
instance {id:Nat} [hm:Ic P]:Qm (Ad P E n id ops σ Q):=⟨ops.toList.all Ng = true ∧ BH ops = true,DQ P E n ops ops.toList σ fun σ'=>Q .normal σ',fun h k=>Xd h.1 h.2 k⟩
theorem Z5 {G:Prop} [s:Qm G] (k:s.sub) (h:s.side:=by exact ⟨by rfl,by kernel_rfl⟩):G:=s.imp h k
theorem S1 {G H:Prop} (k:H) (h:H → G:=by first | exact Si | exact Sj | exact Sk | exact Sl | exact XC | exact XD | exact QY | exact al):G:=h k
theorem F3 {f:Nat} {fn:Func} {code:Code} {args:List AV} {r:AV} {rs:Array ResultVar} (hf:P.funcs[f]? = some fn) (n:Nat)
  (h : (∀ a ∈ args,Rd a) → ∀ E,E.n0 = 0 → D6 P E n code ⟨BG args 0,0,[]⟩ (E0 P rs r)) (hname : (fn.name == "runtime.NumGoroutine") = false := by kernel_rfl) (hb : fn.body = some code := by rfl) (hn : fn.ntmps = n := by rfl) (hrs : fn.results = rs := by rfl)
  (hargs:Nat.ble args.length n = true:=by rfl) (hcl:K2 r = true:=by rfl) (hcells:∀ t T,rs = #[.cell t T] → ∃ sz,I4 P T true sz ∧ ∀ l,r = .agg l → l.length = sz:=by intro t T h;cases h):B4 P f args r :=
 Mr hf hname hb hn hrs hargs hcl hcells h
theorem J1 {f:Nat} {fn:Func} {code:Code} {args:List AV} {r:AV} {rs:Array ResultVar} {m0 m1:Nat} {hp0 hp1:Hp} (hf:P.funcs[f]? = some fn) (n:Nat)
  (h : ∀ E,E.n0 = m0 → D6 P E n code ⟨BG args 0,m0,hp0⟩ (E1 P E n rs m1 hp1 r)) (hname : (fn.name == "runtime.NumGoroutine") = false := by kernel_rfl) (hb : fn.body = some code := by rfl) (hn : fn.ntmps = n := by rfl) (hrs : fn.results = rs := by rfl)
  (hargs:Nat.ble args.length n = true:=by rfl):B9 P f m0 hp0 args m1 hp1 r :=
 Mt hf hname hb hn hrs hargs h
theorem nc {d f:Nat} {xs:List Operand} {ts:Array TypeId} {L args l:List AV} {r:AV} {m0 m1:Nat} {hp0 hp1:Hp} {ty:TypeId} {pos:String} {after:Array Edge} {rest:List Oper} (ι off:List Nat) (hc:B9 P f m0 hp0 args m1 hp1 r)
  (hev:e7 (F1 σ) xs = some L) (hL:Au (L1 ι) (L1 off) args = L) (hB:(V2 m0 args && Nat.beq ι.length m0 && DW ι σ.nx && Be hp0 hp1 m0 && N2 m0 hp0 && N2 m1 hp1 && Nat.ble m0 m1 && Nat.blt d n) = true) (hblk:FR σ.hp hp0 ι off m0)
  (k:R1 (M8 (gρ ι m0 σ.nx) (gs ι m0 σ.hp) r) fun r2=>T1 (X0 (gρ ι m0 σ.nx) (gs ι m0 σ.hp) hp1 ++ σ.hp) fun hp2=>H3 (σ.nx + (m1 - m0)) fun nx2=>B8 P E n ops rest (St.put ⟨σ.sl,nx2,hp2⟩ d r2) K) :
  U1 P E n ops ⟨some d, .call ⟨.value (.func f),⟨xs⟩,ts⟩,ty,pos,after,none⟩ rest l σ K:=by
 simp only [Bool.and_eq_true] at hB
 obtain ⟨⟨⟨⟨⟨⟨⟨h1,h2⟩,h3⟩,h4⟩,h5⟩,h6⟩,h7⟩,h8⟩:=hB
 exact ⟨P5 ι off hc hev hL h1 h2 h3 hblk h4 h5 h6 h7 h8 k⟩
end
end Go.Av
