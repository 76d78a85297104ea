/- Regions that draw their order, of quiet operations. Blocks under other numbers; calls that are handed memory of one's own. Regions that draw their order and write: every order, pure operations first. Regions that draw their order: what only makes or reads what nobody writes may happen at any time. What came in, read as abstract values; and a law's contract out of a call. One word for many steps of the walk: what a goal asks instead. -/
import Derived.Test.YtbhegmcbpolemaaDoorTE2
import Derived.Orders
import Derived.Carry
import Derived.RowKit
import Derived.OpenShut
import Derived.KernelRfl
set_option linter.unusedSimpArgs false
set_option linter.unusedVariables false
set_option linter.unnecessarySimpa false
namespace Go.Av
open Go Go.RowKit
class En (P:Program):Prop where
 out:P.follows .mixedOrders = true
section congr
variable {P:Program} {hp:Hp} {ev ev':Operand → Option AV} {F:AV → Prop}
theorem w8:∀ {l:List Operand},(∀ x ∈ l,ev x = ev' x) → P9 ev l = P9 ev' l
 | [],_=>rfl
 | x :: r,h=>by simp only [P9,h x (by simp),w8 (l:=r) fun y hy=>h y (by simp [hy])]
theorem Bt:∀ {l:List (Nat × Operand)},(∀ x ∈ l.map (·.2),ev x = ev' x) → V5 ev l = V5 ev' l
 | [],_=>rfl
 | (i,x) :: r,h=>by simp only [V5,h x (by simp),Bt (l:=r) fun y hy=>h y (by simp at hy ⊢;exact .inr hy)]
theorem FL {m:Nat} {o:Option Operand} (h:∀ x,o = some x → ev x = ev' x):V0 ev m o = V0 ev' m o:=by
 cases o with
 | none=>rfl
 | some x=>simp only [V0,h x rfl]
theorem Kl {op:Op} (h:∀ x ∈ op.operands.toList,ev x = ev' x) (ho:w7 P op ev hp F):w7 P op ev' hp F:=by
 unfold w7 at ho
 split at ho
 ·rename_i x;rw [h x (by simp [Op.operands])] at ho;exact ho
 ·rename_i x;rw [h x (by simp [Op.operands])] at ho;exact ho
 ·rename_i c a b
  rw [h c (by simp [Op.operands]),h a (by simp [Op.operands]),h b (by simp [Op.operands])] at ho;exact ho
 ·rename_i op T x y T2;rw [h x (by simp [Op.operands]),h y (by simp [Op.operands])] at ho;exact ho
 ·rename_i T x;rw [h x (by simp [Op.operands])] at ho;exact ho
 ·rename_i T x;rw [h x (by simp [Op.operands])] at ho;exact ho
 ·rename_i T x;rw [h x (by simp [Op.operands])] at ho;exact ho
 ·rename_i T x;rw [h x (by simp [Op.operands])] at ho;exact ho
 ·rename_i S x f;rw [h x (by simp [Op.operands])] at ho;exact ho
 ·rename_i T x y;rw [h x (by simp [Op.operands]),h y (by simp [Op.operands])] at ho;exact ho
 ·rename_i T x y;rw [h x (by simp [Op.operands]),h y (by simp [Op.operands])] at ho;exact ho
 ·rename_i x;rw [h x (by simp [Op.operands])] at ho;exact ho
 ·rename_i S T x;rw [h x (by simp [Op.operands])] at ho;exact ho
 ·rename_i x T;rw [h x (by simp [Op.operands,Call.operands])] at ho;exact ho
 ·rename_i x y T U;rw [h x (by simp [Op.operands,Call.operands]),h y (by simp [Op.operands,Call.operands])] at ho;exact ho
 ·rename_i x y T U;rw [h x (by simp [Op.operands,Call.operands]),h y (by simp [Op.operands,Call.operands])] at ho;exact ho
 ·rename_i f args ts
  rw [w8 (ev':=ev') (fun x hx=>h x (by simp [Op.operands,Call.operands];exact .inr hx))] at ho;exact ho
 ·rename_i t args ts
  rw [h (.tmp t) (by simp [Op.operands,Call.operands]),w8 (ev':=ev') (fun x hx=>h x (by simp [Op.operands,Call.operands];exact .inr hx))] at ho;exact ho
 ·rename_i T parts
  rw [Bt (ev':=ev') (fun x hx=>h x (by simpa [Op.operands] using hx))] at ho;exact ho
 ·rename_i T len parts
  rw [Bt (ev':=ev') (fun x hx=>h x (by simpa [Op.operands] using hx))] at ho;exact ho
 ·rename_i T x y ok;rw [h x (by simp [Op.operands]),h y (by simp [Op.operands])] at ho;exact ho
 ·rename_i T x lo hi
  have e1:∀ m,V0 ev m lo = V0 ev' m lo:=fun m=>FL fun y hy=>h y (by subst hy;simp [Op.operands])
  have e2:∀ m,V0 ev m hi = V0 ev' m hi:=fun m=>FL fun y hy=>h y (by subst hy;simp [Op.operands])
  unfold EB at ho
  simp only [e1,e2] at ho
  rw [h x (by simp [Op.operands])] at ho
  exact ho
 ·rename_i x k;rw [h x (by simp [Op.operands])] at ho;exact ho
 ·rename_i f xs
  rw [w8 (ev':=ev') (fun x hx=>h x (by simpa [Op.operands] using hx))] at ho;exact ho
 ·exact ho.elim
end congr
def Bu (f:Nat → Option AV):Operand → Option AV
 | .tmp t=>f t
 | .const c=>some (Q1 c)
 | .global g=>some (It g)
 | .func f=>some (.v (.func (.func f) #[] #[]))
theorem Eo (σ:St):D8 σ = Bu (look σ.sl):=by funext x;cases x <;> rfl
open Classical in
noncomputable def rs (op:Op) (ev:Operand → Option AV):Operand → Option AV:=fun x=>if x ∈ op.operands.toList then ev x else none
def Y0 (f:Nat → Option AV) (d:Nat) (a:AV):Nat → Option AV:=fun s=>if d = s then some a else f s
section quiet
variable {P:Program} {E:Env} {n nx:Nat} {hp:Hp} {ev:Operand → Option AV} {ops:Array Oper} {σ:St} {K:(Nat → Option AV) → Prop} {f f':Nat → Option AV}
theorem MN {op:Op} {ty:Nat} {av:AV} {ev ev':Operand → Option AV} (h:∀ x a,ev x = some a → ev' x = some a) (hq:E2 P E nx hp ev op ty av):E2 P E nx hp ev' op ty av :=
 fun d pos after θ a w K hs hk=>hq d pos after θ a w K ⟨hs.fr,hs.owns,hs.X,fun hx=>hs.rel (h _ _ hx),hs.apart,hs.fresh,hs.tab⟩ hk
theorem Km {op:Op} {ty:Nat} {F:AV → Prop} (h:w7 P op ev hp F):∃ av,E2 P E nx hp (rs op ev) op ty av ∧ F av :=
 Nl (Kl (fun x hx=>by simp [rs,hx]) h)
def QS (P:Program) (E:Env) (nx:Nat) (hp:Hp) (ops:Array Oper) (o:Oper) (f:Nat → Option AV) (av:AV):Prop :=
 match o.guard with
 | none=>E2 P E nx hp (rs o.op (Bu f)) o.op o.type av
 | some (j,g)=>∃ dj,(ops[j]?).bind (·.dst) = some dj ∧ ((f dj = some (.v (.bool g)) ∧ E2 P E nx hp (rs o.op (Bu f)) o.op o.type av) ∨ (f dj = some (.v (.bool (!g))) ∧ av = .v undef) ∨ ∃ t,f dj = some (.v (.tuple t)) ∧ av = .v undef)
theorem MO {op:Op} (h:∀ x ∈ op.operands.toList,Bu f x = Bu f' x):rs op (Bu f) = rs op (Bu f'):=by
 funext x
 unfold rs
 split
 ·rename_i hx;exact h x hx
 ·rfl
theorem QS.congr {o:Oper} {av:AV} (h:∀ d ∈ o.looksAt ops,f d = f' d) (hq:QS P E nx hp ops o f av):QS P E nx hp ops o f' av:=by
 have hr:rs o.op (Bu f) = rs o.op (Bu f'):=MO fun x hx=>by
  cases x with
  | tmp t=>exact h t (List.mem_append_left _ (List.mem_filterMap.2 ⟨.tmp t,hx,rfl⟩))
  | _=>rfl
 unfold QS at hq ⊢
 split at hq
 ·rw [← hr];exact hq
 ·rename_i j g hg
  obtain ⟨dj,hj,hq⟩:=hq
  have hd:f dj = f' dj:=h dj (by simp [Oper.looksAt,hg,hj])
  refine ⟨dj,hj,?_⟩
  rw [← hr, ← hd]
  exact hq
def QW (P:Program) (E:Env) (n nx:Nat) (hp:Hp) (ops:Array Oper):List Oper → (Nat → Option AV) → ((Nat → Option AV) → Prop) → Prop
 | [],f,K=>K f
 | o :: r,f,K=>∃ d av,o.dst = some d ∧ d < n ∧ QS P E nx hp ops o f av ∧ QW P E n nx hp ops r (Y0 f d av) K
theorem Kn {d e:Nat} {a b:AV} (h:d ≠ e):Y0 (Y0 f d a) e b = Y0 (Y0 f e b) d a:=by
 funext s
 unfold Y0
 by_cases h1:e = s
 ·subst h1;simp [h]
 ·simp [h1]
theorem QW.swap {x y:Oper} {r:List Oper} (hap:x.apart ops y = true) (h:QW P E n nx hp ops (x :: y :: r) f K):QW P E n nx hp ops (y :: x :: r) f K:=by
 obtain ⟨dx,ax,hdx,hnx,hqx,dy,ay,hdy,hny,hqy,hr⟩:=h
 obtain ⟨h1,h2,h3⟩:=Oper.apart_spec hap
 have hne:dx ≠ dy:=fun e=>h2 dx hdx (e ▸ hdy)
 have hy:QS P E nx hp ops y f ay:=hqy.congr fun s hs=>by
  have:dx ≠ s:=fun e=>h1 dx hdx (e ▸ hs)
  simp [Y0,this]
 have hx:QS P E nx hp ops x (Y0 f dy ay) ax:=hqx.congr fun s hs=>by
  have:dy ≠ s:=fun e=>h3 dy hdy (e ▸ hs)
  simp [Y0,this]
 exact ⟨dy,ay,hdy,hny,hy,dx,ax,hdx,hnx,hx,by rw [← Kn hne];exact hr⟩
theorem QW.first {o:Oper}:∀ {pre post:List Oper} {f:Nat → Option AV},(∀ p ∈ pre,p.apart ops o = true) → QW P E n nx hp ops (pre ++ o :: post) f K → QW P E n nx hp ops (o :: (pre ++ post)) f K
 | [],post,f,_,h=>h
 | p :: pre,post,f,hap,h=>by
   obtain ⟨d,av,hd,hn,hq,hr⟩:=h
   have:=QW.first (pre:=pre) (fun q hq=>hap q (by simp [hq])) hr
   exact QW.swap (hap p (by simp)) ⟨d,av,hd,hn,hq,this⟩
def Np (ops:Array Oper) (i j:Nat):Bool :=
 match ops[i]?,ops[j]? with
 | some oi,some oj=>oi.after.any (fun e=>Region.binds .any e && Nat.beq e.on j) || oj.apart ops oi
 | _,_=>true
def Nq (ops:Array Oper) (i:Nat):Bool :=
 match ops[i]? with
 | some o=>o.after.all fun e=>!Region.binds .any e || Nat.blt e.on i
 | none=>true
def n9 (ops:Array Oper):Bool:=(List.range ops.size).all fun i=>Nq ops i && (List.range i).all fun j=>Np ops i j
theorem JR (h:n9 ops = true) {i j:Nat} {oi oj:Oper} (hij:j < i) (hi:ops[i]? = some oi) (hj:ops[j]? = some oj):(∃ e ∈ oi.after,Region.binds .any e = true ∧ e.on = j) ∨ oj.apart ops oi = true:=by
 have hlt:i < ops.size:=(Array.getElem?_eq_some_iff.1 hi).1
 unfold n9 at h
 rw [List.all_eq_true] at h
 have h1:=h i (List.mem_range.2 hlt)
 rw [Bool.and_eq_true,List.all_eq_true] at h1
 have h2:=h1.2 j (List.mem_range.2 hij)
 unfold Np at h2
 rw [hi,hj] at h2
 simp only [Bool.or_eq_true] at h2
 rcases h2 with h2 | h2
 ·left
  obtain ⟨k,hk,h3⟩:=Array.any_eq_true.1 h2
  simp only [Bool.and_eq_true] at h3
  exact ⟨oi.after[k],Array.getElem_mem hk,h3.1,Nat.eq_of_beq_eq_true h3.2⟩
 ·exact .inr h2
theorem JS (h:n9 ops = true) {i:Nat} {oi:Oper} (hi:ops[i]? = some oi):∀ e ∈ oi.after,Region.binds .any e = true → e.on < i:=by
 have hlt:i < ops.size:=(Array.getElem?_eq_some_iff.1 hi).1
 unfold n9 at h
 rw [List.all_eq_true] at h
 have h1:=h i (List.mem_range.2 hlt)
 rw [Bool.and_eq_true] at h1
 have h2:=h1.1
 unfold Nq at h2
 rw [hi] at h2
 intro e he hb
 simp only [Array.all_eq_true_iff_forall_mem,Bool.or_eq_true] at h2
 have:=h2 e he
 rw [hb] at this
 simpa [Nat.blt_eq] using this
def left (ops:Array Oper) (listed:Array Bool):List Nat:=(List.range ops.size).filter fun i=>!listed.getD i true
def JT (E:Env) (n nx:Nat) (hp:Hp) (f:Nat → Option AV) (a:Act) (w:World):Prop:=∃ σ:St,(∀ s,look σ.sl s = f s) ∧ σ.nx = nx ∧ σ.hp = hp ∧ T4 E n σ a w
theorem Qh {o:Oper} {d:Nat} {av:AV} {a:Act} {w:World} {Q:Exit → Act → World → Prop} {C:Act → World → Prop} {i:Nat} (hi:ops[i]? = some o) (hd:o.dst = some d) (hn:d < n) (hq:QS P E nx hp ops o f av) (hs:JT E n nx hp f a w)
  (hk:∀ a' w',JT E n nx hp (Y0 f d av) a' w' → C a' w'):wpOp P ops Q i C a w:=by
 obtain ⟨σ,hl,rfl,rfl,θ,hs⟩:=hs
 have hev:Bu f = D8 σ:=by rw [Eo];congr 1;funext s;exact (hl s).symm
 have step:∀ {v:Value} {w':World},Below w.heap.size w w' → C5 (cx E θ σ w') av v → C (a.put (some d) v) w':=fun hb hr =>
  hk _ _ ⟨σ.put d av,fun s=>by simp only [St.put,E3,Y0,hl],rfl,rfl,θ,(hs.below hb).put hn hr⟩
 unfold wpOp
 simp only [hi]
 have wantV:∀ {t:Nat} {b:Bool},f t = some (.v (.bool b)) → a.tmps[t]? = some (.bool b):=by
  intro t b hb
  have h1:=(hs.slots t _ (by rw [hl];exact hb)).val
  rw [Array.getD_eq_getD_getElem?] at h1
  cases hg:a.tmps[t]? with
  | none=>rw [hg] at h1;exact absurd h1 (by simp [undef])
  | some v=>rw [hg] at h1;simp at h1;rw [h1]
 have run:E2 P E σ.nx σ.hp (rs o.op (Bu f)) o.op o.type av → o.wp P a w C Q:=by
  intro hq
  have hq':E2 P E σ.nx σ.hp (D8 σ) o.op o.type av:=MN (fun x b hx=>by
   unfold rs at hx
   split at hx
   ·rw [← hev];exact hx
   ·cases hx) hq
  have hv:=hq' o.dst o.pos o.after θ a w (fun v w'=>Below w.heap.size w w' ∧ C5 (cx E θ σ w') av v) hs.evT fun v w' hb hr=>⟨hb,hr⟩
  have hvw:BP P o a w (fun v w'=>Below w.heap.size w w' ∧ C5 (cx E θ σ w') av v):=by
   have e:BP P o a w = BP P ⟨o.dst,o.op,o.type,o.pos,o.after,none⟩ a w:=by
    funext K
    unfold BP
    have:execOp a.eval o = execOp a.eval ⟨o.dst,o.op,o.type,o.pos,o.after,none⟩:=by
     obtain ⟨_,op,_,_,_,_⟩:=o
     cases op <;> rfl
    rw [this]
   rw [e]
   exact hv
  exact GO hvw fun v w' hv=>by rw [hd];exact step hv.1 hv.2
 unfold QS at hq
 split at hq
 ·rename_i hg
  rw [if_pos (by simp [Region.wanted,hg])]
  exact .inl (run hq)
 ·rename_i j g hg
  obtain ⟨dj,hj,hq⟩:=hq
  rcases hq with ⟨hb,hq⟩ | ⟨hb,rfl⟩ | ⟨t,hb,rfl⟩
  ·have:yielded ops a.tmps j = some g:=by simp [yielded,hj,wantV hb]
   rw [if_pos (by simp [Region.wanted,hg,this])]
   exact .inl (run hq)
  ·have:yielded ops a.tmps j = some (!g):=by simp [yielded,hj,wantV hb]
   rw [if_neg (by simp [Region.wanted,hg,this])]
   rw [hd]
   exact step (Below.refl _ _) (.im (.v _))
  ·have:yielded ops a.tmps j = none:=by
    have h1:=(hs.slots dj _ (by rw [hl];exact hb)).val
    rw [Array.getD_eq_getD_getElem?] at h1
    unfold yielded
    rw [hj]
    simp only [Option.bind_some]
    cases hg:a.tmps[dj]? with
    | none=>rfl
    | some v=>rw [hg] at h1;simp at h1;rw [h1]
   rw [if_neg (by simp [Region.wanted,hg,this])]
   rw [hd]
   exact step (Below.refl _ _) (.im (.v _))
theorem Y8 (p:Nat → Bool) (m:Nat) {pre post:List Nat} {i:Nat} (h:(List.range m).filter p = pre ++ i :: post):(∀ j ∈ pre,j < i) ∧ i ∉ pre ∧ i ∉ post:=by
 have hs:((List.range m).filter p).Pairwise (· < ·):=List.Pairwise.filter _ (List.pairwise_lt_range)
 rw [h,List.pairwise_append] at hs
 obtain ⟨_,h2,h3⟩:=hs
 rw [List.pairwise_cons] at h2
 have h4:∀ j ∈ pre,j < i:=fun j hj=>h3 j hj i (by simp)
 exact ⟨h4,fun hc=>Nat.lt_irrefl _ (h4 i hc),fun hc=>Nat.lt_irrefl _ (h2.1 i hc)⟩
theorem Gt {listed:Array Bool} {i:Nat} {pre post:List Nat} (h:left ops listed = pre ++ i :: post):left ops (listed.setIfInBounds i true) = pre ++ post:=by
 obtain ⟨_,h2,h3⟩:=Y8 _ _ h
 have e:left ops (listed.setIfInBounds i true) = (left ops listed).filter (fun j=>decide (j ≠ i)):=by
  unfold left
  rw [List.filter_filter]
  congr 1
  funext j
  by_cases hj:j = i
  ·subst hj
   by_cases hlt:j < listed.size
   ·simp [Array.getD,hlt]
   ·simp [Array.getD,hlt]
  ·have:(listed.setIfInBounds i true).getD j true = listed.getD j true:=by
    rw [Array.getD_eq_getD_getElem?,Array.getD_eq_getD_getElem?,Array.getElem?_setIfInBounds_ne (Ne.symm hj)]
   rw [this]
   simp [hj]
 rw [e,h,List.filter_append,List.filter_cons_of_neg (by simp)]
 congr 1
 ·exact List.filter_eq_self.2 fun j hj=>by simp;exact fun e=>h2 (e ▸ hj)
 ·exact List.filter_eq_self.2 fun j hj=>by simp;exact fun e=>h3 (e ▸ hj)
def opsOf (ops:Array Oper) (l:List Nat):List Oper:=l.filterMap fun i=>ops[i]?
theorem EC {listed:Array Bool} {j:Nat} (hj:j ∈ Region.ready .any ops listed):j ∈ left ops listed:=by
 obtain ⟨h1,o,ho,_⟩:=mem_ready.1 hj
 exact List.mem_filter.2 ⟨List.mem_range.2 (Array.getElem?_eq_some_iff.1 ho).1,by rw [h1];rfl⟩
theorem Bv (l m:List Nat):opsOf ops (l ++ m) = opsOf ops l ++ opsOf ops m:=List.filterMap_append ..
theorem JU {i:Nat} {o:Oper} (h:ops[i]? = some o) (m:List Nat):opsOf ops (i :: m) = o :: opsOf ops m:=by simp [opsOf,h]
theorem MP (hdr:n9 ops = true) {listed:Array Bool} (hsz:listed.size = ops.size) {i:Nat} {r:List Nat} (h:left ops listed = i :: r):i ∈ Region.ready .any ops listed:=by
 have hi:i ∈ left ops listed:=by rw [h];simp
 obtain ⟨h1,h2⟩:=List.mem_filter.1 hi
 have hlt:=List.mem_range.1 h1
 refine mem_ready.2 ⟨by simpa using h2,ops[i],Array.getElem?_eq_getElem hlt,fun e he hb=>?_⟩
 have hbk:=JS hdr (Array.getElem?_eq_getElem hlt) e he hb
 cases hx:listed.getD e.on false with
 | true=>rfl
 | false =>
   exfalso
   have hlt2:e.on < listed.size:=by omega
   have hx2:listed.getD e.on true = false:=by
    simp [Array.getD,hlt2] at hx ⊢;exact hx
   have hm:e.on ∈ left ops listed:=List.mem_filter.2 ⟨List.mem_range.2 (by omega),by rw [hx2];rfl⟩
   have hs:(left ops listed).Pairwise (· < ·):=List.Pairwise.filter _ (List.pairwise_lt_range)
   rw [h] at hm hs
   rcases List.mem_cons.1 hm with h3 | h3
   ·omega
   ·have:=(List.pairwise_cons.1 hs).1 _ h3
    omega
theorem Pj (hdr:n9 ops = true) {Q:Exit → Act → World → Prop} (hK:∀ f' a' w',K f' → JT E n nx hp f' a' w' → Q .normal a' w'):∀ (fuel:Nat) (listed:Array Bool) (f:Nat → Option AV) (a:Act) (w:World),listed.size = ops.size →
  (left ops listed).length ≤ fuel → QW P E n nx hp ops (opsOf ops (left ops listed)) f K → JT E n nx hp f a w → wpAny P .any ops Q fuel listed a w:=by
 intro fuel
 induction fuel with
 | zero =>
   intro listed f a w hsz hlen hq hs
   have hnil:left ops listed = []:=List.eq_nil_of_length_eq_zero (by omega)
   rw [hnil] at hq
   refine ⟨?_,hK f a w hq hs⟩
   cases hr:Region.ready .any ops listed with
   | nil=>rfl
   | cons j r=>have:=EC (ops:=ops) (listed:=listed) (j:=j) (by rw [hr];simp);rw [hnil] at this;cases this
 | succ fuel ih =>
   intro listed f a w hsz hlen hq hs
   refine ⟨fun hr=>?_,fun i hi=>?_⟩
   ·cases hl:left ops listed with
    | nil=>rw [hl] at hq;exact hK f a w hq hs
    | cons i r=>have:=MP hdr hsz hl;rw [hr] at this;cases this
   ·obtain ⟨pre,post,hsplit⟩:=List.append_of_mem (EC hi)
    obtain ⟨hun,oi,hoi,haft⟩:=mem_ready.1 hi
    have hpre:=(Y8 _ _ hsplit).1
    rw [hsplit,Bv,JU hoi] at hq
    have hq':=QW.first (fun p hp=>by
     obtain ⟨j,hj,hpj⟩:=List.mem_filterMap.1 hp
     rcases JR hdr (hpre j hj) hoi hpj with ⟨e,he,hb,rfl⟩ | h
     ·exfalso
      have h1:=haft e he hb
      have h2:e.on ∈ left ops listed:=by rw [hsplit];simp [hj]
      have h3:=(List.mem_filter.1 h2).2
      have h4:listed.getD e.on true = false:=by simpa using h3
      by_cases hlt:e.on < listed.size
      ·simp [Array.getD,hlt] at h1 h4;rw [h1] at h4;cases h4
      ·simp [Array.getD,hlt] at h1
     ·exact h) hq
    obtain ⟨d,av,hd,hn,hqs,hr⟩:=hq'
    refine Qh hoi hd hn hqs hs fun a' w' hs'=>ih _ _ a' w' (by simpa using hsz) ?_ ?_ hs'
    ·rw [Gt hsplit]
     rw [hsplit] at hlen
     simp at hlen ⊢
     omega
    ·rw [Gt hsplit,Bv]
     exact hr
def DQ (P:Program) (E:Env) (n:Nat) (ops:Array Oper) (l:List Oper) (σ:St) (K:St → Prop):Prop :=
 QW P E n σ.nx σ.hp ops l (look σ.sl) fun f=>∃ τ:St,(∀ s,look τ.sl s = f s) ∧ τ.nx = σ.nx ∧ τ.hp = σ.hp ∧ K τ
theorem MQ (σ:St) (d:Nat) (a:AV):look (σ.put d a).sl = Y0 (look σ.sl) d a:=by
 funext s;simp only [St.put,E3,Y0]
theorem ED {l:List Oper} {d:Nat} {av:AV} {K:St → Prop}:DQ P E n ops l (σ.put d av) K → QW P E n σ.nx σ.hp ops l (Y0 (look σ.sl) d av) fun f=>∃ τ:St,(∀ s,look τ.sl s = f s) ∧ τ.nx = σ.nx ∧ τ.hp = σ.hp ∧ K τ:=by
 intro h
 unfold DQ at h
 rw [MQ] at h
 exact h
theorem Gu {d:Nat} {a:AV} (h:look σ.sl d = some a):look (σ.put d a).sl = look σ.sl:=by
 funext s
 simp only [St.put,E3]
 by_cases e:d = s
 ·subst e;rw [if_pos rfl,h]
 ·rw [if_neg e]
def MR (P:Program) (E:Env) (n:Nat) (ops:Array Oper) (l:List Oper) (σ:St) (K:St → Prop):Prop :=
 match l with
 | []=>K σ
 | ⟨some d,op,_,_,_,none⟩ :: rest=>cond (Nat.blt d n) (w7 P op (D8 σ) σ.hp fun av=>DQ P E n ops rest (σ.put d av) K) False
 | ⟨some d,op,_,_,_,some (j,g)⟩ :: rest=>match (ops[j]?).bind (·.dst) with
   | some dj=>cond (Nat.blt d n) (match look σ.sl dj with
     | some (.v (.bool b))=>I9 b g (w7 P op (D8 (σ.put dj (.v (.bool g)))) σ.hp fun av=>DQ P E n ops rest ((σ.put dj (.v (.bool g))).put d av) K)
       (DQ P E n ops rest ((σ.put dj (.v (.bool !g))).put d (.v undef)) K)
     | some (.v (.tuple t))=>DQ P E n ops rest (σ.put d (.v undef)) K
     | _=>False) False
   | none=>False
 | _=>False
theorem Qi {l:List Oper} {K:St → Prop} (h:MR P E n ops l σ K):DQ P E n ops l σ K:=by
 unfold MR at h
 split at h
 ·exact ⟨σ,fun _=>rfl,rfl,rfl,h⟩
 ·rename_i d op ty pos after rest
  obtain ⟨hd,h⟩:=cond_false h
  obtain ⟨av,hq,h⟩:=Km (E:=E) (nx:=σ.nx) (ty:=ty) h
  exact ⟨d,av,rfl,Nat.blt_eq ▸ hd,by unfold QS;rw [← Eo];exact hq,ED h⟩
 ·rename_i d op ty pos after j g rest
  split at h
  ·rename_i dj hj
   obtain ⟨hd,h⟩:=cond_false h
   split at h
   ·rename_i b hb
    cases hbg:(b == g) with
    | true =>
      have hbg:b = g:=by simpa using hbg
      subst hbg
      have h1:=h.t rfl
      obtain ⟨av,hq,h2⟩:=Km (E:=E) (nx:=σ.nx) (ty:=ty) h1
      have e:look (σ.put dj (.v (.bool b))).sl = look σ.sl:=Gu hb
      rw [Eo,e] at hq
      refine ⟨d,av,rfl,Nat.blt_eq ▸ hd,⟨dj,hj, .inl ⟨hb,hq⟩⟩,?_⟩
      have h3:=ED h2
      rw [e] at h3
      exact h3
    | false =>
      have hbg:b = !g:=by cases b <;> cases g <;> simp_all
      have h1:=h.f hbg
      have e:look (σ.put dj (.v (.bool !g))).sl = look σ.sl:=Gu (hbg ▸ hb)
      refine ⟨d,_,rfl,Nat.blt_eq ▸ hd,⟨dj,hj, .inr (.inl ⟨hbg ▸ hb,rfl⟩)⟩,?_⟩
      have h3:=ED h1
      rw [e] at h3
      exact h3
   ·rename_i t hb
    exact ⟨d,_,rfl,Nat.blt_eq ▸ hd,⟨dj,hj, .inr (.inr ⟨t,hb,rfl⟩)⟩,ED h⟩
   ·exact h.elim
  ·exact h.elim
 ·exact h.elim
theorem M3 {id:Nat} {Q:Exit → St → Prop} [hm:En P] (hdr:n9 ops = true) (h:DQ P E n ops ops.toList σ fun σ'=>Q .normal σ'):k5 P E n id ops σ Q:=by
 refine ⟨fun a w ⟨θ,hs⟩=>wp_region_any hm.out ?_⟩
 have hb:Below w.heap.size w { w with drawn:=w.drawn + 1 }:=Below.drew (Below.refl _ _)
 refine Pj hdr (K:=fun f=>∃ τ:St,(∀ s,look τ.sl s = f s) ∧ τ.nx = σ.nx ∧ τ.hp = σ.hp ∧ Q .normal τ) (fun f' a' w' hk hs'=>?_) ops.size _ (look σ.sl) a _ (by simp) ?_ ?_ ⟨σ,fun _=>rfl,rfl,rfl,θ,hs.below hb⟩
 ·obtain ⟨τ,h1,h2,h3,h4⟩:=hk
  obtain ⟨σ2,g1,g2,g3,θ2,hs2⟩:=hs'
  refine ⟨τ,h4,θ2,?_⟩
  have e1:σ2.nx = τ.nx:=by rw [g2,h2]
  have e2:σ2.hp = τ.hp:=by rw [g3,h3]
  have e3:∀ s,look τ.sl s = look σ2.sl s:=fun s=>by rw [h1,g1]
  have ec:cx E θ2 σ2 w' = cx E θ2 τ w':=by unfold cx;rw [e1,e2]
  exact ⟨hs2.size,hs2.defers,hs2.fr,fun s x hx=>by rw [← ec];exact hs2.slots s x (by rw [← e3];exact hx),fun i b hi=>by rw [← ec, ← e1];exact hs2.owns i b (by rw [e2];exact hi),fun i j b b' k hi hj=>hs2.apart i j b b' k (by rw [e2];exact hi) (by rw [e2];exact hj),fun i b k hi=>hs2.mine i b k (by rw [e2];exact hi),hs2.X,by rw [← e1, ← e2];exact hs2.base⟩
 ·unfold left
  exact Nat.le_trans (List.length_filter_le _ _) (by simp)
 ·have e:left ops (Array.replicate ops.size false) = List.range ops.size:=by
   unfold left
   refine List.filter_eq_self.2 fun i hi=>?_
   have:=List.mem_range.1 hi
   simp [Array.getD,this]
  rw [e]
  have e2:opsOf ops (List.range ops.size) = ops.toList:=by
   unfold opsOf
   apply List.ext_getElem?
   intro i
   have:∀ (m:Nat),m ≤ ops.size → (List.range m).filterMap (fun i=>ops[i]?) = ops.toList.take m:=by
    intro m
    induction m with
    | zero=>intro _;simp
    | succ m ih =>
      intro hm
      rw [List.range_succ,List.filterMap_append,ih (by omega),List.take_add_one]
      congr 1
      have hlt:m < ops.size:=by omega
      simp [hlt]
   rw [this ops.size (Nat.le_refl _)]
   congr 1
   exact List.take_of_length_le (by simp)
  rw [e2]
  exact h
end quiet
def GG {α:Type}:List α → (List α → Prop) → Prop
 | [],F=>F []
 | a :: r,F=>GG r fun s=>F (a :: s)
theorem EE {α:Type}:∀ {l:List α} {F:List α → Prop},GG l F → F l
 | [],F,h=>h
 | a :: r,F,h=>EE (l:=r) (F:=fun s=>F (a :: s)) h
mutual
def L5:AV → (AV → Prop) → Prop
 | .agg l,F=>V7 l fun l2=>F (.agg l2)
 | .tup l,F=>V7 l fun l2=>F (.tup l2)
 | .fo f l,F=>V7 l fun l2=>F (.fo f l2)
 | .ref i o,F=>F2 i fun i2=>F2 o fun o2=>F (.ref i2 o2)
 | .row i v m,F=>F2 i fun i2=>F2 v fun v2=>F (.row i2 v2 m)
 | .elt i v k o,F=>F2 i fun i2=>F2 v fun v2=>F (.elt i2 v2 k o)
 | .sub i v k o,F=>F2 i fun i2=>F2 v fun v2=>F (.sub i2 v2 k o)
 | .mp i,F=>F2 i fun i2=>F (.mp i2)
 | .any,F=>F .any
 | .v x,F=>F (.v x)
 | .str l,F=>F (.str l)
 | .iptr l,F=>F (.iptr l)
 | .sl sz l,F=>F (.sl sz l)
 | .fn f l,F=>F (.fn f l)
 | .err,F=>F .err
 | .own e sz l,F=>F (.own e sz l)
def V7:List AV → (List AV → Prop) → Prop
 | [],F=>F []
 | x :: r,F=>L5 x fun x2=>V7 r fun r2=>F (x2 :: r2)
end
mutual
theorem o0:∀ {a:AV} {F:AV → Prop},L5 a F → F a
 | .agg l,F,h=>V8 (l:=l) (F:=fun l2=>F (.agg l2)) (by simpa only [L5] using h)
 | .tup l,F,h=>V8 (l:=l) (F:=fun l2=>F (.tup l2)) (by simpa only [L5] using h)
 | .fo f l,F,h=>V8 (l:=l) (F:=fun l2=>F (.fo f l2)) (by simpa only [L5] using h)
 | .ref i o,F,h=>by simp only [L5] at h;exact D2 (D2 h)
 | .row i v m,F,h=>by simp only [L5] at h;exact D2 (D2 h)
 | .elt i v k o,F,h=>by simp only [L5] at h;exact D2 (D2 h)
 | .sub i v k o,F,h=>by simp only [L5] at h;exact D2 (D2 h)
 | .mp i,F,h=>by simp only [L5] at h;exact D2 h
 | .any,F,h=>by simpa only [L5] using h
 | .v x,F,h=>by simpa only [L5] using h
 | .str l,F,h=>by simpa only [L5] using h
 | .iptr l,F,h=>by simpa only [L5] using h
 | .sl sz l,F,h=>by simpa only [L5] using h
 | .fn f l,F,h=>by simpa only [L5] using h
 | .err,F,h=>by simpa only [L5] using h
 | .own e sz l,F,h=>by simpa only [L5] using h
theorem V8:∀ {l:List AV} {F:List AV → Prop},V7 l F → F l
 | [],F,h=>by simpa only [V7] using h
 | x :: r,F,h=>by
   simp only [V7] at h
   exact V8 (l:=r) (F:=fun r2=>F (x :: r2)) (o0 (a:=x) (F:=fun x2=>V7 r fun r2=>F (x2 :: r2)) h)
end
def k6:List (Nat × AV) → (List (Nat × AV) → Prop) → Prop
 | [],F=>F []
 | (k,x) :: r,F=>L5 x fun x2=>k6 r fun s=>F ((k,x2) :: s)
theorem R7:∀ {l:List (Nat × AV)} {F:List (Nat × AV) → Prop},k6 l F → F l
 | [],F,h=>h
 | (k,x) :: r,F,h=>R7 (l:=r) (F:=fun s=>F ((k,x) :: s)) (o0 (a:=x) (F:=fun x2=>k6 r fun s=>F ((k,x2) :: s)) h)
def CR:List Bool → (List Bool → Prop) → Prop
 | [],F=>F []
 | true :: r,F=>CR r fun s=>F (true :: s)
 | false :: r,F=>CR r fun s=>F (false :: s)
theorem o3:∀ {l:List Bool} {F:List Bool → Prop},CR l F → F l
 | [],F,h=>h
 | true :: r,F,h=>o3 (l:=r) (F:=fun s=>F (true :: s)) h
 | false :: r,F,h=>o3 (l:=r) (F:=fun s=>F (false :: s)) h
def N9:Hp → (Hp → Prop) → Prop
 | [],F=>F []
 | (k,some (.bx τ l)) :: r,F=>F2 k fun k=>V7 l fun l2=>N9 r fun s=>F ((k,some (.bx τ l2)) :: s)
 | (k,some (.row e sz v l)) :: r,F=>F2 k fun k=>F2 v fun v2=>N9 r fun s=>F ((k,some (.row e sz v2 l)) :: s)
 | (k,some (.map m)) :: r,F=>F2 k fun k=>N9 r fun s=>F ((k,some (.map m)) :: s)
 | (k,some (.it t p)) :: r,F=>F2 k fun k=>N9 r fun s=>F ((k,some (.it t p)) :: s)
 | (k,none) :: r,F=>F2 k fun k=>N9 r fun s=>F ((k,none) :: s)
theorem O7:∀ {l:Hp} {F:Hp → Prop},N9 l F → F l
 | [],F,h=>h
 | (k,some (.bx τ l)) :: r,F,h=>O7 (l:=r) (F:=fun s=>F ((k,some (.bx τ l)) :: s)) (V8 (l:=l) (F:=fun l2=>N9 r fun s=>F ((k,some (.bx τ l2)) :: s)) (D2 (F:=fun k=>V7 l fun l2=>N9 r fun s=>F ((k,some (.bx τ l2)) :: s)) h))
 | (k,some (.row e sz v l)) :: r,F,h=>O7 (l:=r) (F:=fun s=>F ((k,some (.row e sz v l)) :: s)) (D2 (F:=fun v2=>N9 r fun s=>F ((k,some (.row e sz v2 l)) :: s)) (D2 (F:=fun k=>F2 v fun v2=>N9 r fun s=>F ((k,some (.row e sz v2 l)) :: s)) h))
 | (k,some (.map m)) :: r,F,h=>O7 (l:=r) (F:=fun s=>F ((k,some (.map m)) :: s)) (D2 (F:=fun k=>N9 r fun s=>F ((k,some (.map m)) :: s)) h)
 | (k,some (.it t p)) :: r,F,h=>O7 (l:=r) (F:=fun s=>F ((k,some (.it t p)) :: s)) (D2 (F:=fun k=>N9 r fun s=>F ((k,some (.it t p)) :: s)) h)
 | (k,none) :: r,F,h=>O7 (l:=r) (F:=fun s=>F ((k,none) :: s)) (D2 (F:=fun k=>N9 r fun s=>F ((k,none) :: s)) h)
mutual
def J0 (ρ s:Nat → Nat):AV → AV
 | .ref i off=>.ref (ρ i) off
 | .row i v len=>.row (ρ i) (v + s i) len
 | .elt i v k off=>.elt (ρ i) (v + s i) k off
 | .sub i v k off=>.sub (ρ i) (v + s i) k off
 | .mp i=>.mp (ρ i)
 | .agg l=>.agg (Y1 ρ s l)
 | .tup l=>.tup (Y1 ρ s l)
 | .fo f l=>.fo f (Y1 ρ s l)
 | x=>x
def Y1 (ρ s:Nat → Nat):List AV → List AV
 | []=>[]
 | x :: r=>J0 ρ s x :: Y1 ρ s r
end
theorem J6 (ρ s:Nat → Nat):∀ l,Y1 ρ s l = l.map (J0 ρ s)
 | []=>by simp [Y1]
 | x :: r=>by simp [Y1,J6 ρ s r]
def T3 (ρ s:Nat → Nat) (i:Nat):D9 → D9
 | .bx τ l=>.bx τ (Y1 ρ s l)
 | .row e sz v l=>.row e sz (v + s i) l
 | .map m=>.map m
 | .it t p=>.it t p
structure Ren (c c':Cx) (ρ s:Nat → Nat):Prop where
 nx:∀ i,i < c.nx → ρ i < c'.nx
 θ:∀ i,i < c.nx → c'.θ (ρ i) = c.θ i
 N:∀ i,i < c.nx → c'.θ.N (ρ i) = c.θ.N i
 w:c'.w = c.w
 U:∀ k,c'.U k → c.U k
 rows:∀ i,i < c.nx → ∀ e sz v' l,B2 c'.hp (ρ i) = some (.row e sz v' l) → ∃ v,B2 c.hp i = some (.row e sz v l) ∧ v' = v + s i
theorem Ren.im {c c':Cx} {ρ s:Nat → Nat} (h:Ren c c' ρ s) {a:AV} {x:Value} (hi:Im c.U c.w a x):Im c'.U c'.w a x:=hi.mono (fun k _ _=>by rw [h.w]) fun k _ hu=>h.U k hu
theorem Pk {c c':Cx} {ρ s:Nat → Nat} (h:Ren c c' ρ s) {a:AV} {x:Value} (hi:Im c.U c.w a x):J0 ρ s a = a ∨ C5 c' (J0 ρ s a) x:=by
 induction hi with
 | v x=>exact .inl rfl
 | str l=>exact .inl rfl
 | fn f l cs hl hc ih=>exact .inl rfl
 | iptr l a f hu hc hh ih=>exact .inl rfl
 | err t p=>exact .inl rfl
 | any x=>exact .inl rfl
 | own e sz l x=>exact .inl rfl
 | slnil sz=>exact .inl rfl
 | sl sz l a cap f hcap hm hu hsz hc hh ih=>exact .inl rfl
 | agg l cs hl hc ih =>
   refine .inr ?_
   simp only [J0,J6]
   refine .agg _ cs (by simp [hl]) fun j u z hu hz=>?_
   simp only [List.getElem?_map,Option.map_eq_some_iff] at hu
   obtain ⟨u0,hu0,rfl⟩:=hu
   rcases ih j u0 z hu0 hz with e | e
   ·rw [e];exact .im (h.im (hc j u0 z hu0 hz))
   ·exact e
 | tup l cs hl hc ih =>
   refine .inr ?_
   simp only [J0,J6]
   refine .tup _ cs (by simp [hl]) fun j u z hu hz=>?_
   simp only [List.getElem?_map,Option.map_eq_some_iff] at hu
   obtain ⟨u0,hu0,rfl⟩:=hu
   rcases ih j u0 z hu0 hz with e | e
   ·rw [e];exact .im (h.im (hc j u0 z hu0 hz))
   ·exact e
theorem IW {c c':Cx} {ρ s:Nat → Nat} (h:Ren c c' ρ s) {a:AV} {x:Value} (r:C5 c a x):C5 c' (J0 ρ s a) x:=by
 induction r with
 | any x=>exact .any x
 | im hi =>
   rcases Pk h hi with e | e
   ·rw [e];exact .im (h.im hi)
   ·exact e
 | agg l cs hl _ ih =>
   simp only [J0,J6]
   refine .agg _ cs (by simp [hl]) fun j u z hu hz=>?_
   simp only [List.getElem?_map,Option.map_eq_some_iff] at hu
   obtain ⟨u0,hu0,rfl⟩:=hu
   exact ih j u0 z hu0 hz
 | tup l cs hl _ ih =>
   simp only [J0,J6]
   refine .tup _ cs (by simp [hl]) fun j u z hu hz=>?_
   simp only [List.getElem?_map,Option.map_eq_some_iff] at hu
   obtain ⟨u0,hu0,rfl⟩:=hu
   exact ih j u0 z hu0 hz
 | fo f l cs hl _ ih =>
   simp only [J0,J6]
   refine .fo f _ cs (by simp [hl]) fun j u z hu hz=>?_
   simp only [List.getElem?_map,Option.map_eq_some_iff] at hu
   obtain ⟨u0,hu0,rfl⟩:=hu
   exact ih j u0 z hu0 hz
 | ref i off b hi hθ=>exact .ref _ off b (h.nx i hi) (by rw [h.θ i hi];exact hθ)
 | row i ver len x hi hr =>
   refine .row _ _ len x (h.nx i hi) fun e sz v' l hl=>?_
   obtain ⟨v,hv,rfl⟩:=h.rows i hi e sz v' l hl
   obtain ⟨h1,h2⟩:=hr e sz v l hv
   exact ⟨by omega,fun e=>by rw [h.θ i hi];exact h2 (by omega)⟩
 | mp i r hi hθ=>exact .mp _ r (h.nx i hi) (by rw [h.θ i hi];exact hθ)
 | sub i ver lo len x hi hr =>
   refine .sub _ _ lo len x (h.nx i hi) fun e sz v' l hl=>?_
   obtain ⟨v,hv,rfl⟩:=h.rows i hi e sz v' l hl
   obtain ⟨h1,h2⟩:=hr e sz v l hv
   exact ⟨by omega,fun e=>by rw [h.θ i hi];exact h2 (by omega)⟩
 | elt i ver k off x hi hr =>
   refine .elt _ _ k off x (h.nx i hi) fun e sz v' l hl=>?_
   obtain ⟨v,hv,rfl⟩:=h.rows i hi e sz v' l hl
   obtain ⟨h1,h2⟩:=hr e sz v l hv
   exact ⟨by omega,fun e=>by rw [h.θ i hi];exact h2 (by omega)⟩
theorem OQ {c c':Cx} {ρ s:Nat → Nat} (h:Ren c c' ρ s) {i:Nat} {b:D9} (hi:i < c.nx) (o:J4 c i b) (hnl:∀ e sz v l,b = .row e sz v l → W6 e = false):J4 c' (ρ i) (T3 ρ s i b):=by
 cases b with
 | bx τ l =>
   obtain ⟨b',arr,T,e1,e2,e3,e4⟩:=o
   refine ⟨b',arr,T,by rw [h.θ i hi];exact e1,by rw [h.w];exact e2,by rw [J6,List.length_map];exact e3,fun j u z hu hz=>?_⟩
   rw [J6] at hu
   simp only [List.getElem?_map,Option.map_eq_some_iff] at hu
   obtain ⟨u0,hu0,rfl⟩:=hu
   exact IW h (e4 j u0 z hu0 hz)
 | row e sz v l =>
   obtain ⟨xs,e1,e2,e3,e4⟩:=o
   refine ⟨xs,by rw [h.θ i hi,h.w];exact e1,e2,fun k el hk j x hx=>?_,fun hne=>⟨fun k p hk=>by rw [h.w];exact (e4 hne).1 k p (by rw [← h.N i hi];exact hk),fun k el hk j e' sz' l' hj=>?_⟩⟩
   ·obtain ⟨y,hy,hi⟩:=e3 k el hk j x hx
    exact ⟨y,hy,h.im hi⟩
   ·rcases (e4 hne).2 k el hk j e' sz' l' hj with ⟨q0,_⟩ | ⟨g,m,cap,y,ys,q1,q2,q3,q4,q5,q6,q7⟩
    ·rw [hnl _ _ _ _ rfl] at q0;cases q0
    exact .inr ⟨g,m,cap,y,ys,by rw [h.θ i hi];exact q1,by rw [h.w];exact q2,by rw [h.w];exact q3,q4,q5,fun q el' hq j' x hx=>by
     obtain ⟨z,hz,hi⟩:=q6 q el' hq j' x hx
     exact ⟨z,hz,h.im hi⟩,fun b hb=>by rw [h.N i hi];exact q7 b hb⟩
 | map m =>
   obtain ⟨r,es,clock,e1,e2,e3,e4⟩:=o
   exact ⟨r,es,clock,by rw [h.θ i hi];exact e1,by rw [h.w];exact e2,e3,fun j q e hj he=>⟨(e4 j q e hj he).1,h.im (e4 j q e hj he).2⟩⟩
 | it t p =>
   obtain ⟨r,e1,e2⟩:=o
   exact ⟨r,by rw [h.θ i hi];exact e1,by rw [h.w];exact e2⟩
theorem FM {c c':Cx} {ρ s:Nat → Nat} (hθ:∀ i,i < c.nx → c'.θ (ρ i) = c.θ i) (hw:c'.w = c.w) (hU:∀ k,c.U k → c'.U k)
  (hrows:∀ i,i < c.nx → ∀ e sz v l,B2 c.hp i = some (.row e sz v l) → B2 c'.hp (ρ i) = some (.row e sz (v + s i) l)):∀ {a:AV} {x:Value},M9 c.nx a = true → C5 c' (J0 ρ s a) x → C5 c a x:=by
 have imB:∀ {a:AV} {x:Value},Im c'.U c'.w a x → Im c.U c.w a x:=fun hi=>hi.mono (fun k _ _=>by rw [hw]) fun k _ hu=>hU k hu
 intro a
 refine AV.rec (motive_1:=fun a=>∀ {x:Value},M9 c.nx a = true → C5 c' (J0 ρ s a) x → C5 c a x)
  (motive_2:=fun l=>N2 c.nx l = true → ∀ (j:Nat) u x,l[j]? = some u → C5 c' (J0 ρ s u) x → C5 c u x)
  (motive_3:=fun _=>True) ?_ ?_ ?_ ?_ ?_ ?_ ?_ ?_ ?_ ?_ ?_ ?_ ?_ ?_ ?_ ?_ ?_ ?_ ?_ ?_ a
 ·intro x _ _;exact .any x
 ·intro v x _ r;cases r with | im hi=>exact .im (imB hi)
 ·intro l x _ r;cases r with | im hi=>exact .im (imB hi)
 ·intro l ih x hlt r
  simp only [M9] at hlt
  simp only [J0,J6] at r
  obtain ⟨cs,rfl,hl,hr⟩:=p2 r
  refine .agg l cs (by simpa using hl) fun j u z hu hz=>ih hlt j u z hu ?_
  exact hr j _ z (by simp [hu]) hz
 ·intro l ih x hlt r
  simp only [M9] at hlt
  simp only [J0,J6] at r
  have:∃ cs:List Value,x = .tuple cs.toArray ∧ (l.map (J0 ρ s)).length = cs.length ∧ ∀ (j:Nat) u z,(l.map (J0 ρ s))[j]? = some u → cs[j]? = some z → C5 c' u z:=by
   generalize l.map (J0 ρ s) = l' at r
   cases r with
   | im hi=>cases hi with | tup l cs hl hc=>exact ⟨cs,rfl,hl,fun j u z hu hz=>.im (hc j u z hu hz)⟩
   | tup l cs hl hc=>exact ⟨cs,rfl,hl,hc⟩
  obtain ⟨cs,rfl,hl,hr⟩:=this
  refine .tup l cs (by simpa using hl) fun j u z hu hz=>ih hlt j u z hu ?_
  exact hr j _ z (by simp [hu]) hz
 ·intro i off x hlt r
  simp only [M9,Nat.blt_eq] at hlt
  simp only [J0] at r
  obtain ⟨b,h1,rfl,_⟩:=O2 r
  exact .ref i off b hlt (by rw [← hθ i hlt];exact h1)
 ·intro l _ x _ r;cases r with | im hi=>exact .im (imB hi)
 ·intro sz l _ x _ r;cases r with | im hi=>exact .im (imB hi)
 ·intro i ver len x hlt r
  simp only [M9,Nat.blt_eq] at hlt
  simp only [J0] at r
  refine .row i ver len x hlt fun e sz v l hl=>?_
  cases r with
  | im hi=>cases hi
  | row _ _ _ _ hi h =>
    obtain ⟨h1,h2⟩:=h e sz _ l (hrows i hlt e sz v l hl)
    exact ⟨by omega,fun e=>by rw [← hθ i hlt];exact h2 (by omega)⟩
 ·intro i x hlt r
  simp only [M9,Nat.blt_eq] at hlt
  simp only [J0] at r
  cases r with
  | im hi=>cases hi
  | mp _ r hi h=>exact .mp i r hlt (by rw [← hθ i hlt];exact h)
 ·intro i ver k off x hlt r
  simp only [M9,Nat.blt_eq] at hlt
  simp only [J0] at r
  refine .elt i ver k off x hlt fun e sz v l hl=>?_
  cases r with
  | im hi=>cases hi
  | elt _ _ _ _ _ hi h =>
    obtain ⟨h1,h2⟩:=h e sz _ l (hrows i hlt e sz v l hl)
    exact ⟨by omega,fun e=>by rw [← hθ i hlt];exact h2 (by omega)⟩
 ·intro f l _ x _ r;cases r with | im hi=>exact .im (imB hi)
 ·intro x _ r;cases r with | im hi=>exact .im (imB hi)
 ·intro f l ih x hlt r
  simp only [M9] at hlt
  simp only [J0,J6] at r
  have:∃ cs:List Value,x = IH f cs.toArray ∧ (l.map (J0 ρ s)).length = cs.length ∧ ∀ (j:Nat) u z,(l.map (J0 ρ s))[j]? = some u → cs[j]? = some z → C5 c' u z:=by
   generalize l.map (J0 ρ s) = l' at r
   cases r with
   | im hi=>cases hi
   | fo f l cs hl hc=>exact ⟨cs,rfl,hl,hc⟩
  obtain ⟨cs,rfl,hl,hr⟩:=this
  refine .fo f l cs (by simpa using hl) fun j u z hu hz=>ih hlt j u z hu ?_
  exact hr j _ z (by simp [hu]) hz
 ·intro e sz l _ x _ _;exact .im (.own e sz l x)
 ·intro i ver lo len x hlt r
  simp only [M9,Nat.blt_eq] at hlt
  simp only [J0] at r
  refine .sub i ver lo len x hlt fun e sz v l hl=>?_
  cases r with
  | im hi=>cases hi
  | sub _ _ _ _ _ hi h =>
    obtain ⟨h1,h2⟩:=h e sz _ l (hrows i hlt e sz v l hl)
    exact ⟨by omega,fun e=>by rw [← hθ i hlt];exact h2 (by omega)⟩
 ·intro _ j u x hu;simp at hu
 ·intro a l iha ihl hlt j u x hu r
  simp only [N2,Bool.and_eq_true] at hlt
  cases j with
  | zero=>simp at hu;subst hu;exact iha hlt.1 r
  | succ j=>exact ihl hlt.2 j u x (by simpa using hu) r
 ·trivial
 ·intros;trivial
structure Gv (X:Nat → Prop) (θ:Th) (nx:Nat) (hp:Hp) (w:World):Prop where
 owns:∀ i b,B2 hp i = some b → i < nx ∧ J4 ⟨θ,nx,hp,X,w⟩ i b
 apart:∀ i j b b' k,B2 hp i = some b → B2 hp j = some b' → FP θ i b k → FP θ j b' k → i = j
 fresh:∀ i b k,B2 hp i = some b → FP θ i b k → ¬ X k
def owned (θ:Th) (hp:Hp) (k:Nat):Prop:=∃ i b,B2 hp i = some b ∧ FP θ i b k
theorem Gv.nodf {X:Nat → Prop} {θ:Th} {nx:Nat} {hp:Hp} {w:World} (h:Gv X θ nx hp w) {k:Nat} (ho:owned θ hp k) {d:Option (List Deferred)}:w.heap[k]? ≠ some (Obj.deferred d):=by
 obtain ⟨i,b,hi,hk⟩:=ho
 exact (h.owns i b hi).2.nodf hk
theorem Ko (ρ s:Nat → Nat) (i:Nat) (b:D9):L7 (T3 ρ s i b) = L7 b:=by cases b <;> rfl
theorem FP.ren {θ θ':Th} {ρ s:Nat → Nat} {i k:Nat} {b:D9} (h1:θ' (ρ i) = θ i) (h2:θ'.N (ρ i) = θ.N i):FP θ' (ρ i) (T3 ρ s i b) k ↔ FP θ i b k:=by
 unfold FP
 rw [Ko,h1,h2]
structure As (X:Nat → Prop) (θ:Th) (w:World) (m0:Nat) (hp0:Hp) (m1:Nat) (hp1:Hp) (r:AV) (e:Ending) (w':World):Prop where
 out:∃ v θ',e = .returned v ∧ C5 ⟨θ',m1,hp1,X,w'⟩ r v ∧ Gv X θ' m1 hp1 w' ∧ (∀ i b k,B2 hp1 i = some b → FP θ' i b k → owned θ hp0 k ∨ w.heap.size ≤ k) ∧ (∀ i,i < m0 → θ' i = θ i ∨ (∃ x n k,θ i = .slice x n k) ∧ ¬ Kept hp1 i)
 os:w'.os = w.os
 tape:w'.tape = w.tape
 output:w'.output = w.output
 size:w.heap.size ≤ w'.heap.size
 block:∀ k,k < w.heap.size → ¬ owned θ hp0 k → w'.heap[k]? = w.heap[k]?
def D4 (P:Program) (f m0:Nat) (hp0:Hp) (args:List AV) (m1:Nat) (hp1:Hp) (r:AV):Prop:=JC P f ∧
 ∀ (X:Nat → Prop) (θ:Th) (w:World) (vs:List Value),(∀ k,X k → k < w.heap.size) → N8 (fun k=>X k ∨ owned θ hp0 k) w → Gv X θ m0 hp0 w → args.length = vs.length → (∀ (j:Nat) a v,args[j]? = some a → vs[j]? = some v → C5 ⟨θ,m0,hp0,X,w⟩ a v) →
  Calls P f vs.toArray w fun e w'=>As X θ w m0 hp0 m1 hp1 r e w'
def L8:ResultVar → Nat
 | .tmp t=>t
 | .cell t _=>t
def At (σ:St):List ResultVar → St
 | []=>σ
 | .tmp _ :: r=>At σ r
 | .cell t _ :: r=>match look σ.sl t with
   | some (.ref i 0)=>match B2 σ.hp i with
     | some (.bx _ l)=>At (σ.put t (.agg l)) r
     | _=>σ
   | _=>σ
def JV (P:Program) (n:Nat) (σ:St):List ResultVar → Prop
 | []=>True
 | .tmp _ :: r=>JV P n σ r
 | .cell t T :: r=>∃ i l sz,look σ.sl t = some (.ref i 0) ∧ B2 σ.hp i = some (.box l) ∧ G3 P T true sz ∧ l.length = sz ∧ Nat.blt t n = true ∧ JV P n (σ.put t (.agg l)) r
def JW:List ResultVar → List AV → List (Nat × AV)
 | v :: r,a :: s=>(L8 v,a) :: JW r s
 | _,_=>[]
def Qj:List AV → AV
 | [a]=>a
 | l=>.tup l
def b8:List ResultVar → Bool
 | []=>true
 | v :: r=>(r.all fun u=>!(Nat.beq (L8 u) (L8 v))) && b8 r
theorem Gw {tmps tmps':Array Value} {rv:ResultVar} (h:tmps.getD (L8 rv) undef = tmps'.getD (L8 rv) undef):M2 tmps rv = M2 tmps' rv:=by
 cases rv with
 | tmp t=>simp only [M2];rw [show tmps.getD t undef = tmps'.getD t undef from h]
 | cell t T=>simp only [M2];rw [show tmps.getD t undef = tmps'.getD t undef from h]
theorem Cp {a:Act} {d s:Nat} {v:Value} (h:d ≠ s):(a.put (some d) v).tmps.getD s undef = a.tmps.getD s undef:=by
 simp [Act.put,Array.getD_eq_getD_getElem?,Array.getElem?_setIfInBounds_ne h]
theorem Hu {a:Act} {d:Nat} {v:Value} (h:d < a.tmps.size):(a.put (some d) v).tmps.getD d undef = v:=by
 simp [Act.put,Array.getD,h]
theorem Bw {P:Program} {E:Env} {n:Nat} {θ:Th} {w:World}:∀ {rvs:List ResultVar} {σ:St} {a:Act},H0 E n θ σ a w → JV P n σ rvs → b8 rvs = true →
  ∃ a',H0 E n θ (At σ rvs) a' w ∧ (∀ rv ∈ rvs,(M2 a.tmps rv).run P w = .ok (a'.tmps.getD (L8 rv) undef) w) ∧ ∀ s,(∀ rv ∈ rvs,L8 rv ≠ s) → a'.tmps.getD s undef = a.tmps.getD s undef
 | [],σ,a,hs,_,_=>⟨a,hs,(fun rv h=>by (cases h)),fun s _=>rfl⟩
 | .tmp t :: r,σ,a,hs,hok,hap=>by
   simp only [b8,Bool.and_eq_true,List.all_eq_true,Bool.not_eq_true'] at hap
   obtain ⟨a',h1,h2,h3⟩:=Bw (rvs:=r) hs hok hap.2
   refine ⟨a',h1,fun rv hrv=>?_,fun s hs'=>h3 s fun rv h=>hs' rv (by simp [h])⟩
   rcases List.mem_cons.1 hrv with rfl | hrv
   ·have:=h3 t (fun rv h e=>by
     have h4:=hap.1 rv h
     have e':L8 rv = L8 (.tmp t):=e
     rw [e'] at h4
     simp at h4)
    simp [M2,L8,Sem.run_pure,this]
   ·exact h2 rv hrv
 | .cell t T :: r,σ,a,hs,hok,hap=>by
   simp only [b8,Bool.and_eq_true,List.all_eq_true,Bool.not_eq_true'] at hap
   obtain ⟨i,l,sz,h1,h2,tv,hlsz,hn,hok⟩:=hok
   have htn:=Nat.blt_eq ▸ hn
   obtain ⟨b1,hθ,hv,_⟩:=O2 (hs.slots t _ h1)
   obtain ⟨b',arr,T',hθ',hh,hsz,hr⟩:=(hs.owns i _ h2).2
   have hbb:θ i = .pointer (some ⟨b1,0,none⟩):=hθ
   have hbb':θ i = .pointer (some ⟨b',0,none⟩):=hθ'
   rw [hbb] at hbb'
   cases hbb'
   have hh':w.heap[b1]? = some (.cells arr T' (0,0)):=hh
   have hrel:C5 (cx E θ σ w) (.agg l) (.agg arr):=by
    have:=C5.agg (c:=cx E θ σ w) l arr.toList (by simp [hsz]) (fun j x y hx hy=>hr j x y hx (by simpa using hy))
    simpa using this
   have hs1:=hs.put htn hrel
   have hload:=K4 (P:=P) (T:=T) (sz:=sz) (w:=w) (a:=⟨b1,0,none⟩) (cs:=arr.toList) (by rw [Array.length_toList,hsz,hlsz]) (fun j v hj=>by rw [F3,G5 hh'];simpa using hj)
   obtain ⟨a',h3,h4,h5⟩:=Bw (rvs:=r) hs1 hok hap.2
   have hne:∀ rv ∈ r,L8 rv ≠ t:=fun rv h e=>by
    have h6:=hap.1 rv h
    have e':L8 rv = L8 (.cell t T):=e
    rw [e'] at h6
    simp at h6
   have hput:At σ (.cell t T :: r) = At (σ.put t (.agg l)) r:=by simp only [At,h1,h2]
   refine ⟨a',hput ▸ h3,fun rv hrv=>?_,fun s hs'=>?_⟩
   ·rcases List.mem_cons.1 hrv with rfl | hrv
    ·have h6:=h5 t hne
     rw [Hu (by rw [hs.size];exact htn)] at h6
     show _ = Result.ok (a'.tmps.getD t undef) w
     rw [h6]
     simp [M2,hv,Sem.run_bind,Sem.run_pure,asAddr,hload]
    ·rw [← h4 rv hrv]
     rw [Gw (tmps:=a.tmps) (tmps':=(a.put (some t) (.agg arr)).tmps)]
     exact (Cp (Ne.symm (hne rv hrv))).symm
   ·rw [h5 s fun rv h=>hs' rv (by simp [h]),Cp]
    exact hs' (.cell t T) (by simp)
theorem FN:∀ {rvs:List ResultVar} {as:List AV},rvs.length = as.length → b8 rvs = true → ∀ (j:Nat) rv a,rvs[j]? = some rv → as[j]? = some a → look (JW rvs as) (L8 rv) = some a
 | [],_,_,_,j,rv,a,h,_=>by simp at h
 | v :: r,[],hl,_,_,_,_,_,_=>by simp at hl
 | v :: r,b :: s,hl,hap,j,rv,a,hj,ha=>by
   simp only [b8,Bool.and_eq_true,List.all_eq_true,Bool.not_eq_true'] at hap
   simp only [JW,E3]
   cases j with
   | zero=>simp at hj ha;subst hj ha;simp
   | succ j =>
     have hj':r[j]? = some rv:=by simpa using hj
     have hne:L8 v ≠ L8 rv:=fun e=>by
      have h6:=hap.1 rv (List.mem_of_getElem? hj')
      rw [← e] at h6
      simp at h6
     rw [if_neg hne]
     exact FN (by simpa using hl) hap.2 j rv a hj' (by simpa using ha)
def MS (P:Program) (E:Env) (n:Nat) (rs:Array ResultVar) (m1:Nat) (hp1:Hp) (r:AV) (σ:St):Prop :=
 (∃ rvs as,rs = rvs.toArray ∧ JV P n σ rvs ∧ b8 rvs = true ∧ rvs.length = as.length ∧ St.le E n (At σ rvs) ⟨JW rvs as,m1,hp1⟩ ∧ r = Qj as) ∨
 (∃ t,rs = #[.tmp t] ∧ St.le E n σ ⟨[(t,r)],m1,hp1⟩) ∨
 (∃ t u a b,rs = #[.tmp t, .tmp u] ∧ St.le E n σ ⟨[(t,a),(u,b)],m1,hp1⟩ ∧ t ≠ u ∧ r = .tup [a,b]) ∨
 (∃ t T i τ l sz,rs = #[.cell t T] ∧ G3 P T true sz ∧ l.length = sz ∧ St.le E n σ ⟨[(t, .ref i 0)],m1,hp1⟩ ∧ B2 hp1 i = some (.bx τ l) ∧ r = .agg l)
def F9 (P:Program) (E:Env) (n:Nat) (rs:Array ResultVar) (m1:Nat) (hp1:Hp) (r:AV):Exit → St → Prop
 | .ret,σ=>MS P E n rs m1 hp1 r σ
 | .normal,σ=>MS P E n rs m1 hp1 r σ
 | _,_=>False
section rules
variable {P:Program} {E:Env} {n:Nat} {ops:Array Oper} {rest:List Oper} {σ:St} {K:St → Prop} {Q:Exit → St → Prop}
variable {d:Nat} {ty:TypeId} {pos:String} {after:Array Edge} {x y:Operand}
theorem P3 {t m1:Nat} {hp1:Hp} {r:AV} (h:St.le E n σ ⟨[(t,r)],m1,hp1⟩):F9 P E n #[.tmp t] m1 hp1 r .ret σ:=.inr (.inl ⟨t,rfl,h⟩)
theorem MT {f:Nat} {fn:Func} {code:Code} {args:List AV} {r:AV} {rs:Array ResultVar} {m0 m1:Nat} {hp0 hp1:Hp} (hf:P.funcs[f]? = some fn) (hb:fn.body = some code) (hn:fn.ntmps = n) (hrs:fn.results = rs)
  (hargs:Nat.ble args.length n = true) {X:Nat → Prop} {θ:Th} {w:World} {vs:List Value} (hX:∀ k,X k → k < w.heap.size) (htab:N8 (fun k=>X k ∨ owned θ hp0 k) w) (hbk:Gv X θ m0 hp0 w) (hl:args.length = vs.length) (hvs:∀ (j:Nat) a v,args[j]? = some a → vs[j]? = some v → C5 ⟨θ,m0,hp0,X,w⟩ a v)
  (h:E4 P ⟨w,X,owned θ hp0,θ.v,m0,htab,false⟩ n code ⟨k0 args 0,m0,hp0⟩ (F9 P ⟨w,X,owned θ hp0,θ.v,m0,htab,false⟩ n rs m1 hp1 r)):Calls P f vs.toArray w fun e w'=>As X θ w m0 hp0 m1 hp1 r e w':=by
 subst hn hrs
 refine calls_of_wp hf hb ?_
 have hle:args.length ≤ fn.ntmps:=Nat.ble_eq ▸ hargs
 have start:T4 ⟨w,X,owned θ hp0,θ.v,m0,htab,false⟩ fn.ntmps ⟨k0 args 0,m0,hp0⟩ { tmps:=vs.toArray ++ Array.replicate (fn.ntmps - vs.toArray.size) undef,defers:=[] } w:=by
  refine ⟨θ,?_, .nil,⟨rfl,rfl,rfl,Nat.le_refl _,fun _ _ _=>rfl⟩,fun s x hs=>?_,hbk.owns,hbk.apart,fun i b k hi hk=>⟨hbk.fresh i b k hi hk, .inl ⟨i,b,hi,hk⟩⟩,hX,⟨Nat.le_refl _,fun i hi=>.inl rfl⟩⟩
  ·simp;omega
  ·obtain ⟨_,hx⟩:=Aq args 0 s x hs
   rw [Nat.sub_zero] at hx
   have hlt:s < vs.length:=by rw [← hl];exact (List.getElem?_eq_some_iff.1 hx).1
   have hv:vs[s]? = some vs[s]:=List.getElem?_eq_getElem hlt
   have e:(vs.toArray ++ Array.replicate (fn.ntmps - vs.toArray.size) undef).getD s undef = vs[s]:=by
    rw [Array.getD_eq_getD_getElem?,Array.getElem?_append]
    simp [hlt]
   rw [e]
   exact hvs s x _ hx hv
 refine wp_mono (h _ w start) ?_
 rintro e a w' ⟨σ',hq,hs0⟩
 have fin:MS P ⟨w,X,owned θ hp0,θ.v,m0,htab,false⟩ fn.ntmps fn.results m1 hp1 r σ' → bodyPost P fn (fun e w''=>As X θ w m0 hp0 m1 hp1 r e w'') .ret a w':=by
  intro hret
  have post:∀ {sl:List (Nat × AV)} {v:Value} {θ':Th},H0 ⟨w,X,owned θ hp0,θ.v,m0,htab,false⟩ fn.ntmps θ' ⟨sl,m1,hp1⟩ a w' → C5 ⟨θ',m1,hp1,X,w'⟩ r v → As X θ w m0 hp0 m1 hp1 r (.returned v) w':=by
   intro sl v θ' hs hv
   exact ⟨⟨v,θ',rfl,hv,⟨hs.owns,hs.apart,fun i b k hi hk=>(hs.mine i b k hi hk).1⟩,fun i b k hi hk=>(hs.mine i b k hi hk).2,hs.base.2⟩,hs.fr.os,hs.fr.tape,hs.fr.output,hs.fr.size,hs.fr.block⟩
  rcases hret with ⟨rvs,as,h1,hok,hap,hlen,h2,hr⟩ | ⟨t,h1,h2⟩ | ⟨t,u,a1,b1,h1,h2,hne,rfl⟩ | ⟨t,T,i,τ,l,sz,h1,tv,hlen,h2,h3,rfl⟩
  ·obtain ⟨θ0,hst0⟩:=hs0
   obtain ⟨a',hs1,hrun,_⟩:=Bw hst0 hok hap
   obtain ⟨θ',hs⟩:=h2 a' w' ⟨θ0,hs1⟩
   have hrel:∀ (j:Nat) rv b,rvs[j]? = some rv → as[j]? = some b → C5 ⟨θ',m1,hp1,X,w'⟩ b (a'.tmps.getD (L8 rv) undef):=fun j rv b hj hb=>hs.slots _ b (FN hlen hap j rv b hj hb)
   have post2:∀ {v:Value},C5 ⟨θ',m1,hp1,X,w'⟩ r v → As X θ w m0 hp0 m1 hp1 r (.returned v) w':=fun hv =>
    ⟨⟨_,θ',rfl,hv,⟨hs.owns,hs.apart,fun i b k hi hk=>(hs.mine i b k hi hk).1⟩,fun i b k hi hk=>(hs.mine i b k hi hk).2,hs.base.2⟩,hs.fr.os,hs.fr.tape,hs.fr.output,hs.fr.size,hs.fr.block⟩
   have tup:rvs.length ≠ 1 → r = .tup as → ∃ v,(results fn a.tmps).run P w' = .ok v w' ∧ As X θ w m0 hp0 m1 hp1 r (.returned v) w':=by
    intro hne hr
    refine ⟨_,Co (vs:=rvs.map fun rv=>a'.tmps.getD (L8 rv) undef) h1 hne (by simp) (fun j rv v hj hv=>?_),post2 ?_⟩
    ·simp only [List.getElem?_map,hj,Option.map_some,Option.some.injEq] at hv
     subst hv
     exact hrun rv (List.mem_of_getElem? hj)
    ·rw [hr]
     refine .tup as _ (by simp [hlen]) fun j b v hb hv=>?_
     simp only [List.getElem?_map,Option.map_eq_some_iff] at hv
     obtain ⟨rv,hj,rfl⟩:=hv
     exact hrel j rv b hj hb
   match rvs,as,hlen,hr,h1,hrun,hrel,tup with
   | [rv],[b],_,hr,h1,hrun,hrel,_ =>
     have hr:r = b:=hr
     subst hr
     exact ⟨hst0.defers.1 rfl,_,Gq h1 (hrun rv (by simp)),post2 (hrel 0 rv _ rfl rfl)⟩
   | [],[],_,hr,_,_,_,tup=>obtain ⟨v,hv1,hv2⟩:=tup (by simp) hr;exact ⟨hst0.defers.1 rfl,v,hv1,hv2⟩
   | _ :: _ :: _,_ :: _ :: _,_,hr,_,_,_,tup=>obtain ⟨v,hv1,hv2⟩:=tup (by simp) hr;exact ⟨hst0.defers.1 rfl,v,hv1,hv2⟩
  ·obtain ⟨θ',hs⟩:=h2 a w' hs0
   exact ⟨hs.defers.1 rfl,_,results_tmp h1 _ _ _,post hs (hs.slots t r (by simp [look]))⟩
  ·obtain ⟨θ',hs⟩:=h2 a w' hs0
   refine ⟨hs.defers.1 rfl,_,results_tmp2 h1 _ _ _,post hs (.tup [a1,b1] [_,_] rfl fun j x y hx hy=>?_)⟩
   match j,hx,hy with
   | 0,hx,hy=>cases hx;cases hy;exact hs.slots t _ (by simp [look])
   | 1,hx,hy=>cases hx;cases hy;exact hs.slots u _ (by rw [E3,if_neg hne,E3,if_pos rfl])
  ·obtain ⟨θ',hs⟩:=h2 a w' hs0
   obtain ⟨b,hθ,hv,_⟩:=O2 (hs.slots t (.ref i 0) (by simp [look]))
   obtain ⟨b',arr,T',hθ',hh,hsz,hr⟩:=(hs.owns i _ h3).2
   have hbb:θ' i = .pointer (some ⟨b,0,none⟩):=hθ
   have hbb':θ' i = .pointer (some ⟨b',0,none⟩):=hθ'
   rw [hbb] at hbb'
   cases hbb'
   have hh':w'.heap[b]? = some (.cells arr T' (0,0)):=hh
   refine ⟨hs.defers.1 rfl, .agg arr,?_,post hs ?_⟩
   ·have hload:=K4 (P:=P) (T:=T) (sz:=sz) (w:=w') (a:=⟨b,0,none⟩) (cs:=arr.toList) (by rw [Array.length_toList,hsz,hlen]) (fun j v hj=>by rw [F3,G5 hh'];simpa using hj)
    rw [Array.getD_eq_getD_getElem?] at hv
    simp [results,h1,hv,Sem.run_bind,Sem.run_pure,asAddr,hload]
   ·have:=C5.agg (c:=⟨θ',m1,hp1,X,w'⟩) l arr.toList (by simp [hsz]) (fun j x y hx hy=>hr j x y hx (by simpa using hy))
    simpa using this
 cases e with
 | normal=>exact fin hq
 | ret=>exact fin hq
 | exit id=>exact hq.elim
 | goto l=>exact hq.elim
 | panic c=>exact hq.elim
 | outgrown=>exact hq.elim
theorem Hv {f : Nat} {fn : Func} {code : Code} {args : List AV} {r : AV} {rs : Array ResultVar} {m0 m1 : Nat} {hp0 hp1 : Hp} (hf : P.funcs[f]? = some fn) (hname : (fn.name == "runtime.NumGoroutine") = false) (hb : fn.body = some code) (hn : fn.ntmps = n) (hrs : fn.results = rs)
  (hargs:Nat.ble args.length n = true) (h:∀ E,E.n0 = m0 → E4 P E n code ⟨k0 args 0,m0,hp0⟩ (F9 P E n rs m1 hp1 r)):D4 P f m0 hp0 args m1 hp1 r :=
 ⟨⟨fn,hf,hname,by rw [hb];rfl⟩,fun X θ w vs hX htab hbk hl hvs=>MT hf hb hn hrs hargs hX htab hbk hl hvs (h _ rfl)⟩
def U6 (ρ s:Nat → Nat):Hp → Hp
 | []=>[]
 | (k,b) :: r=>(ρ k,b.map (T3 ρ s k)) :: U6 ρ s r
theorem EF {ρ s:Nat → Nat} {m:Nat} (hinj:∀ i j,i < m → j < m → ρ i = ρ j → i = j):∀ (hp h:Hp),G4 m hp = true → ∀ j,j < m → look (U6 ρ s hp ++ h) (ρ j) = match look hp j with
  | some b=>some (b.map (T3 ρ s j))
  | none=>look h (ρ j)
 | [],h,_,j,hj=>rfl
 | (k,b) :: r,h,hlt,j,hj=>by
   have hk:k < m ∧ G4 m r = true:=by
    match b,hlt with
    | none,hlt=>simp only [G4,Bool.and_eq_true,Nat.blt_eq] at hlt;exact hlt
    | some (.bx τ l),hlt=>simp only [G4,Bool.and_eq_true,Nat.blt_eq] at hlt;exact ⟨hlt.1.1,hlt.2⟩
    | some (.row ..),hlt=>simp only [G4,Bool.and_eq_true,Nat.blt_eq] at hlt;exact ⟨hlt.1,hlt.2.2⟩
    | some (.map ..),hlt=>simp only [G4,Bool.and_eq_true,Nat.blt_eq] at hlt;exact hlt
    | some (.it ..),hlt=>simp only [G4,Bool.and_eq_true,Nat.blt_eq] at hlt;exact hlt
   simp only [U6,List.cons_append,E3]
   by_cases e:k = j
   ·subst e;simp
   ·have:ρ k ≠ ρ j:=fun h2=>e (hinj k j hk.1 hj h2)
    simp only [if_neg this,if_neg e]
    exact EF hinj r h hk.2 j hj
theorem s9 {ρ s:Nat → Nat} {m:Nat}:∀ (hp h:Hp),G4 m hp = true → ∀ i,(∀ j,j < m → ρ j ≠ i) → look (U6 ρ s hp ++ h) i = look h i
 | [],h,_,i,_=>rfl
 | (k,b) :: r,h,hlt,i,hi=>by
   have hk:k < m ∧ G4 m r = true:=by
    match b,hlt with
    | none,hlt=>simp only [G4,Bool.and_eq_true,Nat.blt_eq] at hlt;exact hlt
    | some (.bx τ l),hlt=>simp only [G4,Bool.and_eq_true,Nat.blt_eq] at hlt;exact ⟨hlt.1.1,hlt.2⟩
    | some (.row ..),hlt=>simp only [G4,Bool.and_eq_true,Nat.blt_eq] at hlt;exact ⟨hlt.1,hlt.2.2⟩
    | some (.map ..),hlt=>simp only [G4,Bool.and_eq_true,Nat.blt_eq] at hlt;exact hlt
    | some (.it ..),hlt=>simp only [G4,Bool.and_eq_true,Nat.blt_eq] at hlt;exact hlt
   simp only [U6,List.cons_append,E3,if_neg (hi k hk.1)]
   exact s9 r h hk.2 i hi
def G8 (ι:List Nat) (i:Nat):Nat:=ι.getD i 0
def JX (h:Hp) (i:Nat):Nat:=match B2 h i with
 | some (.row e _ v _)=>cond (L4 e) v (v + 1)
 | _=>0
def w9 (h hp0:Hp) (ι off:List Nat):Nat → Prop
 | 0=>True
 | m + 1=>B2 h (G8 ι m) = (B2 hp0 m).map (T3 (G8 ι) (G8 off) m) ∧ w9 h hp0 ι off m
theorem EG {h hp0:Hp} {ι off:List Nat}:∀ {m:Nat},w9 h hp0 ι off m → ∀ i,i < m → B2 h (G8 ι i) = (B2 hp0 i).map (T3 (G8 ι) (G8 off) i)
 | 0,_,i,hi=>absurd hi (Nat.not_lt_zero _)
 | m + 1,hb,i,hi=>by
   by_cases e:i = m
   ·subst e;exact hb.1
   ·exact EG hb.2 i (by omega)
def Y2 (hp0 hp1:Hp):Nat → Bool
 | 0=>true
 | m + 1=>(look hp1 m).isSome && (match B2 hp1 m,B2 hp0 m with
   | some (.row e sz _ _),some (.row e' sz' _ _)=>Nat.beq sz sz' && (L4 e == L4 e')
   | some (.row ..),_=>false
   | _,_=>true) && Y2 hp0 hp1 m
theorem Cq {hp0 hp1:Hp}:∀ {m:Nat},Y2 hp0 hp1 m = true → ∀ i,i < m → (look hp1 i).isSome = true ∧ ∀ e sz v l,B2 hp1 i = some (.row e sz v l) → ∃ e' v' l',B2 hp0 i = some (.row e' sz v' l') ∧ L4 e = L4 e'
 | 0,_,i,hi=>absurd hi (Nat.not_lt_zero _)
 | m + 1,hb,i,hi=>by
   simp only [Y2,Bool.and_eq_true] at hb
   by_cases e:i = m
   ·subst e
    refine ⟨hb.1.1,fun e sz v l hl=>?_⟩
    have h2:=hb.1.2
    rw [hl] at h2
    split at h2
    ·rename_i h3 h4
     cases h3
     rw [Bool.and_eq_true] at h2
     refine ⟨_,_,_,by rw [h4,Nat.eq_of_beq_eq_true h2.1],?_⟩
     exact eq_of_beq h2.2
    ·cases h2
    ·rename_i h4 h3
     first | exact absurd rfl (h3 e sz v l) | exact absurd rfl (h4 e sz v l) | exact (h3 e sz v l rfl).elim | exact (h4 e sz v l rfl).elim
   ·exact Cq hb.2 i (by omega)
def o4 (ι:List Nat) (nx:Nat):Bool:=match ι with
 | []=>true
 | i :: r=>Nat.blt i nx && !(r.contains i) && o4 r nx
theorem EH:∀ {ι:List Nat} {nx:Nat},o4 ι nx = true → (∀ i,i < ι.length → G8 ι i < nx) ∧ ∀ i j,i < ι.length → j < ι.length → G8 ι i = G8 ι j → i = j
 | [],nx,_=>⟨fun i hi=>absurd hi (Nat.not_lt_zero _),fun i j hi=>absurd hi (Nat.not_lt_zero _)⟩
 | a :: r,nx,h=>by
   simp only [o4,Bool.and_eq_true,Nat.blt_eq,Bool.not_eq_true'] at h
   obtain ⟨h1,h2⟩:=EH h.2
   have hmem:∀ i,i < r.length → G8 r i ∈ r:=fun i hi=>by simp [G8,List.getD,hi]
   have hna:a ∉ r:=by simpa using h.1.2
   refine ⟨fun i hi=>?_,fun i j hi hj he=>?_⟩
   ·cases i with
    | zero=>exact h.1.1
    | succ i=>exact h1 i (by simpa using hi)
   ·cases i with
    | zero =>
      cases j with
      | zero=>rfl
      | succ j=>exact absurd (show a ∈ r from (show a = G8 r j from he) ▸ hmem j (by simpa using hj)) hna
    | succ i =>
      cases j with
      | zero=>exact absurd (show a ∈ r from (show G8 r i = a from he) ▸ hmem i (by simpa using hi)) hna
      | succ j=>exact congrArg (· + 1) (h2 i j (by simpa using hi) (by simpa using hj) he)
def gρ (ι:List Nat) (m0 nx:Nat) (i:Nat):Nat:=cond (Nat.blt i m0) (G8 ι i) (nx + (i - m0))
def gs (ι:List Nat) (m0:Nat) (h:Hp) (i:Nat):Nat:=cond (Nat.blt i m0) (JX h (G8 ι i)) 0
theorem CS {ι:List Nat} {m0 nx i:Nat} (h:i < m0):gρ ι m0 nx i = G8 ι i:=by
 have:Nat.blt i m0 = true:=Nat.blt_eq ▸ h
 simp [gρ,this]
theorem Au {ι:List Nat} {m0 nx i:Nat} (h:¬ i < m0):gρ ι m0 nx i = nx + (i - m0):=by
 have:Nat.blt i m0 = false:=by
  cases hb:Nat.blt i m0
  ·rfl
  ·exact absurd (Nat.blt_eq ▸ hb) h
 simp [gρ,this]
theorem Kp {c c':Cx} {ρ s:Nat → Nat} (hθ:∀ i,i < c.nx → c'.θ (ρ i) = c.θ i) (hN:∀ i,i < c.nx → c'.θ.N (ρ i) = c.θ.N i) (hw:c'.w = c.w) (hU:∀ k,c.U k → c'.U k)
  (hrows:∀ i,i < c.nx → ∀ e sz v l,B2 c.hp i = some (.row e sz v l) → B2 c'.hp (ρ i) = some (.row e sz (v + s i) l))
  {i:Nat} {b:D9} (hi:i < c.nx) (hbox:∀ τ l,b = .bx τ l → N2 c.nx l = true) (o:J4 c' (ρ i) (T3 ρ s i b)) (hnl:∀ e sz v l,b = .row e sz v l → W6 e = false):J4 c i b:=by
 have imB:∀ {a:AV} {x:Value},Im c'.U c'.w a x → Im c.U c.w a x:=fun hi=>hi.mono (fun k _ _=>by rw [hw]) fun k _ hu=>hU k hu
 cases b with
 | bx τ l =>
   obtain ⟨b',arr,T,e1,e2,e3,e4⟩:=o
   refine ⟨b',arr,T,by rw [← hθ i hi];exact e1,by rw [← hw];exact e2,by rw [J6,List.length_map] at e3;exact e3,fun j u z hu hz=>?_⟩
   refine FM hθ hw hU hrows (T7 (hbox τ l rfl) u (List.mem_of_getElem? hu)) (e4 j _ z ?_ hz)
   rw [J6];simp [hu]
 | row e sz v l =>
   obtain ⟨xs,e1,e2,e3,e4⟩:=o
   refine ⟨xs,by rw [← hθ i hi, ← hw];exact e1,e2,fun k el hk j x hx=>?_,fun hne=>⟨fun k p hk=>by rw [← hw];exact (e4 hne).1 k p (by rw [hN i hi];exact hk),fun k el hk j e' sz' l' hj=>?_⟩⟩
   ·obtain ⟨y,hy,hi⟩:=e3 k el hk j x hx
    exact ⟨y,hy,imB hi⟩
   ·rcases (e4 hne).2 k el hk j e' sz' l' hj with ⟨q0,_⟩ | ⟨g,m,cap,y,ys,q1,q2,q3,q4,q5,q6,q7⟩
    ·rw [hnl _ _ _ _ rfl] at q0;cases q0
    exact .inr ⟨g,m,cap,y,ys,by rw [← hθ i hi];exact q1,by rw [← hw];exact q2,by rw [← hw];exact q3,q4,q5,fun q el' hq j' x hx=>by
     obtain ⟨z,hz,hi⟩:=q6 q el' hq j' x hx
     exact ⟨z,hz,imB hi⟩,fun b hb=>by rw [← hN i hi];exact q7 b hb⟩
 | map m =>
   obtain ⟨r,es,clock,e1,e2,e3,e4⟩:=o
   exact ⟨r,es,clock,by rw [← hθ i hi];exact e1,by rw [← hw];exact e2,e3,fun j q e hj he=>⟨(e4 j q e hj he).1,imB (e4 j q e hj he).2⟩⟩
 | it t p =>
   obtain ⟨r,e1,e2⟩:=o
   exact ⟨r,by rw [← hθ i hi];exact e1,by rw [← hw];exact e2⟩
theorem Kq {C:Cx} {A B:List AV} {x y:List Value} (h1:A.length = x.length) (ha:∀ (j:Nat) u v,A[j]? = some u → x[j]? = some v → C5 C u v) (hb:∀ (j:Nat) u v,B[j]? = some u → y[j]? = some v → C5 C u v):∀ (j:Nat) u v,(A ++ B)[j]? = some u → (x ++ y)[j]? = some v → C5 C u v:=fun j u v hu hv=>by
 by_cases hj:j < A.length
 ·rw [List.getElem?_append_left hj] at hu
  rw [List.getElem?_append_left (by omega)] at hv
  exact ha j u v hu hv
 ·rw [List.getElem?_append_right (by omega)] at hu
  rw [List.getElem?_append_right (by omega), ← h1] at hv
  exact hb _ u v hu hv
theorem JY {Cl:List Value → World → (Ending → World → Prop) → Prop} (hmono:∀ {vs:List Value} {w:World} {R R':Ending → World → Prop},Cl vs w R → (∀ e w',R e w' → R' e w') → Cl vs w R')
  {A args:List AV} {r:AV} {m0 m1:Nat} {hp0 hp1:Hp} (ι off:List Nat) {θ:Th} {a:Act} {w:World} (hs:H0 E n θ σ a w) {vs:List Value} (hAl:A.length = vs.length) (hr:∀ (j:Nat) x v,A[j]? = some x → vs[j]? = some v → C5 (cx E θ σ w) x v)
  (hL:Y1 (G8 ι) (G8 off) args = A) (hargs:N2 m0 args = true) (hι:Nat.beq ι.length m0 = true) (hιo:o4 ι σ.nx = true) (hblk:w9 σ.hp hp0 ι off m0) (hback:Y2 hp0 hp1 m0 = true)
  (hl0:G4 m0 hp0 = true) (hl1:G4 m1 hp1 = true) (hm:Nat.ble m0 m1 = true)
  (hc:∀ (X:Nat → Prop) (θc:Th),(∀ k,X k → k < w.heap.size) → N8 (fun k=>X k ∨ owned θc hp0 k) w → Gv X θc m0 hp0 w → (∀ k,owned θc hp0 k → (cx E θ σ w).own k) → (∀ k,E.X k → X k) → (∀ k,X k → (cx E θ σ w).U k) → args.length = vs.length → (∀ (j:Nat) a v,args[j]? = some a → vs[j]? = some v → C5 ⟨θc,m0,hp0,X,w⟩ a v) →
   Cl vs w (As X θc w m0 hp0 m1 hp1 r)) :
  Cl vs w fun e w'=>∃ v Θ,e = .returned v ∧ H0 E n Θ ⟨σ.sl,σ.nx + (m1 - m0),U6 (gρ ι m0 σ.nx) (gs ι m0 σ.hp) hp1 ++ σ.hp⟩ a w' ∧
   C5 (cx E Θ ⟨σ.sl,σ.nx + (m1 - m0),U6 (gρ ι m0 σ.nx) (gs ι m0 σ.hp) hp1 ++ σ.hp⟩ w') (J0 (gρ ι m0 σ.nx) (gs ι m0 σ.hp) r) v ∧ w.heap.size ≤ w'.heap.size ∧ ∀ k,k < w.heap.size → ¬ (cx E θ σ w).own k → w'.heap[k]? = w.heap[k]?:=by
 have hι:=Nat.eq_of_beq_eq_true hι
 have hm:=Nat.ble_eq ▸ hm
 obtain ⟨hιlt,hιinj⟩:=EH hιo
 rw [hι] at hιlt hιinj
 have hblk:=EG hblk
 have hback:=Cq hback
 let C:=cx E θ σ w
 let θc:Th:=⟨fun i=>θ (G8 ι i),fun i=>θ.N (G8 ι i)⟩
 let Xc:Nat → Prop:=fun k=>C.U k ∧ ¬ owned θc hp0 k
 let c0:Cx:=⟨θc,m0,hp0,Xc,w⟩
 have howned:∀ k,owned θc hp0 k → ∃ i b0,i < m0 ∧ B2 hp0 i = some b0 ∧ B2 σ.hp (G8 ι i) = some (T3 (G8 ι) (G8 off) i b0) ∧ FP θ (G8 ι i) (T3 (G8 ι) (G8 off) i b0) k:=by
  rintro k ⟨i,b,hi,hk⟩
  have hlt:=(X4 hl0 hi).1
  exact ⟨i,b,hlt,hi,by rw [hblk i hlt,hi];rfl,(FP.ren (θ:=θc) rfl rfl).2 hk⟩
 have hU0:∀ k,c0.U k → C.U k:=by
  rintro k (hk | hk)
  ·exact hk.1
  ·obtain ⟨i,b0,_,_,h1,h2⟩:=howned k hk
   exact .inr ⟨_,_,h1,h2⟩
 have hrows0:∀ i,i < c0.nx → ∀ e sz v l,B2 c0.hp i = some (.row e sz v l) → B2 C.hp (G8 ι i) = some (.row e sz (v + G8 off i) l):=by
  intro i hi e sz v l hl
  have:=hblk i hi
  have hl':B2 hp0 i = some (.row e sz v l):=hl
  rw [hl'] at this
  exact this
 have hlen:args.length = vs.length:=by
  have:=congrArg List.length hL
  rw [J6,List.length_map] at this
  rw [this,hAl]
 have hbok:Gv Xc θc m0 hp0 w:=by
  refine ⟨fun i b hi=>?_,fun i j b b' k hi hj hki hkj=>?_,fun i b k hi hk hX=>hX.2 ⟨i,b,hi,hk⟩⟩
  ·obtain ⟨hlt,hbx⟩:=X4 hl0 hi
   have h1:B2 σ.hp (G8 ι i) = some (T3 (G8 ι) (G8 off) i b):=by rw [hblk i hlt,hi];rfl
   exact ⟨hlt,Kp (c:=c0) (c':=C) (fun i _=>rfl) (fun i _=>rfl) rfl hU0 hrows0 hlt hbx (hs.owns _ _ h1).2 fun e sz v l e2=>CQ hl0 (e2 ▸ hi)⟩
  ·have h1:=(X4 hl0 hi).1
   have h2:=(X4 hl0 hj).1
   refine hιinj i j h1 h2 (hs.apart _ _ (T3 (G8 ι) (G8 off) i b) (T3 (G8 ι) (G8 off) j b') k (by rw [hblk i h1,hi];rfl) (by rw [hblk j h2,hj];rfl) ((FP.ren (θ:=θc) rfl rfl).2 hki) ((FP.ren (θ:=θc) rfl rfl).2 hkj))
 have howU:∀ k,owned θc hp0 k → C.own k:=fun k hk=>by
  obtain ⟨i,b0,_,_,h1,h2⟩:=howned k hk
  exact ⟨_,_,h1,h2⟩
 have hcall:=hc Xc θc (fun k hk=>hs.evT.Ult k hk.1) (hs.evT.tab.mono (fun k _ hk=>hk.elim (fun h=>h.1) (fun h=>hU0 k (.inr h))) fun _ _ _=>rfl) hbok howU (fun k hk=>⟨.inl hk,fun ho=>by
  obtain ⟨i,b0,_,_,h1,h2⟩:=howned k ho
  exact (hs.mine _ _ k h1 h2).1 hk⟩) (fun _ hk=>hk.1) hlen fun j av v hj hv=>by
  refine FM (c:=c0) (c':=C) (ρ:=G8 ι) (s:=G8 off) (fun i _=>rfl) rfl hU0 hrows0 (T7 hargs av (List.mem_of_getElem? hj)) (hr j _ v ?_ hv)
  rw [← hL,J6];simp [hj]
 refine hmono hcall ?_
 rintro e w' ⟨⟨v,θ',rfl,hv,hbk',hown',hθ'⟩,hos,htape,hout,hsize,hblock⟩
 let ρ:=gρ ι m0 σ.nx
 let s:=gs ι m0 σ.hp
 have hρinj:∀ i j,i < m1 → j < m1 → ρ i = ρ j → i = j:=by
  intro i j hi hj he
  by_cases h1:i < m0 <;> by_cases h2:j < m0
  ·exact hιinj i j h1 h2 (by simpa only [ρ,CS h1,CS h2] using he)
  ·have:=hιlt i h1
   simp only [ρ,CS h1,Au h2] at he
   omega
  ·have:=hιlt j h2
   simp only [ρ,Au h1,CS h2] at he
   omega
  ·simp only [ρ,Au h1,Au h2] at he
   omega
 have hρlt:∀ j,j < m1 → ρ j < σ.nx + (m1 - m0):=by
  intro j hj
  by_cases h1:j < m0
  ·have:=hιlt j h1;simp only [ρ,CS h1];omega
  ·simp only [ρ,Au h1];omega
 have hρold:∀ j,j < m1 → ρ j < σ.nx → j < m0:=by
  intro j hj hlt
  by_cases h1:j < m0
  ·exact h1
  ·simp only [ρ,Au h1] at hlt;omega
 let Θ:Th:=⟨fun i=>open Classical in if h:∃ j,j < m1 ∧ ρ j = i then θ' (Classical.choose h) else θ i,fun i=>open Classical in if h:∃ j,j < m1 ∧ ρ j = i then θ'.N (Classical.choose h) else θ.N i⟩
 have hΘ1:∀ j,j < m1 → Θ (ρ j) = θ' j:=by
  intro j hj
  have hex:∃ j',j' < m1 ∧ ρ j' = ρ j:=⟨j,hj,rfl⟩
  have:Classical.choose hex = j:=hρinj _ _ (Classical.choose_spec hex).1 hj (Classical.choose_spec hex).2
  simp only [Θ,dif_pos hex,this]
 have hN1:∀ j,j < m1 → Θ.N (ρ j) = θ'.N j:=by
  intro j hj
  have hex:∃ j',j' < m1 ∧ ρ j' = ρ j:=⟨j,hj,rfl⟩
  have:Classical.choose hex = j:=hρinj _ _ (Classical.choose_spec hex).1 hj (Classical.choose_spec hex).2
  simp only [Θ,dif_pos hex,this]
 have hN2:∀ i,(∀ j,j < m1 → ρ j ≠ i) → Θ.N i = θ.N i:=by
  intro i hi
  have:¬ ∃ j,j < m1 ∧ ρ j = i:=fun ⟨j,hj,he⟩=>hi j hj he
  simp only [Θ,dif_neg this]
 have hΘ2:∀ i,(∀ j,j < m1 → ρ j ≠ i) → Θ i = θ i:=by
  intro i hi
  have:¬ ∃ j,j < m1 ∧ ρ j = i:=fun ⟨j,hj,he⟩=>hi j hj he
  simp only [Θ,dif_neg this]
 have hF1:∀ {j:Nat} {b:D9} {k:Nat},j < m1 → FP Θ (ρ j) (T3 ρ s j b) k → FP θ' j b k:=fun hj h=>(FP.ren (hΘ1 _ hj) (hN1 _ hj)).1 h
 have hF2:∀ {i:Nat} {b:D9} {k:Nat},(∀ j,j < m1 → ρ j ≠ i) → FP Θ i b k → FP θ i b k:=fun hi h=>by
  unfold FP at h ⊢
  rwa [hΘ2 _ hi,hN2 _ hi] at h
 let HP:=U6 ρ s hp1 ++ σ.hp
 let σ':St:=⟨σ.sl,σ.nx + (m1 - m0),HP⟩
 have hnone:∀ i,σ.nx ≤ i → B2 σ.hp i = none:=by
  intro i hi
  cases hx:B2 σ.hp i with
  | none=>rfl
  | some b=>have:=(hs.owns i b hx).1;omega
 have hlk1:∀ j,j < m1 → B2 HP (ρ j) = (B2 hp1 j).map (T3 ρ s j):=by
  intro j hj
  have:=EF (ρ:=ρ) (s:=s) hρinj hp1 σ.hp hl1 j hj
  unfold B2
  rw [this]
  cases hx:look hp1 j with
  | some b=>cases b <;> rfl
  | none =>
    simp only [Option.map_none]
    have hge:¬ j < m0:=fun h=>by have:=(hback j h).1;rw [hx] at this;cases this
    have h2:=hnone (ρ j) (by simp only [ρ,Au hge];omega)
    exact h2
 have hlk2:∀ i,(∀ j,j < m1 → ρ j ≠ i) → B2 HP i = B2 σ.hp i:=by
  intro i hi
  unfold B2
  rw [s9 (ρ:=ρ) (s:=s) hp1 σ.hp hl1 i hi]
 have hm0:∀ j,j < m0 → ρ j = G8 ι j:=fun j hj=>CS hj
 have hownU:∀ k,owned θc hp0 k → C.own k:=fun k hk=>by
  obtain ⟨i,b0,_,_,h1,h2⟩:=howned k hk
  exact ⟨_,_,h1,h2⟩
 have hnotX:∀ k,owned θc hp0 k → ¬ E.X k ∧ (E.O k ∨ E.w0.heap.size ≤ k):=fun k hk=>by
  obtain ⟨i,b0,_,_,h1,h2⟩:=howned k hk
  exact hs.mine _ _ k h1 h2
 have hother:∀ i b k,B2 σ.hp i = some b → (∀ j,j < m1 → ρ j ≠ i) → FP θ i b k → ¬ owned θc hp0 k:=fun i b k hi hno hk ho=>by
  obtain ⟨j,b0,hj,_,h1,h2⟩:=howned k ho
  have:=hs.apart _ _ _ _ k hi h1 hk h2
  exact hno j (by omega) (by rw [hm0 j hj];exact this.symm)
 let C':=cx E Θ σ' w'
 have le:C.le C':=by
  refine ⟨Nat.le_add_right _ _,fun i hi=>?_,fun i hi e' sz' v' l' hl=>?_,hsize,fun k hk hu=>hblock k hk fun ho=>hu (.inr (hownU k ho)),fun k hk hu=>?_⟩
  ·by_cases hex:∃ j,j < m1 ∧ ρ j = i
   ·obtain ⟨j,hj,rfl⟩:=hex
    have hj0:=hρold j hj hi
    have h1:=hθ' j hj0
    have h2:θc j = θ (ρ j):=by rw [hm0 j hj0]
    rw [h2] at h1
    show Θ (ρ j) = θ (ρ j) ∨ _
    rw [hΘ1 j hj]
    exact h1.imp id (·.1)
   ·exact .inl (hΘ2 i fun j hj he=>hex ⟨j,hj,he⟩)
  ·by_cases hex:∃ j,j < m1 ∧ ρ j = i
   ·obtain ⟨j,hj,rfl⟩:=hex
    have hj0:=hρold j hj hi
    have h1:B2 HP (ρ j) = some (.row e' sz' v' l'):=hl
    rw [hlk1 j hj,Option.map_eq_some_iff] at h1
    obtain ⟨b,hb,hbr⟩:=h1
    cases b with
    | bx τ l=>cases hbr
    | map m=>cases hbr
    | it _ _=>cases hbr
    | row e1 sz1 v1 l1 =>
      simp only [T3] at hbr
      cases hbr
      obtain ⟨e0,v0,l0,h0,hke⟩:=(hback j hj0).2 _ _ _ _ hb
      have h3:=hrows0 j hj0 e0 sz' v0 l0 h0
      refine ⟨e0,v0 + G8 off j,l0,by rw [hm0 j hj0];exact h3,?_⟩
      have h3':B2 σ.hp (G8 ι j) = some (.row e0 sz' (v0 + G8 off j) l0):=h3
      have hb2:Nat.blt j m0 = true:=Nat.blt_eq ▸ hj0
      by_cases hk:L4 e0 = true
      ·have hsj:s j = v0 + G8 off j:=by
        simp only [s,gs,hb2,JX,h3',hk,cond]
       by_cases hv0:v1 = 0
       ·have hth:θ' j = θ (G8 ι j):=(hθ' j hj0).resolve_right fun h=>h.2 ⟨_,_,_,_,hb,hke.trans hk⟩
        obtain ⟨x1,o1,_⟩:=(hbk'.owns j _ hb).2
        obtain ⟨x2,o2,_⟩:=(hs.owns _ _ h3').2
        have o1':J7 w' e' sz' (θ' j) l'.length x1:=o1
        have o2':J7 w e0 sz' (θ (G8 ι j)) l0.length x2:=o2
        rw [hth] at o1'
        refine .inr ⟨by rw [hsj];omega,o2'.len o1',?_⟩
        show Θ (ρ j) = θ (ρ j)
        rw [hΘ1 j hj,hth,hm0 j hj0]
       ·exact .inl (by rw [hsj];omega)
      ·have:s j = v0 + G8 off j + 1:=by
        have hk2:L4 e0 = false:=by
         cases hx:L4 e0 with
         | false=>rfl
         | true=>exact absurd hx hk
        simp only [s,gs,hb2,JX,h3',hk2,cond]
       exact .inl (by omega)
   ·have h1:B2 HP i = some (.row e' sz' v' l'):=hl
    have hno:∀ j,j < m1 → ρ j ≠ i:=fun j hj he=>hex ⟨j,hj,he⟩
    rw [hlk2 i hno] at h1
    exact ⟨e',v',l',h1, .inr ⟨rfl,rfl,hΘ2 i hno⟩⟩
  ·rcases hu with hu | ⟨i,b,hi,hk'⟩
   ·exact .inl hu
   ·have hi':B2 HP i = some b:=hi
    have hk2:FP Θ i b k:=hk'
    by_cases hex:∃ j,j < m1 ∧ ρ j = i
    ·obtain ⟨j,hj,rfl⟩:=hex
     rw [hlk1 j hj,Option.map_eq_some_iff] at hi'
     obtain ⟨b1,hb1,rfl⟩:=hi'
     rcases hown' j b1 k hb1 (hF1 hj hk2) with h | h
     ·exact .inr (hownU k h)
     ·have hk3:k < w.heap.size:=hk
      omega
    ·have hno:∀ j,j < m1 → ρ j ≠ i:=fun j hj he=>hex ⟨j,hj,he⟩
     rw [hlk2 i hno] at hi'
     exact .inr ⟨i,b,hi',hF2 hno hk2⟩
 have ren:Ren ⟨θ',m1,hp1,Xc,w'⟩ C' ρ s:=by
  refine ⟨hρlt,hΘ1,hN1,rfl,fun k hu=>?_,fun j hj e sz v' l hl=>?_⟩
  ·rcases hu with hu | ⟨i,b,hi,hk⟩
   ·exact .inl ⟨.inl hu,fun ho=>(hnotX k ho).1 hu⟩
   ·have hi':B2 HP i = some b:=hi
    have hk2:FP Θ i b k:=hk
    by_cases hex:∃ j,j < m1 ∧ ρ j = i
    ·obtain ⟨j,hj,rfl⟩:=hex
     rw [hlk1 j hj,Option.map_eq_some_iff] at hi'
     obtain ⟨b1,hb1,rfl⟩:=hi'
     exact .inr ⟨j,b1,hb1,hF1 hj hk2⟩
    ·have hno:∀ j,j < m1 → ρ j ≠ i:=fun j hj he=>hex ⟨j,hj,he⟩
     rw [hlk2 i hno] at hi'
     have hk2:=hF2 hno hk2
     exact .inl ⟨.inr ⟨i,b,hi',hk2⟩,hother i b k hi' hno hk2⟩
  ·have h1:B2 HP (ρ j) = some (.row e sz v' l):=hl
   rw [hlk1 j hj,Option.map_eq_some_iff] at h1
   obtain ⟨b,hb,hbr⟩:=h1
   cases b with
   | bx τ l=>cases hbr
   | map m=>cases hbr
   | it _ _=>cases hbr
   | row e1 sz1 v1 l1 =>
     simp only [T3] at hbr
     cases hbr
     exact ⟨v1,hb,rfl⟩
 have hsat:H0 E n Θ σ' a w':=by
  refine ⟨hs.size,hs.defers.mono fun k hd=>hblock k (Fz hd) fun ho=>(hbok.nodf ho) hd,⟨hos.trans hs.fr.os,htape.trans hs.fr.tape,hout.trans hs.fr.output,Nat.le_trans hs.fr.size hsize,fun k hk hO=>?_⟩,fun t x hx=>(hs.slots t x hx).mono le,fun i b hi=>?_,fun i1 i2 b1 b2 k h1 h2 hk1 hk2=>?_,fun i b k hi hk=>?_,hs.X,⟨by have:=hs.base.1;show E.n0 ≤ σ.nx + _;omega,fun i hi=>?_⟩⟩
  ·have h1:=hs.fr.size
   rw [hblock k (by omega) fun ho=>?_]
   ·exact hs.fr.block k hk hO
   ·rcases (hnotX k ho).2 with h2 | h2
    ·exact hO h2
    ·omega
  ·have hi':B2 HP i = some b:=hi
   by_cases hex:∃ j,j < m1 ∧ ρ j = i
   ·obtain ⟨j,hj,rfl⟩:=hex
    rw [hlk1 j hj,Option.map_eq_some_iff] at hi'
    obtain ⟨b1,hb1,rfl⟩:=hi'
    exact ⟨hρlt j hj,OQ ren hj (hbk'.owns j b1 hb1).2 fun e sz v l e2=>CQ hl1 (e2 ▸ hb1)⟩
   ·have hno:∀ j,j < m1 → ρ j ≠ i:=fun j hj he=>hex ⟨j,hj,he⟩
    rw [hlk2 i hno] at hi'
    obtain ⟨h1,h2⟩:=hs.owns i b hi'
    refine ⟨by show i < σ.nx + _;omega,h2.mono le (hΘ2 i hno) (fun k=>congrFun (hN2 i hno) k) fun k hk=>hblock k (h2.lt hk) (hother i b k hi' hno hk)⟩
  ·have h1':B2 HP i1 = some b1:=h1
   have h2':B2 HP i2 = some b2:=h2
   by_cases e1:∃ j,j < m1 ∧ ρ j = i1 <;> by_cases e2:∃ j,j < m1 ∧ ρ j = i2
   ·obtain ⟨j1,hj1,rfl⟩:=e1
    obtain ⟨j2,hj2,rfl⟩:=e2
    rw [hlk1 j1 hj1,Option.map_eq_some_iff] at h1'
    rw [hlk1 j2 hj2,Option.map_eq_some_iff] at h2'
    obtain ⟨c1,hc1,rfl⟩:=h1'
    obtain ⟨c2,hc2,rfl⟩:=h2'
    rw [hbk'.apart j1 j2 c1 c2 k hc1 hc2 (hF1 hj1 hk1) (hF1 hj2 hk2)]
   ·obtain ⟨j1,hj1,rfl⟩:=e1
    have hno:∀ j,j < m1 → ρ j ≠ i2:=fun j hj he=>e2 ⟨j,hj,he⟩
    rw [hlk1 j1 hj1,Option.map_eq_some_iff] at h1'
    obtain ⟨c1,hc1,rfl⟩:=h1'
    have hk1:=hF1 hj1 hk1
    rw [hlk2 i2 hno] at h2'
    have hk2:=hF2 hno hk2
    rcases hown' j1 c1 k hc1 hk1 with h | h
    ·exact absurd h (hother i2 b2 k h2' hno hk2)
    ·have:=(hs.owns i2 b2 h2').2.lt hk2
     have h3:k < w.heap.size:=this
     omega
   ·obtain ⟨j2,hj2,rfl⟩:=e2
    have hno:∀ j,j < m1 → ρ j ≠ i1:=fun j hj he=>e1 ⟨j,hj,he⟩
    rw [hlk1 j2 hj2,Option.map_eq_some_iff] at h2'
    obtain ⟨c2,hc2,rfl⟩:=h2'
    have hk2:=hF1 hj2 hk2
    rw [hlk2 i1 hno] at h1'
    have hk1:=hF2 hno hk1
    rcases hown' j2 c2 k hc2 hk2 with h | h
    ·exact absurd h (hother i1 b1 k h1' hno hk1)
    ·have:=(hs.owns i1 b1 h1').2.lt hk1
     have h3:k < w.heap.size:=this
     omega
   ·have hno1:∀ j,j < m1 → ρ j ≠ i1:=fun j hj he=>e1 ⟨j,hj,he⟩
    have hno2:∀ j,j < m1 → ρ j ≠ i2:=fun j hj he=>e2 ⟨j,hj,he⟩
    rw [hlk2 i1 hno1] at h1'
    rw [hlk2 i2 hno2] at h2'
    exact hs.apart i1 i2 b1 b2 k h1' h2' (hF2 hno1 hk1) (hF2 hno2 hk2)
  ·have hi':B2 HP i = some b:=hi
   by_cases hex:∃ j,j < m1 ∧ ρ j = i
   ·obtain ⟨j,hj,rfl⟩:=hex
    rw [hlk1 j hj,Option.map_eq_some_iff] at hi'
    obtain ⟨c1,hc1,rfl⟩:=hi'
    rcases hown' j c1 k hc1 (hF1 hj hk) with h | h
    ·exact hnotX k h
    ·have h1:=hs.fr.size
     exact ⟨fun hx=>by have:=hs.X k hx;omega, .inr (by omega)⟩
   ·have hno:∀ j,j < m1 → ρ j ≠ i:=fun j hj he=>hex ⟨j,hj,he⟩
    rw [hlk2 i hno] at hi'
    exact hs.mine i b k hi' (hF2 hno hk)
  ·have hnx:i < σ.nx:=by have:=hs.base.1;omega
   show Θ i = _ ∨ _ ∧ ¬ Kept HP i
   by_cases hex:∃ j,j < m1 ∧ ρ j = i
   ·obtain ⟨j,hj,rfl⟩:=hex
    have hj0:=hρold j hj hnx
    have h1:=hθ' j hj0
    have h2:θc j = θ (ρ j):=by rw [hm0 j hj0]
    rw [h2] at h1
    rw [hΘ1 j hj]
    by_cases hkp:Kept HP (ρ j)
    ·obtain ⟨e,sz,v,l,hl,hk⟩:=hkp
     have hl2:=hl
     rw [hlk1 j hj,Option.map_eq_some_iff] at hl2
     obtain ⟨b,hb,hbr⟩:=hl2
     cases b with
     | bx _ _=>cases hbr
     | map _=>cases hbr
     | it _ _=>cases hbr
     | row e1 sz1 v1 l1 =>
       simp only [T3] at hbr
       cases hbr
       have hth:=h1.resolve_right fun h=>h.2 ⟨_,_,_,_,hb,hk⟩
       obtain ⟨e0,v0,l0,h0,hke⟩:=(hback j hj0).2 _ _ _ _ hb
       have h3:=hrows0 j hj0 _ _ _ _ h0
       rw [hth]
       rcases hs.base.2 (ρ j) hi with h4 | ⟨_,h4⟩
       ·exact .inl h4
       ·exact absurd ⟨_,_,_,_,(by rw [hm0 j hj0];exact h3),hke.symm.trans hk⟩ h4
    ·rcases h1 with h1 | ⟨⟨x,m,k,h1⟩,_⟩
     ·rw [h1]
      exact (hs.base.2 _ hi).imp id fun h=>⟨h.1,hkp⟩
     ·rcases hs.base.2 _ hi with h4 | ⟨h4,_⟩
      ·exact .inr ⟨⟨x,m,k,by rw [← h4,h1]⟩,hkp⟩
      ·exact .inr ⟨h4,hkp⟩
   ·have hno:∀ j,j < m1 → ρ j ≠ i:=fun j hj he=>hex ⟨j,hj,he⟩
    rw [hΘ2 i hno]
    refine (hs.base.2 i hi).imp id fun ⟨h1,h2⟩=>⟨h1,fun ⟨e,sz,v,l,hl,hk⟩=>h2 ⟨e,sz,v,l,?_,hk⟩⟩
    rw [← hlk2 i hno];exact hl
 exact ⟨v,Θ,rfl,hsat,IW ren hv,hsize,fun k hk hno=>hblock k hk fun ho=>hno (howU k ho)⟩
theorem FO {f:Nat} {g:Operand} {xs:List Operand} {ts:Array TypeId} {L args caps capF:List AV} {r:AV} {m0 m1:Nat} {hp0 hp1:Hp} (ι off:List Nat) (hc:D4 P f m0 hp0 args m1 hp1 r)
  (hg:(capF = [] ∧ caps = [] ∧ g = .func f) ∨ (capF = [] ∧ f < BX ∧ D8 σ g = some (.fo f caps)) ∨ (caps = [] ∧ D8 σ g = some (.fo (BX + f) capF))) (hev:P9 (D8 σ) xs = some L) (hL:Y1 (G8 ι) (G8 off) args = capF ++ L ++ caps) (hargs:N2 m0 args = true) (hι:Nat.beq ι.length m0 = true) (hιo:o4 ι σ.nx = true) (hblk:w9 σ.hp hp0 ι off m0) (hback:Y2 hp0 hp1 m0 = true)
  (hl0:G4 m0 hp0 = true) (hl1:G4 m1 hp1 = true) (hm:Nat.ble m0 m1 = true) (hd:Nat.blt d n = true)
  (k:B6 P E n ops rest (St.put ⟨σ.sl,σ.nx + (m1 - m0),U6 (gρ ι m0 σ.nx) (gs ι m0 σ.hp) hp1 ++ σ.hp⟩ d (J0 (gρ ι m0 σ.nx) (gs ι m0 σ.hp) r)) K) :
  B6 P E n ops (⟨some d, .call ⟨.value g,⟨xs⟩,ts⟩,ty,pos,after,none⟩ :: rest) σ K:=by
 intro a w ⟨θ,hs⟩
 obtain ⟨hl,hr0⟩:=W7 hs.evT xs L hev
 let C:=cx E θ σ w
 obtain ⟨cf,cs,hge,hfl,hfr,hcl,hcr⟩:∃ cf cs:List Value,a.eval g = .func (.func f) cf.toArray cs.toArray ∧ capF.length = cf.length ∧ (∀ (j:Nat) x c,capF[j]? = some x → cf[j]? = some c → C5 C x c) ∧ caps.length = cs.length ∧ ∀ (j:Nat) x c,caps[j]? = some x → cs[j]? = some c → C5 C x c:=by
  rcases hg with ⟨rfl,rfl,rfl⟩ | ⟨rfl,hf,hg⟩ | ⟨rfl,hg⟩
  ·exact ⟨[],[],rfl,rfl,fun j x c hx=>by simp at hx,rfl,fun j x c hx=>by simp at hx⟩
  ·have:=hs.ev hg
   generalize a.eval g = v at this
   cases this with
   | im hi=>cases hi
   | fo f l cs hl hc=>exact ⟨[],cs,by unfold IH;rw [if_pos hf],rfl,fun j x c hx=>by simp at hx,hl,hc⟩
  ·have:=hs.ev hg
   generalize a.eval g = v at this
   generalize hF:BX + f = F at this
   cases this with
   | im hi=>cases hi
   | fo F l cs hl hc=>exact ⟨cs,[],by unfold IH;rw [if_neg (by omega), ← hF,Nat.add_sub_cancel_left],hl,hc,rfl,fun j x c hx=>by simp at hx⟩
 have hlm:L.length = (xs.map a.eval).length:=by rw [List.length_map, ← hl]
 have hr:∀ (j:Nat) x v,(capF ++ L ++ caps)[j]? = some x → (cf ++ xs.map a.eval ++ cs)[j]? = some v → C5 C x v :=
  Kq (by rw [List.length_append,List.length_append,hfl,hlm]) (Kq hfl hfr hr0) hcr
 unfold wpList
 rw [if_pos (by simp [Region.wanted])]
 left
 simp only [Oper.wp]
 rw [KO hc.1 hge]
 simp only [Oper.upon]
 rw [show cf.toArray ++ (xs.map a.eval).toArray ++ cs.toArray = (cf ++ xs.map a.eval ++ cs).toArray by simp]
 refine Calls.mono (JY (Cl:=fun vs w R=>Calls P f vs.toArray w R) (fun h hr=>Calls.mono h hr) (args:=args) (r:=r) (hp1:=hp1) ι off hs (by rw [List.length_append,List.length_append,List.length_append,List.length_append,hlm,hfl,hcl]) hr hL hargs hι hιo hblk hback hl0 hl1 hm fun X θc hX ht hb _ _ _ hl hv=>hc.2 X θc w _ hX ht hb hl hv) ?_
 rintro e w' ⟨v,Θ,rfl,hsat,hrel,_⟩
 exact k _ _ ⟨Θ,hsat.put (Nat.blt_eq ▸ hd) hrel⟩
theorem AN {f:Nat} {xs:List Operand} {ts:Array TypeId} {L args:List AV} {r:AV} {m0 m1:Nat} {hp0 hp1:Hp} (ι off:List Nat) (hc:D4 P f m0 hp0 args m1 hp1 r)
  (hev:P9 (D8 σ) xs = some L) (hL:Y1 (G8 ι) (G8 off) args = L) (hargs:N2 m0 args = true) (hι:Nat.beq ι.length m0 = true) (hιo:o4 ι σ.nx = true) (hblk:w9 σ.hp hp0 ι off m0) (hback:Y2 hp0 hp1 m0 = true)
  (hl0:G4 m0 hp0 = true) (hl1:G4 m1 hp1 = true) (hm:Nat.ble m0 m1 = true) (hd:Nat.blt d n = true)
  (k:B6 P E n ops rest (St.put ⟨σ.sl,σ.nx + (m1 - m0),U6 (gρ ι m0 σ.nx) (gs ι m0 σ.hp) hp1 ++ σ.hp⟩ d (J0 (gρ ι m0 σ.nx) (gs ι m0 σ.hp) r)) K) :
  B6 P E n ops (⟨some d, .call ⟨.value (.func f),⟨xs⟩,ts⟩,ty,pos,after,none⟩ :: rest) σ K :=
 FO (caps:=[]) (capF:=[]) ι off hc (.inl ⟨rfl,rfl,rfl⟩) hev (by rw [List.append_nil,List.nil_append];exact hL) hargs hι hιo hblk hback hl0 hl1 hm hd k
theorem OR {f:Nat} {xs:List Operand} {ts:Array TypeId} {L args:List AV} {r:AV} {m0 m1:Nat} {hp0 hp1:Hp} (ι off:List Nat) (hc:D4 P f m0 hp0 args m1 hp1 r)
  (hev:P9 (D8 σ) xs = some L) (hL:Y1 (G8 ι) (G8 off) args = L) (hargs:N2 m0 args = true) (hι:Nat.beq ι.length m0 = true) (hιo:o4 ι σ.nx = true) (hblk:w9 σ.hp hp0 ι off m0) (hback:Y2 hp0 hp1 m0 = true)
  (hl0:G4 m0 hp0 = true) (hl1:G4 m1 hp1 = true) (hm:Nat.ble m0 m1 = true) (hd:Nat.blt d n = true)
  (k:L5 (J0 (gρ ι m0 σ.nx) (gs ι m0 σ.hp) r) fun r2=>N9 (U6 (gρ ι m0 σ.nx) (gs ι m0 σ.hp) hp1 ++ σ.hp) fun hp2=>F2 (σ.nx + (m1 - m0)) fun nx2=>B6 P E n ops rest (St.put ⟨σ.sl,nx2,hp2⟩ d r2) K) :
  B6 P E n ops (⟨some d, .call ⟨.value (.func f),⟨xs⟩,ts⟩,ty,pos,after,none⟩ :: rest) σ K :=
 AN ι off hc hev hL hargs hι hιo hblk hback hl0 hl1 hm hd (D2 (O7 (o0 k)))
theorem IX {f:Nat} {g:Operand} {xs:List Operand} {ts:Array TypeId} {L args caps:List AV} {r:AV} {m0 m1:Nat} {hp0 hp1:Hp} (ι off:List Nat) (hc:D4 P f m0 hp0 args m1 hp1 r)
  (hg:D8 σ g = some (.fo f caps)) (hev:P9 (D8 σ) xs = some L) (hL:Y1 (G8 ι) (G8 off) args = L ++ caps) (hargs:N2 m0 args = true) (hι:Nat.beq ι.length m0 = true) (hιo:o4 ι σ.nx = true) (hblk:w9 σ.hp hp0 ι off m0) (hback:Y2 hp0 hp1 m0 = true)
  (hl0:G4 m0 hp0 = true) (hl1:G4 m1 hp1 = true) (hm:Nat.ble m0 m1 = true) (hd:Nat.blt d n = true)
  (k:L5 (J0 (gρ ι m0 σ.nx) (gs ι m0 σ.hp) r) fun r2=>N9 (U6 (gρ ι m0 σ.nx) (gs ι m0 σ.hp) hp1 ++ σ.hp) fun hp2=>F2 (σ.nx + (m1 - m0)) fun nx2=>B6 P E n ops rest (St.put ⟨σ.sl,nx2,hp2⟩ d r2) K) (hf:Nat.blt f BX = true:=by rfl) :
  B6 P E n ops (⟨some d, .call ⟨.value g,⟨xs⟩,ts⟩,ty,pos,after,none⟩ :: rest) σ K :=
 FO (capF:=[]) ι off hc (.inr (.inl ⟨rfl,by simpa using hf,hg⟩)) hev (by rw [List.nil_append];exact hL) hargs hι hιo hblk hback hl0 hl1 hm hd (D2 (O7 (o0 k)))
theorem MU {f:Nat} {xs:List Operand} {caps l:List AV} (ha:P9 (D8 σ) xs = some caps) (hd:Nat.blt d n = true) (k:B6 P E n ops rest (σ.put d (.fo f caps)) K) (hf:Nat.blt f BX = true:=by rfl) :
  O6 P E n ops ⟨some d, .makeFunc (.func f) ⟨[]⟩ ⟨xs⟩,ty,pos,after,none⟩ rest l σ K :=
 ⟨GP (Gg ha (by simpa using hf)) hd k⟩
end rules
section pure
variable {P:Program} {E:Env} {nx:Nat} {hp:Hp} {ev:Operand → Option AV} {ty:TypeId} {x y:Operand} {F:AV → Prop} {T T2:TypeId}
theorem Pl {av:AV} (hx:ev x = some av):k9 P E nx hp ev (.move x) ty av:=fun _ _ _ _ _ _ h=>⟨_,fun _=>rfl,h.rel hx⟩
theorem MW {av:AV} (hx:ev x = some av):k9 P E nx hp ev (.assign x) ty av:=fun _ _ _ _ _ _ h=>⟨_,fun _=>rfl,h.rel hx⟩
theorem Gx {op:BinOp} {k:IntKind} {a b:Int} {r:Value} (hx:ev x = some (.v (.int k a))) (hy:ev y = some (.v (.int k b))) (hr:X8 op k a b = some r) :
  k9 P E nx hp ev (.binOp op T x y T2) ty (.v r) :=
 fun _ _ _ _ _ _ h=>⟨r,fun w=>G1 (by rw [(h.rel hx).val,(h.rel hy).val];exact S4 ..) (by rw [(h.rel hx).val,(h.rel hy).val];exact GR hr T w), .im (.v _)⟩
theorem Pm {a b:List UInt8} (hx:ev x = some (.str a)) (hy:ev y = some (.str b)) (hr:a.length + b.length ≤ 9223372036854775807) :
  k9 P E nx hp ev (.binOp .add T x y T2) ty (.str (a ++ b)) :=
 fun _ _ _ _ _ _ h=>⟨_,fun w=>G1 (by rw [(h.rel hx).sval,(h.rel hy).sval];exact y9 ..) (by rw [(h.rel hx).sval,(h.rel hy).sval];exact GS hr T w), .im (.str _)⟩
theorem Hw {S f off sz:Nat} [tf:L3 P S f off sz] {i o:Nat} (hx:ev x = some (.ref i o)) (hz:Nat.blt 0 sz = true):k9 P E nx hp ev (.fieldAddr S x f) ty (.ref i (o + off)) :=
 fun _ _ _ θ a w h=>by
  obtain ⟨b,hθ,hv,hnx⟩:=O2 (h.rel hx)
  refine ⟨.pointer (some ⟨b,o + off,none⟩),fun w=>?_, .ref i _ b hnx hθ⟩
  simp only [execOp,hv,Sem.run_bind,S5 (P:=P) (S:=S) (f:=f) (off:=off) (sz:=sz) (Nat.blt_eq ▸ hz),Result.andThen_ok,F3]
  rfl
theorem Gy {S f off sz:Nat} [tf:L3 P S f off sz] {l:List AV} (hx:ev x = some (.iptr l)) (hz:Nat.blt 0 sz = true):k9 P E nx hp ev (.fieldAddr S x f) ty (.iptr (l.drop off)) :=
 fun _ _ _ θ a w h=>by
  obtain ⟨p,g,hv,hu,hc,hr⟩:=Z7 (h.rel hx)
  refine ⟨.pointer (some (p.add off)),fun w=>?_, .im (.iptr _ _ (fun j=>g (off + j)) (fun hne=>?_) (fun j hj=>?_) fun j u hu'=>?_)⟩
  ·simp only [execOp,hv,Sem.run_bind,S5 (P:=P) (S:=S) (f:=f) (off:=off) (sz:=sz) (Nat.blt_eq ▸ hz),Result.andThen_ok]
   rfl
  ·rw [M1];exact hu (by rintro rfl;simp at hne)
  ·rw [Z8];exact hc _ (by simp at hj;omega)
  ·rw [List.getElem?_drop] at hu';exact hr _ _ hu'
theorem Hx {S f off sz:Nat} [tf:L3 P S f off sz] {i ver k o e szR:Nat} {l:List (List AV)} (hx:ev x = some (.elt i ver k o)) (hb:B2 hp i = some (.row e szR ver l)) (hz:Nat.blt 0 sz = true):k9 P E nx hp ev (.fieldAddr S x f) ty (.elt i ver k (o + off)) :=
 fun _ _ _ θ a w h=>by
  obtain ⟨g,m,cap,hθ,hv,hnx⟩:=X2 (h.rel hx) hb
  refine ⟨.pointer (some ⟨g,k * szR + o + off,none⟩),fun w=>?_, .elt i ver k _ _ hnx fun e' sz' v' l' hl'=>?_⟩
  ·simp only [execOp,hv,Sem.run_bind,S5 (P:=P) (S:=S) (f:=f) (off:=off) (sz:=sz) (Nat.blt_eq ▸ hz),Result.andThen_ok,F3]
   rfl
  ·have:B2 hp i = some (.row e' sz' v' l'):=hl'
   rw [hb] at this
   cases this
   exact ⟨Nat.le_refl _,fun _=>⟨g,m,cap,hθ,by rw [Nat.add_assoc]⟩⟩
theorem Qk {b:Bool} (hx:ev x = some (.v (.bool b))):k9 P E nx hp ev (.unOp .not T x) ty (.v (.bool (!b))) :=
 fun _ _ _ _ _ _ h=>⟨_,fun w=>by simp [execOp,Op.unary,(h.rel hx).val,Sem.run_bind,Sem.run_pure], .im (.v _)⟩
theorem Kr [ts:O0 P T] {l:List UInt8} (hx:ev x = some (.str l)):k9 P E nx hp ev (.call ⟨.builtin .len, #[x], #[T]⟩) ty (.i l.length) :=
 fun _ _ _ _ _ _ h=>⟨_,fun w=>by rw [N5,(h.rel hx).sval];simp [builtin,run_len_string w T ty _ ts.out,Sem.run_bind,Sem.run_pure,goInt,ByteArray.size], .im (.v _)⟩
theorem MX {e sz:Nat} [ts:I6 P T e sz] {sz':Nat} {l:List (List AV)} (hx:ev x = some (.sl sz' l)):k9 P E nx hp ev (.call ⟨.builtin .len, #[x], #[T]⟩) ty (.i l.length) :=
 fun _ _ _ _ _ _ h=>by
  obtain ⟨_,p,cap,hv⟩:=KK (h.rel hx)
  exact ⟨_,fun w=>by rw [N5,hv];simp [builtin,run_len_slice ts.out.1,Sem.run_bind,Sem.run_pure], .im (.v _)⟩
theorem Ks {e sz:Nat} [ts:I6 P T e sz] {i ver len e' sz':Nat} {l:List (List AV)} (hx:ev x = some (.row i ver len)) (hb:B2 hp i = some (.row e' sz' ver l)):k9 P E nx hp ev (.call ⟨.builtin .len, #[x], #[T]⟩) ty (.i len) :=
 fun _ _ _ θ a w h=>by
  obtain ⟨hl,hv,_⟩:=N4 (h.rel hx) hb
  obtain ⟨xs,hown,_⟩:=h.row hb
  obtain ⟨p,cap,hs,_⟩:=K9 hown
  have hv':a.eval x = .slice p l.length cap:=by rw [hv];exact hs
  exact ⟨_,fun w=>by rw [N5,hv',hl];simp [builtin,run_len_slice ts.out.1,Sem.run_bind,Sem.run_pure], .im (.v _)⟩
theorem Hy {e sz:Nat} [ts:I6 P T e sz] {i ver len e':Nat} {l:List (List AV)} {k:IntKind} {j:Int} (hx:ev x = some (.row i ver len)) (hb:B2 hp i = some (.row e' sz ver l)) (hy:ev y = some (.v (.int k j))) (h0:0 ≤ j) (h1:j < len) :
  k9 P E nx hp ev (.indexAddr T x y) ty (.elt i ver j.toNat 0) :=
 fun _ _ _ θ a w h=>by
  obtain ⟨hl,hv,hnx⟩:=N4 (h.rel hx) hb
  obtain ⟨xs,hown,hsz,_⟩:=h.row hb
  have hj:=(h.rel hy).val
  rcases hown.2 with ⟨hθ,hn⟩ | ⟨g,cap,cur,hθ,_,hg,_⟩
  ·omega
  ·have hv':a.eval x = .slice (some ⟨g,0,none⟩) l.length cap:=by rw [hv];exact hθ
   refine ⟨.pointer (some ⟨g,j.toNat * sz,none⟩),fun w=>?_, .elt i ver _ 0 _ hnx fun e2 sz2 v2 l2 hl2=>?_⟩
   ·simp only [execOp,hv',hj,Sem.run_bind]
    rw [j5 (P:=P) (T:=T) (e:=e) (sz:=sz) h0 (by omega),F3,Nat.zero_add]
    rfl
   ·have:B2 hp i = some (.row e2 sz2 v2 l2):=hl2
    rw [hb] at this
    cases this
    exact ⟨Nat.le_refl _,fun _=>⟨g,l.length,cap,hθ,by simp⟩⟩
theorem JZ {e sz:Nat} [ts:I6 P T e sz] {l:List (List AV)} {k:IntKind} {i:Int} {el:List AV} (hx:ev x = some (.sl sz l)) (hy:ev y = some (.v (.int k i))) (h0:0 ≤ i) (hel:l[i.toNat]? = some el):k9 P E nx hp ev (.indexAddr T x y) ty (.iptr el) :=
 fun _ _ _ θ a w h=>by
  have hlt:i.toNat < l.length:=(List.getElem?_eq_some_iff.1 hel).1
  have hi:=(h.rel hy).val
  rcases p9 (h.rel hx) with ⟨_,e⟩ | ⟨p,cap,f,hv,h3,h4,h5,h6,h7,h8⟩
  ·subst e;simp at hlt
  ·have hsz:=h6 _ (List.mem_of_getElem? hel)
   refine ⟨.pointer (some (p.add (i.toNat * sz))),fun w=>?_, .im (.iptr _ _ (f i.toNat) (fun hne=>?_) (fun j hj=>?_) fun j u hu=>h8 _ _ hel j u hu)⟩
   ·simp only [execOp,hv,hi,Sem.run_bind]
    rw [j5 (P:=P) (T:=T) (e:=e) (sz:=sz) h0 (by omega)]
    rfl
   ·rw [M1]
    refine h5 (by intro e;simp [e] at hlt) ?_
    have h9:=List.length_pos_iff.2 hne
    omega
   ·rw [Z8]
    exact h7 _ hlt _ (by omega)
def MY:Op → Bool
 | .move _ | .assign _ | .fieldAddr .. | .build ..=>true
 | .binOp .quo .. | .binOp .rem .. | .binOp .shl .. | .binOp .shr ..=>false
 | .binOp ..=>true
 | _=>false
def Pn (ev:Operand → Option AV):Op → Bool
 | .indexAddr _ x _=>match ev x with
   | some (.row ..)=>true
   | some (.sl ..)=>true
   | _=>false
 | .call ⟨.builtin .len,⟨[x]⟩,_⟩=>match ev x with
   | some (.row ..)=>true
   | some (.sl ..)=>true
   | some (.str ..)=>true
   | _=>false
 | .unOp .not _ x=>match ev x with
   | some (.v (.bool _))=>true
   | _=>false
 | op=>MY op
def PV (P:Program) (op:Op) (ev:Operand → Option AV) (hp:Hp) (F:AV → Prop):Prop :=
 match op with
 | .move x=>M0 (ev x) F
 | .assign x=>M0 (ev x) F
 | .binOp op _ x y _=>match op,ev x,ev y with
   | .add,some (.v (.int .i64 a)),some (.v (.int .i64 b))=>E1 (-9223372036854775808 ≤ a + b ∧ a + b ≤ 9223372036854775807) (F (.v (.int .i64 (a + b))))
   | .sub,some (.v (.int .i64 a)),some (.v (.int .i64 b))=>E1 (-9223372036854775808 ≤ a - b ∧ a - b ≤ 9223372036854775807) (F (.v (.int .i64 (a - b))))
   | .add,some (.str a),some (.str b)=>E1 (a.length + b.length ≤ 9223372036854775807) (F (.str (a ++ b)))
   | op,some (.v (.int k a)),some (.v (.int k' b))=>cond (decide (k = k')) (match X8 op k a b with
     | some r=>F (.v r)
     | none=>False) False
   | _,_,_=>False
 | .fieldAddr S x f=>El P S f fun off sz=>cond (Nat.blt 0 sz) (match ev x with
   | some (.ref i o)=>F (.ref i (o + off))
   | some (.iptr l)=>F (.iptr (l.drop off))
   | some (.elt i ver k o)=>(match B2 hp i with
     | some (.row _ _ ver' _)=>E1 (ver = ver') (F (.elt i ver k (o + off)))
     | _=>False)
   | _=>False) False
 | .build T ⟨parts⟩=>match V5 ev parts with
   | some ps=>Bn P T fun zs pl=>l5 hp ps (M0 ((W2 pl zs ps).map AV.agg) F)
   | none=>False
 | .indexAddr T x y=>(match ev x,ev y with
   | some (.sl sz l),some (.v (.int _ i))=>BT P T fun _ sz'=>cond (Nat.beq sz sz') (J1 l i fun el=>F (.iptr el)) False
   | some (.row r ver len),some (.v (.int _ i))=>(match B2 hp r with
     | some (.row _ sz ver' _)=>E1 (ver = ver') (BT P T fun _ sz'=>cond (Nat.beq sz sz') (E1 (0 ≤ i ∧ i < len) (F (.elt r ver i.toNat 0))) False)
     | _=>False)
   | _,_=>False)
 | .call ⟨.builtin .len,⟨[x]⟩,⟨[T]⟩⟩=>(match ev x with
   | some (.sl _ l)=>BT P T fun _ _=>Ek l fun m=>F (.i m)
   | some (.str s)=>j9 P T (F (.i s.length))
   | some (.row r ver len)=>(match B2 hp r with
     | some (.row _ _ ver' _)=>E1 (ver = ver') (BT P T fun _ _=>F (.i len))
     | _=>False)
   | _=>False)
 | .unOp .not _ x=>(match ev x with
   | some (.v (.bool b))=>F (.v (.bool (!b)))
   | _=>False)
 | _=>False
theorem RH {op:Op} (h:PV P op ev hp F):∃ av,k9 P E nx hp ev op ty av ∧ F av:=by
 unfold PV at h
 split at h
 ·obtain ⟨a,hx,h⟩:=F8 h;exact ⟨a,Pl hx,h⟩
 ·obtain ⟨a,hx,h⟩:=F8 h;exact ⟨a,MW hx,h⟩
 ·split at h
  ·rename_i hx hy;exact ⟨_,Gx hx hy (by simp only [X8,H4 h.h]),h.k⟩
  ·rename_i hx hy;exact ⟨_,Gx hx hy (by simp only [X8,H4 h.h]),h.k⟩
  ·rename_i hx hy;exact ⟨_,Pm hx hy h.h,h.k⟩
  ·rename_i hx hy
   obtain ⟨hk,hq⟩:=cond_false h
   have hk:=of_decide_eq_true hk
   subst hk
   split at hq
   ·rename_i hr;exact ⟨_,Gx hx hy hr,hq⟩
   ·exact hq.elim
  ·exact h.elim
 ·obtain ⟨⟨off,sz,tf,h⟩⟩:=h
  obtain ⟨hz,h⟩:=cond_false h
  split at h
  ·rename_i hx;exact ⟨_,Hw (off:=off) (sz:=sz) hx hz,h⟩
  ·rename_i hx;exact ⟨_,Gy (off:=off) (sz:=sz) hx hz,h⟩
  ·rename_i hx
   split at h
   ·rename_i hb
    obtain ⟨rfl,h⟩:=h
    exact ⟨_,Hx (off:=off) (sz:=sz) hx hb hz,h⟩
   ·exact h.elim
  ·exact h.elim
 ·split at h
  ·rename_i ps hps
   obtain ⟨⟨zs,pl,tz,tp,h⟩⟩:=h
   obtain ⟨hf,h⟩:=P2 h
   obtain ⟨a,ha,h⟩:=F8 h
   rw [Option.map_eq_some_iff] at ha
   obtain ⟨l,hl,rfl⟩:=ha
   exact ⟨_,IK (T:=_) hps hf hl,h⟩
  ·exact h.elim
 ·split at h
  ·rename_i hx hy
   obtain ⟨⟨e,sz',ts,h⟩⟩:=h
   obtain ⟨hc,hq⟩:=cond_false h
   have hc:=Nat.eq_of_beq_eq_true hc
   subst hc
   obtain ⟨h0,h1,hk⟩:=hq
   rename_i sz l kk i
   have hlt:i.toNat < l.length:=by omega
   have hel:l[i.toNat]? = some l[i.toNat]:=List.getElem?_eq_getElem hlt
   exact ⟨_,JZ (e:=e) hx hy h0 hel,hk _ hel⟩
  ·rename_i hx hy
   split at h
   ·rename_i hb
    obtain ⟨rfl,h⟩:=h
    obtain ⟨⟨e,sz',ts,h⟩⟩:=h
    obtain ⟨hc,hq⟩:=cond_false h
    have hc:=Nat.eq_of_beq_eq_true hc
    subst hc
    exact ⟨_,Hy (e:=e) hx hb hy hq.h.1 hq.h.2,hq.k⟩
   ·exact h.elim
  ·exact h.elim
 ·split at h
  ·rename_i hx
   obtain ⟨⟨e,sz',ts,h⟩⟩:=h
   exact ⟨_,MX (e:=e) (sz:=sz') hx,h.k⟩
  ·rename_i hx
   obtain ⟨ts,h⟩:=h
   exact ⟨_,Kr hx,h⟩
  ·rename_i hx
   split at h
   ·rename_i hb
    obtain ⟨rfl,h⟩:=h
    obtain ⟨⟨e,sz',ts,h⟩⟩:=h
    exact ⟨_,Ks (e:=e) (sz:=sz') hx hb,h⟩
   ·exact h.elim
  ·exact h.elim
 ·split at h
  ·rename_i hx;exact ⟨_,Qk hx,h⟩
  ·exact h.elim
 ·exact h.elim
end pure
def S7 (ops:Array Oper):List (List Nat):=ops.toList.map fun o=>(o.after.toList.filter fun e=>Region.binds .any e).map (·.on)
def Q8 (all:List Bool):Nat → List (List Nat) → List Bool → List Nat
 | k,e :: es,b :: bs=>cond b (Q8 all (k + 1) es bs) (cond (e.all fun j=>all.getD j false) (k :: Q8 all (k + 1) es bs) (Q8 all (k + 1) es bs))
 | _,_,_=>[]
theorem Y3 {all:List Bool}:∀ (es:List (List Nat)) (bs:List Bool) (k i:Nat),i ∈ Q8 all k es bs ↔ ∃ j e,i = k + j ∧ es[j]? = some e ∧ bs[j]? = some false ∧ (∀ x ∈ e,all.getD x false = true)
 | [],bs,k,i=>by simp [Q8]
 | e :: es,[],k,i=>by simp [Q8]
 | e :: es,b :: bs,k,i=>by
   have ih:=Y3 (all:=all) es bs (k + 1) i
   have key:(∃ j e',i = k + j ∧ (e :: es)[j]? = some e' ∧ (b :: bs)[j]? = some false ∧ (∀ x ∈ e',all.getD x false = true)) ↔ (i = k ∧ b = false ∧ ∀ x ∈ e,all.getD x false = true) ∨ i ∈ Q8 all (k + 1) es bs:=by
    rw [ih]
    constructor
    ·rintro ⟨j,e',h1,h2,h3,h4⟩
     cases j with
     | zero=>simp at h2 h3;subst h2;exact .inl ⟨by omega,h3,h4⟩
     | succ j=>exact .inr ⟨j,e',by omega,by simpa using h2,by simpa using h3,h4⟩
    ·rintro (⟨h1,h2,h3⟩ | ⟨j,e',h1,h2,h3,h4⟩)
     ·exact ⟨0,e,by omega,rfl,by simp [h2],h3⟩
     ·exact ⟨j + 1,e',by omega,by simpa using h2,by simpa using h3,h4⟩
   rw [key]
   have hall:(e.all fun j=>all.getD j false) = true ↔ ∀ x ∈ e,all.getD x false = true:=by rw [List.all_eq_true]
   cases b with
   | true=>simp [Q8]
   | false =>
     simp only [Q8,Bool.cond_false]
     cases ha:e.all fun j=>all.getD j false with
     | true =>
       rw [ha] at hall
       simp only [true_iff] at hall
       simp only [Bool.cond_true,List.mem_cons]
       constructor
       ·intro h
        rcases h with h | h
        ·exact Or.inl ⟨h,by first | trivial | rfl,by first | exact hall | trivial⟩
        ·exact Or.inr h
       ·intro h
        rcases h with h | h
        ·exact Or.inl h.1
        ·exact Or.inr h
     | false =>
       rw [ha] at hall
       simp only [Bool.false_eq_true,false_iff] at hall
       simp only [Bool.cond_false]
       constructor
       ·exact Or.inr
       ·intro h
        rcases h with h | h
        ·exact absurd h.2.2 hall
        ·exact h
theorem T9 {ops:Array Oper} {l:List Bool} (hl:l.length = ops.size) (i:Nat):i ∈ Region.ready .any ops l.toArray ↔ i ∈ Q8 l 0 (S7 ops) l:=by
 rw [mem_ready,Y3]
 constructor
 ·rintro ⟨h1,o,ho,h2⟩
  have hlt:i < ops.size:=(Array.getElem?_eq_some_iff.1 ho).1
  refine ⟨i,_,by omega,by simp [S7,ho];rfl,?_,?_⟩
  ·have hlt2:i < l.length:=by omega
   simp [hlt2] at h1 ⊢
   exact h1
  ·intro x hx
   simp only [List.mem_map,List.mem_filter,Array.mem_toList_iff] at hx
   obtain ⟨e,⟨he,hb⟩,rfl⟩:=hx
   have:=h2 e he hb
   simpa using this
 ·rintro ⟨j,e,h0,h1,h2,h3⟩
  have:j = i:=by omega
  subst this
  simp only [S7,List.getElem?_map,Option.map_eq_some_iff,Array.getElem?_toList] at h1
  obtain ⟨o,ho,rfl⟩:=h1
  refine ⟨by simp [h2],o,ho,fun e he hb=>?_⟩
  have:=h3 e.on (List.mem_map.2 ⟨e,List.mem_filter.2 ⟨by simpa using he,hb⟩,rfl⟩)
  simpa using this
theorem DL {P:Program} {o:Oper} {a:Act} {w:World} {K K':Act → World → Prop} {Q Q':Exit → Act → World → Prop} (hQ:∀ e a w,Q e a w → e = .normal) (h:∀ a w,K a w → K' a w) (hh:o.wp P a w K Q):o.wp P a w K' Q':=by
 unfold Oper.wp at *
 generalize (execOp a.eval o).run P w = r at *
 cases r with
 | ok n w' =>
   cases n <;> simp only [Oper.upon] at hh ⊢ <;>
    first
     | exact h _ _ hh
     | exact Calls.mono hh (fun e w'' he=>by
       cases e with
       | returned v=>exact h _ _ he
       | panicked c=>exact absurd (hQ _ _ _ he) (by simp)
       | outgrown=>obtain ⟨a,w,hx⟩:=he;exact absurd (hQ _ _ _ hx) (by simp))
     | exact Rows.mono hh (fun _ _ he=>h _ _ he)
 | halt x w' =>
   cases x <;> simp only [Oper.upon] at hh ⊢
   exact absurd (hQ _ _ _ hh) (by simp)
theorem Ep {P:Program} {ops:Array Oper} {Q Q':Exit → Act → World → Prop} (hQ:∀ e a w,Q e a w → e = .normal) (h:∀ a w,Q .normal a w → Q' .normal a w):∀ (fuel:Nat) (listed:Array Bool) (a:Act) (w:World),wpAny P .any ops Q fuel listed a w → wpAny P .any ops Q' fuel listed a w:=by
 intro fuel
 induction fuel with
 | zero=>intro l a w hx;exact ⟨hx.1,h a w hx.2⟩
 | succ fuel ih =>
   intro l a w hx
   refine ⟨fun hr=>h a w (hx.1 hr),fun i hi=>?_⟩
   have h1:=hx.2 i hi
   unfold wpOp at h1 ⊢
   split at h1
   ·exact ih _ _ _ h1
   ·split at h1
    ·rename_i hw
     rw [if_pos hw]
     rcases h1 with h1 | ⟨_,a1,w1,hx⟩
     ·exact .inl (DL hQ (fun a' w' hn=>ih _ _ _ hn) h1)
     ·exact absurd (hQ _ _ _ hx) (by simp)
    ·rename_i hw
     rw [if_neg hw]
     exact ih _ _ _ h1
section rules
variable {P:Program} {E:Env} {n:Nat} {ops:Array Oper} {σ:St} {K:St → Prop} {Q:Exit → St → Prop}
def F1 (P:Program) (E:Env) (n:Nat) (ops:Array Oper) (fuel:Nat) (l:List Bool) (σ:St) (K:St → Prop):Prop :=
 ∀ a w,T4 E n σ a w → wpAny P .any ops (fun e a' w'=>e = .normal ∧ ∃ σ',K σ' ∧ T4 E n σ' a' w') fuel l.toArray a w
def MZ (P:Program) (E:Env) (n:Nat) (ops:Array Oper) (fuel:Nat) (l:List Bool) (σ:St) (K:St → Prop):List Nat → Prop
 | []=>True
 | i :: r=>(match ops[i]? with
   | some o=>B6 P E n ops [o] σ fun σ'=>F1 P E n ops fuel (l.set i true) σ' K
   | none=>False) ∧ MZ P E n ops fuel l σ K r
theorem Gz {fuel:Nat} {l:List Bool}:∀ {r:List Nat},MZ P E n ops fuel l σ K r → ∀ i ∈ r, ∃ o,ops[i]? = some o ∧ B6 P E n ops [o] σ fun σ'=>F1 P E n ops fuel (l.set i true) σ' K
 | [],_,i,hi=>by cases hi
 | j :: r,h,i,hi=>by
   rcases List.mem_cons.1 hi with rfl | hi
   ·have:=h.1
    split at this
    ·rename_i o ho;exact ⟨o,ho,this⟩
    ·exact this.elim
   ·exact Gz h.2 i hi
structure Ja (P:Program) (E:Env) (n:Nat) (ops:Array Oper) (fuel:Nat) (l:List Bool) (σ:St) (K:St → Prop) (r:List Nat):Prop where
 h:MZ P E n ops fuel l σ K r
def Bx (ev:Operand → Option AV) (ops:Array Oper) (l:List Bool):List Nat → Option Nat
 | []=>none
 | i :: r=>match ops[i]? with
   | some ⟨some _,op,_,_,_,none⟩=>cond (Pn ev op) (some i) (Bx ev ops l r)
   | _=>Bx ev ops l r
structure Nr (p:Prop) (A:Prop):Prop where
 h:p
 k:A
def Po (P:Program) (E:Env) (n:Nat) (ops:Array Oper) (fuel:Nat) (l:List Bool) (σ:St) (K:St → Prop):Prop :=
 match Q8 l 0 (S7 ops) l with
 | []=>K σ
 | i :: r=>match fuel with
   | 0=>False
   | fuel + 1=>match Bx (D8 σ) ops l (i :: r) with
     | some i=>match ops[i]? with
       | some ⟨some d,op,_,_,_,none⟩=>Nr (Region.free .any ops l.toArray i = true ∧ i ∈ Q8 l 0 (S7 ops) l) (cond (Nat.blt d n) (PV P op (D8 σ) σ.hp fun av=>F1 P E n ops fuel (l.set i true) (σ.put d av) K) False)
       | _=>False
     | none=>Ja P E n ops fuel l σ K (i :: r)
theorem S8 (l:List Bool) (i:Nat):l.toArray.setIfInBounds i true = (l.set i true).toArray:=by simp
theorem OS {fuel:Nat} {l:List Bool} (hns:Region.noSelect ops = true) (hl:Nat.beq l.length ops.size = true) (h:Po P E n ops fuel l σ K):F1 P E n ops fuel l σ K:=by
 have hl:=Nat.eq_of_beq_eq_true hl
 unfold Po at h
 split at h
 ·rename_i hr
  intro a w hs
  have hnil:Region.ready .any ops l.toArray = []:=by
   cases hx:Region.ready .any ops l.toArray with
   | nil=>rfl
   | cons i r=>have:=(T9 hl i).1 (by rw [hx];simp);rw [hr] at this;cases this
  exact wpAny_done hnil ⟨rfl,σ,h,hs⟩ _
 ·rename_i i r hr
  split at h
  ·exact h.elim
  ·rename_i fuel
   split at h
   ·rename_i i' hfp
    split at h
    ·rename_i d op ty pos after hop
     obtain ⟨⟨hf,hir⟩,h⟩:=h
     obtain ⟨hd,h⟩:=cond_false h
     obtain ⟨av,hp,h⟩:=RH (E:=E) (nx:=σ.nx) (ty:=ty) h
     rintro a w ⟨θ,hs⟩
     obtain ⟨v,hv1,hv2⟩:=hp (some d) pos after θ a w hs.evT
     refine wpAny_take hop hns hf (by simpa using (T9 hl i').2 hir) (fun c a w hc=>by cases hc.1) (v:=v) (.inl ⟨by simp [Region.wanted],hv1⟩) ?_
     rw [S8]
     exact h _ _ ⟨θ,hs.put (Nat.blt_eq ▸ hd) hv2⟩
    ·exact h.elim
   ·intro a w hs
    refine ⟨fun hnil=>?_,fun j hj=>?_⟩
    ·have:=(T9 hl i).2 (by rw [hr];simp)
     rw [hnil] at this
     cases this
    ·have hj':=(T9 hl j).1 hj
     rw [hr] at hj'
     obtain ⟨o,ho,hA⟩:=Gz h.h j hj'
     have hw:=hA a w hs
     unfold wpOp
     simp only [ho]
     unfold wpList at hw
     split
     ·rename_i hwant
      rw [if_pos hwant] at hw
      rcases hw with hw | ⟨_,a1,w1,hx⟩
      ·refine .inl (DL (fun e a w h=>h.1) (fun a' w' hn=>?_) hw)
       obtain ⟨_,σ',hk,hs'⟩:=hn
       rw [S8]
       exact hk a' w' hs'
      ·exact absurd hx.1 (by simp)
     ·rename_i hwant
      rw [if_neg hwant] at hw
      obtain ⟨_,σ',hk,hs'⟩:=hw
      rw [S8]
      exact hk _ _ hs'
def P4 (ops:Array Oper):List Bool:=ops.toList.map fun _=>false
theorem l6 {id:Nat} [hm:En P] (S:St) (h:F1 P E n ops ops.size (P4 ops) σ fun σ'=>St.le E n σ' S) (k:Q .normal S):k5 P E n id ops σ Q:=by
 refine ⟨fun a w ⟨θ,hs⟩=>wp_region_any hm.out ?_⟩
 have hb:Below w.heap.size w { w with drawn:=w.drawn + 1 }:=Below.drew (Below.refl _ _)
 have h1:=h a { w with drawn:=w.drawn + 1 } ⟨θ,hs.below hb⟩
 have e:(P4 ops).toArray = Array.replicate ops.size false:=by
  apply Array.ext'
  simp [P4,List.map_const']
 rw [e] at h1
 exact Ep (fun e a w hx=>hx.1) (fun a w hx=>by
  obtain ⟨_,σ',hle,hs'⟩:=hx
  exact ⟨S,k,hle a w hs'⟩) _ _ _ _ h1
theorem E0 {σ1 σ2 σ3:St} (h:St.le E n σ1 σ2) (h':St.le E n σ2 σ3):St.le E n σ1 σ3:=fun a w hs=>h' a w (h a w hs)
theorem C0 {σ1:St}:St.le E n σ1 σ1:=fun a w hs=>hs
theorem A8 {fuel:Nat} {l:List Bool}:Ja P E n ops fuel l σ K []:=⟨trivial⟩
theorem A9 {fuel:Nat} {l:List Bool} {i:Nat} {r:List Nat} (h1:match ops[i]? with
  | some o=>B6 P E n ops [o] σ fun σ'=>F1 P E n ops fuel (l.set i true) σ' K
  | none=>False) (h2:Ja P E n ops fuel l σ K r):Ja P E n ops fuel l σ K (i :: r):=⟨⟨h1,h2.h⟩⟩
theorem B0 {p A:Prop} (h:p) (k:A):Nr p A:=⟨h,k⟩
end rules
def MV (P:Program) (op:Op) (ev:Operand → Option AV) (F:AV → Prop):Prop :=
 match op with
 | .move x=>M0 (ev x) F
 | .assign x=>M0 (ev x) F
 | .binOp op T x y _=>Gn P T op (ev x) (ev y) F
 | .load T x=>match ev x with
   | some (.iptr l)=>EA P T [] (some (.iptr l)) F
   | _=>False
 | .fieldAddr S x f=>match ev x with
   | some (.iptr l)=>El P S f fun off sz=>cond (Nat.blt 0 sz) (F (.iptr (l.drop off))) False
   | some (.ref i o)=>El P S f fun off sz=>cond (Nat.blt 0 sz) (F (.ref i (o + off))) False
   | _=>False
 | .indexAddr T x y=>match ev x with
   | some (.sl sz l)=>Br P T [] (some (.sl sz l)) (ev y) F
   | _=>False
 | .call ⟨.builtin .len,⟨[x]⟩,⟨[T]⟩⟩=>match ev x with
   | some (.sl sz l)=>Ap P T [] (some (.sl sz l)) F
   | some (.str s)=>Ap P T [] (some (.str s)) F
   | some (.v (.slice none 0 0))=>Ap P T [] (some (.v (.slice none 0 0))) F
   | _=>False
 | .call ⟨.builtin .max,⟨[x,y]⟩,⟨[_,_]⟩⟩=>match ev x,ev y with
   | some (.v (.int .i64 a)),some (.v (.int .i64 b))=>F (.v (.int .i64 (max a b)))
   | _,_=>False
 | .call ⟨.value (.func f),⟨args⟩,_⟩=>match P9 ev args with
   | some l=>cond (H1 l) (Ds P f (l ++ []) F) False
   | none=>False
 | .build T ⟨parts⟩=>match V5 ev parts with
   | some ps=>Bn P T fun zs pl=>l5 [] ps (M0 ((W2 pl zs ps).map AV.agg) F)
   | none=>False
 | .buildSlice T len ⟨parts⟩=>match V5 ev parts with
   | some ps=>s7 P T fun _ sz _ _=>cond (X9 0 ps && Q6 sz (I7 ps) && Nat.beq ps.length len && Nat.blt 0 sz) (E1 (len * sz ≤ 16777216) (l5 [] ps (Dy (I7 ps) (F (.sl sz (I7 ps)))))) False
   | none=>False
 | .convert S T x=>M0 (ev x) fun a=>U4 P S T a F
 | .extract x k=>match ev x with
   | some (.tup l)=>M0 (l[k]?) F
   | _=>False
 | .slice T x lo hi none=>match ev x with
   | some (.str s)=>j9 P T (match V0 ev 0 lo,V0 ev s.length hi with
     | some l,some h=>E1 (0 ≤ l ∧ l ≤ h ∧ h ≤ s.length) (F (.str ((s.take h.toNat).drop l.toNat)))
     | _,_=>False)
   | _=>False
 | .unOp .not _ x=>match ev x with
   | some (.v (.bool b))=>F (.v (.bool (!b)))
   | _=>False
 | .index T x y=>match ev x,ev y with
   | some (.str s),some (.v (.int _ i))=>j9 P T (J1 s i fun b=>F (.v (.int .u8 b.toNat)))
   | _,_=>False
 | _=>False
theorem OT {hp:Hp} {a:AV} (h:One [] a):One hp a:=by
 cases h with
 | row hl=>cases hl
 | v h=>exact .v h
 | str l=>exact .str l
 | sl s l=>exact .sl s l
 | iptr l=>exact .iptr l
 | ref i o=>exact .ref i o
 | mp i=>exact .mp i
 | fn f l=>exact .fn f l
 | fo f l=>exact .fo f l
theorem Ma {hp:Hp} {a:AV} (h:Fits [] a):Fits hp a:=by
 cases a <;> first | exact trivial | exact OT h
theorem Bz {hp:Hp}:∀ {ps:List (Nat × AV)},j6 [] ps → j6 hp ps
 | [],_=>trivial
 | (_,a) :: r,h=>⟨Ma h.1,Bz h.2⟩
theorem RI {P:Program} {op:Op} {ev:Operand → Option AV} {F:AV → Prop} (h:MV P op ev F):∃ av,(∀ (E:Env) (nx:Nat) (hp:Hp) (ty:TypeId),E2 P E nx hp ev op ty av) ∧ F av:=by
 unfold MV at h
 split at h
 ·obtain ⟨a,hx,h⟩:=F8 h;exact ⟨a,fun _ _ _ _=>KH hx,h⟩
 ·obtain ⟨a,hx,h⟩:=F8 h;exact ⟨a,fun _ _ _ _=>GQ hx,h⟩
 ·rename_i op T x y T2
  unfold Gn at h
  split at h
  ·rename_i hx hy;exact ⟨_,fun _ _ _ _=>Nf hx hy h.h,h.k⟩
  ·rename_i hx hy;exact ⟨_,fun _ _ _ _=>Ng hx hy h.h,h.k⟩
  ·rename_i hx hy
   obtain ⟨hk,hq⟩:=cond_false h
   clear h
   have hk:=of_decide_eq_true hk
   subst hk
   unfold Gl at hq
   split at hq
   ·exact ⟨_,fun _ _ _ _=>l4 hx hy (by simp only [X8,H4 hq.h]),hq.k⟩
   ·exact ⟨_,fun _ _ _ _=>l4 hx hy (by simp only [X8,H4 hq.h]),hq.k⟩
   ·exact ⟨_,fun _ _ _ _=>l4 hx hy (by simp only [X8,H4 hq.h]),hq.k⟩
   ·refine ⟨_,fun E nx hp ty=>?_,hq.k⟩
    have hq2:=GB (P:=P) (E:=E) (nx:=nx) (hp:=hp) (ty:=ty) (T:=T) (T2:=T2) hx hy hq.h.1
    rw [H4 hq.h.2] at hq2
    exact hq2
   ·exact ⟨_,fun _ _ _ _=>GB hx hy hq.h,hq.k⟩
   ·exact ⟨_,fun _ _ _ _=>Nd hx hy hq.h,hq.k⟩
   ·split at hq
    ·rename_i hr;exact ⟨_,fun _ _ _ _=>l4 hx hy hr,hq⟩
    ·exact hq.elim
  ·rename_i s t hx hy
   unfold Lx at h
   split at h
   ·exact ⟨_,fun _ _ _ _=>KJ hx hy h.h,h.k⟩
   ·split at h
    ·rename_i hr;exact ⟨_,fun _ _ _ _=>KI hx hy hr,h⟩
    ·exact h.elim
  ·rename_i a b hx hy
   unfold JN at h
   split at h
   ·have:=h.h;exact ⟨_,fun _ _ _ _=>GC (T:=T) false hx hy,h.k⟩
   ·have:=h.h;exact ⟨_,fun _ _ _ _=>GC (T:=T) true hx hy,h.k⟩
   ·exact h.elim
  ·rename_i l m hx hy
   unfold JO at h
   split at h
   ·obtain ⟨hk,hq⟩:=cond_false h
    obtain ⟨rfl,rfl⟩:=of_decide_eq_true hk
    have:=hq.h;exact ⟨_,fun _ _ _ _=>Ae (T:=T) false hx hy,hq.k⟩
   ·obtain ⟨hk,hq⟩:=cond_false h
    obtain ⟨rfl,rfl⟩:=of_decide_eq_true hk
    have:=hq.h;exact ⟨_,fun _ _ _ _=>Ae (T:=T) true hx hy,hq.k⟩
   ·obtain ⟨hk,hq⟩:=cond_false h
    obtain ⟨rfl,rfl,rfl⟩:=of_decide_eq_true hk
    have:=hq.h;exact ⟨_,fun _ _ _ _=>Ag (T:=T) false hx hy,hq.k⟩
   ·obtain ⟨hk,hq⟩:=cond_false h
    obtain ⟨rfl,rfl,rfl⟩:=of_decide_eq_true hk
    have:=hq.h;exact ⟨_,fun _ _ _ _=>Ag (T:=T) true hx hy,hq.k⟩
   ·obtain ⟨hk,hq⟩:=cond_false h
    obtain rfl:=of_decide_eq_true hk
    have:=hq.h;exact ⟨_,fun _ _ _ _=>Dh (T:=T) false hx hy,hq.k⟩
   ·obtain ⟨hk,hq⟩:=cond_false h
    obtain rfl:=of_decide_eq_true hk
    have:=hq.h;exact ⟨_,fun _ _ _ _=>Dh (T:=T) true hx hy,hq.k⟩
   ·exact h.elim
  ·exact h.elim
 ·rename_i T x
  split at h
  ·rename_i l hx
   unfold EA at h
   obtain ⟨⟨ag,sz,tv,h⟩⟩:=h
   cases ag with
   | true =>
     change cond (Nat.beq l.length sz) _ _ at h
     cases hc:Nat.beq l.length sz with
     | true =>
       rw [hc] at h
       exact ⟨_,fun _ _ _ _=>T6 (sz:=sz) hx (by rw [← Nat.eq_of_beq_eq_true hc,List.take_length]) (Nat.eq_of_beq_eq_true hc),h⟩
     | false =>
       rw [hc] at h
       exact ⟨_,fun _ _ _ _=>T6 (sz:=sz) hx rfl h.h,h.k⟩
   | false =>
     cases l with
     | nil=>exact h.elim
     | cons av r=>exact ⟨_,fun _ _ _ _=>Cd (sz:=sz) hx,h⟩
  ·exact h.elim
 ·split at h
  ·rename_i hx
   obtain ⟨⟨off,sz,tf,h⟩⟩:=h
   obtain ⟨hz,h⟩:=cond_false h
   exact ⟨_,fun _ _ _ _=>Bb (off:=off) (sz:=sz) hx hz,h⟩
  ·rename_i hx
   obtain ⟨⟨off,sz,tf,h⟩⟩:=h
   obtain ⟨hz,h⟩:=cond_false h
   exact ⟨_,fun _ _ _ _=>Ce (off:=off) (sz:=sz) hx hz,h⟩
  ·exact h.elim
 ·split at h
  ·rename_i hx
   unfold Br at h
   split at h
   ·rename_i heq hy
    cases heq
    obtain ⟨⟨e,sz',ts,h⟩⟩:=h
    obtain ⟨hz,hq⟩:=cond_false h
    clear h
    have:=Nat.eq_of_beq_eq_true hz
    subst this
    obtain ⟨h0,h1,hk⟩:=hq
    exact ⟨_,fun _ _ _ _=>De (e:=e) hx hy h0 (List.getElem?_eq_getElem (by omega)),hk _ (List.getElem?_eq_getElem (by omega))⟩
   ·rename_i heq _;cases heq
   ·rename_i heq _;cases heq
   ·rename_i heq _;cases heq
   ·exact h.elim
  ·exact h.elim
 ·split at h
  ·rename_i hx
   unfold Ap at h
   obtain ⟨⟨e,sz,ts,h⟩⟩:=h
   exact ⟨_,fun _ _ _ _=>GV (e:=e) (sz:=sz) hx,h.k⟩
  ·rename_i hx
   unfold Ap at h
   obtain ⟨ts,h⟩:=h
   exact ⟨_,fun _ _ _ _=>FB hx,h⟩
  ·rename_i hx
   unfold Ap at h
   obtain ⟨⟨e,sz,ts,h⟩⟩:=h
   exact ⟨_,fun _ _ _ _=>FC (e:=e) (sz:=sz) hx,h⟩
  ·exact h.elim
 ·split at h
  ·rename_i hx hy;exact ⟨_,fun _ _ _ _=>Nj hx hy,h⟩
  ·exact h.elim
 ·split at h
  ·rename_i l hl
   obtain ⟨hc,h⟩:=cond_false h
   obtain ⟨⟨r,hr,h⟩⟩:=h
   rw [List.append_nil] at hr
   exact ⟨_,fun _ _ _ _=>Ed hr hl hc,h⟩
  ·exact h.elim
 ·split at h
  ·rename_i ps hps
   obtain ⟨⟨zs,pl,tz,tp,h⟩⟩:=h
   obtain ⟨hf,h⟩:=P2 h
   obtain ⟨a,ha,h⟩:=F8 h
   rw [Option.map_eq_some_iff] at ha
   obtain ⟨l,hl,rfl⟩:=ha
   exact ⟨_,fun _ _ _ _=>IL (T:=_) hps (Bz hf) hl,h⟩
  ·exact h.elim
 ·split at h
  ·rename_i ps hps
   obtain ⟨⟨e,sz,bs,z,ts,tz,tb,hz,h⟩⟩:=h
   obtain ⟨hc,h⟩:=cond_false h
   simp only [Bool.and_eq_true,Nat.beq_eq,Nat.blt_eq] at hc
   obtain ⟨hs,h⟩:=h
   obtain ⟨hf,h⟩:=P2 h
   obtain ⟨hi,h⟩:=n8 h
   exact ⟨_,fun _ _ _ _=>Bi (e:=e) (z:=z) hps (Bz hf) hc.1.1.1 hc.1.1.2 hc.1.2 hz hs hc.2 hi,h⟩
  ·exact h.elim
 ·obtain ⟨a,hx,h⟩:=F8 h
  obtain ⟨⟨r,hr,h⟩⟩:=h
  cases hr with
  | bytes l hl=>rename_i e sz _ _ _;exact ⟨_,fun _ _ _ _=>Ch (e:=e) (sz:=sz) hx hl,h⟩
  | back l=>rename_i e sz _ _ _;exact ⟨_,fun _ _ _ _=>Ci (e:=e) (sz:=sz) hx,h⟩
  | int m=>exact ⟨_,fun _ _ _ _=>Df hx,h⟩
  | rune m=>exact ⟨_,fun _ _ _ _=>Cj hx,h⟩
 ·split at h
  ·rename_i hx
   obtain ⟨a,ha,h⟩:=F8 h
   exact ⟨_,fun _ _ _ _=>FG hx ha,h⟩
  ·exact h.elim
 ·split at h
  ·rename_i hx
   obtain ⟨ts,h⟩:=h
   split at h
   ·rename_i hl hh;exact ⟨_,fun _ _ _ _=>Cm hx hl hh h.h.1 h.h.2.1 h.h.2.2,h.k⟩
   ·exact h.elim
  ·exact h.elim
 ·split at h
  ·rename_i hx;exact ⟨_,fun _ _ _ _=>Nh hx,h⟩
  ·exact h.elim
 ·split at h
  ·rename_i s k i hx hy
   obtain ⟨ts,h0,h1,hk⟩:=h
   have hlt:i.toNat < s.length:=by omega
   have hel:s[i.toNat]? = some s[i.toNat]:=List.getElem?_eq_getElem hlt
   exact ⟨_,fun _ _ _ _=>Cf hx hy h0 hel,hk _ hel⟩
  ·exact h.elim
 ·exact h.elim
structure MB where
 i:Nat
 d:Nat
 av:AV
 rd:List (Nat × AV)
 mh:Hp
def Er (mh hp:Hp):Prop:=∀ p ∈ mh,B2 hp p.1 = p.2
def RJ (P:Program) (ops:Array Oper) (m:MB):Prop:=∃ op ty pos after,ops[m.i]? = some ⟨some m.d,op,ty,pos,after,none⟩ ∧ ∀ (E:Env) (nx:Nat) (hp:Hp) (ty:TypeId),Er m.mh hp → E2 P E nx hp (D8 ⟨m.rd,0,[]⟩) op ty m.av
def m8 (ops:Array Oper) (i:Nat):List Nat:=(S7 ops).getD i []
def H7:List MB → List (Nat × AV)
 | []=>[]
 | ⟨_,d,av,_,_⟩ :: r=>(d,av) :: H7 r
def N1 (l:List Bool) (mb:List MB):List MB:=mb.filter fun m=>l.getD m.i false
def RQ (ops:Array Oper) (mb:List MB) (sl:List (Nat × AV)):Prop:=∀ m ∈ mb,∀ p ∈ m.rd,look sl p.1 = some p.2 ∨ ∃ m' ∈ mb,m'.d = p.1 ∧ m'.av = p.2 ∧ m'.i ∈ m8 ops m.i
def W5 (n:Nat) (sl:List (Nat × AV)):List MB → Bool
 | []=>true
 | m :: r=>Nat.blt m.d n && (look sl m.d).isNone && (r.all fun u=>!(Nat.beq u.d m.d) && !(Nat.beq u.i m.i)) && W5 n sl r
theorem x6 {n:Nat} {sl:List (Nat × AV)}:∀ {mb:List MB},W5 n sl mb = true → (∀ m ∈ mb,m.d < n ∧ look sl m.d = none) ∧ (∀ m ∈ mb,∀ m' ∈ mb,m.d = m'.d → m = m') ∧ ∀ m ∈ mb,∀ m' ∈ mb,m.i = m'.i → m = m'
 | [],_=>⟨(fun m hm=>by cases hm),(fun m hm=>by cases hm),fun m hm=>by cases hm⟩
 | a :: r,h=>by
   simp only [W5,Bool.and_eq_true,List.all_eq_true,Bool.not_eq_true',Nat.blt_eq,Option.isNone_iff_eq_none] at h
   obtain ⟨⟨⟨h1,h2⟩,h3⟩,h4⟩:=h
   obtain ⟨i1,i2,i3⟩:=x6 h4
   have beqD:∀ u ∈ r,u.d ≠ a.d ∧ u.i ≠ a.i:=fun u hu=>by
    have h5:=h3 u hu
    refine ⟨fun e=>?_,fun e=>?_⟩
    ·have:=h5.1;rw [e] at this;simp at this
    ·have:=h5.2;rw [e] at this;simp at this
   refine ⟨fun m hm=>?_,fun m hm m' hm' e=>?_,fun m hm m' hm' e=>?_⟩
   ·rcases List.mem_cons.1 hm with rfl | hm
    ·exact ⟨h1,h2⟩
    ·exact i1 m hm
   ·rcases List.mem_cons.1 hm with h5 | h5 <;> rcases List.mem_cons.1 hm' with h6 | h6
    ·rw [h5,h6]
    ·subst h5;exact absurd e.symm (beqD _ h6).1
    ·subst h6;exact absurd e (beqD _ h5).1
    ·exact i2 m h5 m' h6 e
   ·rcases List.mem_cons.1 hm with h5 | h5 <;> rcases List.mem_cons.1 hm' with h6 | h6
    ·rw [h5,h6]
    ·subst h5;exact absurd e.symm (beqD _ h6).2
    ·subst h6;exact absurd e (beqD _ h5).2
    ·exact i3 m h5 m' h6 e
theorem K2 (l m:List (Nat × AV)) (s:Nat):look (l ++ m) s = match look l s with
  | some x=>some x
  | none=>look m s:=by
 induction l with
 | nil=>rfl
 | cons a r ih =>
   obtain ⟨k,x⟩:=a
   simp only [List.cons_append,E3]
   by_cases e:k = s
   ·simp [e]
   ·simp [e,ih]
theorem AO {T:List MB} {s:Nat} (h:∀ m ∈ T,m.d ≠ s):look (H7 T) s = none:=by
 induction T with
 | nil=>rfl
 | cons a r ih =>
   obtain ⟨ai,ad,aav,ard,amh⟩:=a
   have h0:ad ≠ s:=h ⟨ai,ad,aav,ard,amh⟩ (by simp)
   simp only [H7,E3]
   rw [if_neg h0,ih fun m hm=>h m (by simp [hm])]
theorem l7 {T:List MB} {m:MB} (hu:∀ m ∈ T,∀ m' ∈ T,m.d = m'.d → m = m') (hm:m ∈ T):look (H7 T) m.d = some m.av:=by
 induction T with
 | nil=>cases hm
 | cons a r ih =>
   obtain ⟨ai,ad,aav,ard,amh⟩:=a
   simp only [H7,E3]
   by_cases e:ad = m.d
   ·rw [if_pos e, ← hu ⟨ai,ad,aav,ard,amh⟩ (by simp) m hm e]
   ·rw [if_neg e]
    rcases List.mem_cons.1 hm with rfl | hm
    ·exact absurd rfl e
    ·exact ih (fun x hx y hy=>hu x (by simp [hx]) y (by simp [hy])) hm
theorem Q9 {T:List MB} {s:Nat} {x:AV} (h:look (H7 T) s = some x):∃ m ∈ T,m.d = s ∧ m.av = x:=by
 induction T with
 | nil=>cases h
 | cons a r ih =>
   obtain ⟨ai,ad,aav,ard,amh⟩:=a
   simp only [H7,E3] at h
   by_cases e:ad = s
   ·rw [if_pos e] at h;cases h;exact ⟨⟨ai,ad,_,ard,amh⟩,by simp,e,rfl⟩
   ·rw [if_neg e] at h
    obtain ⟨m,hm,h1,h2⟩:=ih h
    exact ⟨m,by simp [hm],h1,h2⟩
theorem Aw {E:Env} {n nx:Nat} {hp:Hp} {sl sl':List (Nat × AV)} {a:Act} {w:World} (e:∀ s x,look sl' s = some x → look sl s = some x) (h:T4 E n ⟨sl,nx,hp⟩ a w):T4 E n ⟨sl',nx,hp⟩ a w:=by
 obtain ⟨θ,h⟩:=h
 exact ⟨θ,h.size,h.defers,h.fr,fun s x hs=>h.slots s x (e s x hs),h.owns,h.apart,h.mine,h.X,h.base⟩
def E7 (P:Program) (E:Env) (n:Nat) (ops:Array Oper) (done:List Bool) (mb:List MB) (σ:St) (K:St → Prop):Prop :=
 (∀ m ∈ mb,RJ P ops m) → RQ ops mb σ.sl → (∀ m ∈ mb,Er m.mh σ.hp) → W5 n σ.sl mb = true →
 ∀ (fuel:Nat) (l:List Bool) (a:Act) (w:World),l.length = ops.size → (∀ i,done.getD i false = true → l.getD i false = true) → (∀ i,l.getD i false = true → done.getD i false = true ∨ ∃ m ∈ mb,m.i = i) → l.count false ≤ fuel →
  T4 E n ⟨H7 (N1 l mb) ++ σ.sl,σ.nx,σ.hp⟩ a w → wpAny P .any ops (fun e a' w'=>e = .normal ∧ ∃ σ',K σ' ∧ T4 E n σ' a' w') fuel l.toArray a w
def R0 (ops:Array Oper) (mb:List MB) (i:Nat):List MB:=mb.filter fun m=>(m8 ops i).contains m.i
def O8 (ops:Array Oper) (mb:List MB) (i:Nat):List MB:=mb.filter fun m=>!((m8 ops i).contains m.i)
def CA (ops:Array Oper) (done:List Bool) (mb:List MB) (i:Nat):List Bool:=(R0 ops mb i).foldl (fun l m=>l.set m.i true) (done.set i true)
def S9:List MB → List Nat
 | []=>[]
 | m :: r=>m.rd.map (·.1) ++ S9 r
def u1:List MB → List Nat
 | []=>[]
 | m :: r=>m.mh.map (·.1) ++ u1 r
theorem OU {hp hp':Hp}:∀ {mb:List MB},(u1 mb).map (B2 hp') = (u1 mb).map (B2 hp) → ∀ m ∈ mb,∀ p ∈ m.mh,B2 hp' p.1 = B2 hp p.1
 | [],_,m,hm,_,_=>by cases hm
 | a :: r,h,m,hm,p,hp0=>by
   refine List.map_inj_left.1 h p.1 ?_
   have key:∀ L:List MB,m ∈ L → p.1 ∈ u1 L:=by
    intro L
    induction L with
    | nil=>intro h;cases h
    | cons b t ih =>
      intro h
      simp only [u1,List.mem_append,List.mem_map]
      rcases List.mem_cons.1 h with rfl | h
      ·exact .inl ⟨p,hp0,rfl⟩
      ·exact .inr (ih h)
   exact key _ hm
structure EI (P:Program) (E:Env) (n:Nat) (ops:Array Oper) (done:List Bool) (mb:List MB) (K:St → Prop) (base:List (Nat × AV)) (k:Nat) (ex:List (Nat × AV)) (bhp:Hp) (σ':St):Prop where
 mh:(u1 mb).map (B2 σ'.hp) = (u1 mb).map (B2 bhp)
 sl:σ'.sl = σ'.sl.take k ++ ex
 rd:(S9 mb).map (look (σ'.sl.take k)) = (S9 mb).map (look base)
 chk:W5 n (σ'.sl.take k) mb = true
 go:E7 P E n ops done mb ⟨σ'.sl.take k,σ'.nx,σ'.hp⟩ K
def EJ (P:Program) (E:Env) (n:Nat) (ops:Array Oper) (done:List Bool) (mb:List MB) (σ:St) (K:St → Prop) (i:Nat):Prop :=
 match ops[i]? with
 | some o=>∀ ex:List (Nat × AV),B6 P E n ops [o] ⟨H7 (R0 ops mb i) ++ (σ.sl ++ ex),σ.nx,σ.hp⟩ fun σ'=>EI P E n ops (CA ops done mb i) (O8 ops mb i) K (H7 (R0 ops mb i) ++ σ.sl) (match o.dst,o.guard with
   | some _,some _=>(R0 ops mb i).length + σ.sl.length + 2
   | some _,none=>(R0 ops mb i).length + σ.sl.length + 1
   | none,_=>(R0 ops mb i).length + σ.sl.length) ex σ.hp σ'
 | none=>False
def Jb (P:Program) (E:Env) (n:Nat) (ops:Array Oper) (done:List Bool) (mb:List MB) (σ:St) (K:St → Prop):List Nat → Prop
 | []=>True
 | i :: r=>EJ P E n ops done mb σ K i ∧ Jb P E n ops done mb σ K r
theorem HA {P:Program} {E:Env} {n:Nat} {ops:Array Oper} {done:List Bool} {mb:List MB} {σ:St} {K:St → Prop}:∀ {r:List Nat},Jb P E n ops done mb σ K r → ∀ i ∈ r,EJ P E n ops done mb σ K i
 | [],_,i,hi=>by cases hi
 | j :: r,h,i,hi=>by
   rcases List.mem_cons.1 hi with rfl | hi
   ·exact h.1
   ·exact HA h.2 i hi
def DM (ops:Array Oper) (done:List Bool) (mb:List MB):List Nat :=
 (List.range ops.size).filter fun i=>!(done.getD i false) && !(mb.any fun m=>Nat.beq m.i i) && (m8 ops i).all fun j=>done.getD j false || mb.any fun m=>Nat.beq m.i j
def AP (ops:Array Oper):Bool:=(List.range ops.size).all fun i=>(m8 ops i).all fun j=>Nat.blt j i
def GH (ops:Array Oper) (done:List Bool) (mb:List MB):Bool:=(List.range ops.size).all fun i=>done.getD i false || mb.any fun m=>Nat.beq m.i i
theorem Ax (l:List Bool) (i j:Nat):(l.set i true).getD j false = if i = j ∧ i < l.length then true else l.getD j false:=by
 simp only [List.getD_eq_getElem?_getD,List.getElem?_set]
 by_cases e:i = j
 ·subst e
  by_cases h:i < l.length
  ·simp [h]
  ·simp [h]
 ·simp [e]
theorem FQ:∀ (l:List Bool) (i:Nat),l[i]? = some false → (l.set i true).count false + 1 = l.count false
 | [],i,h=>by simp at h
 | b :: r,0,h=>by simp at h;subst h;simp
 | b :: r,i + 1,h=>by
   have:=FQ r i (by simpa using h)
   rw [List.set_cons_succ,List.count_cons,List.count_cons]
   omega
theorem AQ:∀ (T:List MB) (l:List Bool) (j:Nat),(∀ m ∈ T,m.i < l.length) → ((T.foldl (fun l m=>l.set m.i true) l).getD j false = true ↔ l.getD j false = true ∨ ∃ m ∈ T,m.i = j)
 | [],l,j,_=>by simp
 | m :: r,l,j,h=>by
   rw [List.foldl_cons,AQ r _ j (fun x hx=>by rw [List.length_set];exact h x (by simp [hx])),Ax]
   have hm:=h m (by simp)
   by_cases e:m.i = j
   ·subst e
    constructor
    ·intro _;exact .inr ⟨m,by simp,rfl⟩
    ·intro _;left;rw [if_pos ⟨rfl,hm⟩]
   ·rw [if_neg (fun h=>e h.1)]
    constructor
    ·rintro (h1 | ⟨x,hx,e2⟩)
     ·exact .inl h1
     ·exact .inr ⟨x,by simp [hx],e2⟩
    ·rintro (h1 | ⟨x,hx,e2⟩)
     ·exact .inl h1
     ·rcases List.mem_cons.1 hx with rfl | hx
      ·exact absurd e2 e
      ·exact .inr ⟨x,hx,e2⟩
theorem IY {ops:Array Oper} {i:Nat} (h:i < ops.size):(S7 ops)[i]? = some (m8 ops i):=by
 have hl:i < (S7 ops).length:=by simp [S7];exact h
 rw [m8,List.getD_eq_getElem?_getD,List.getElem?_eq_getElem hl];rfl
theorem IZ {P:Program} {E:Env} {n:Nat} {ops:Array Oper} {done:List Bool} {mb:List MB} {σ:St} {K:St → Prop} (hlen:Nat.beq done.length ops.size = true) (hback:AP ops = true)
  (hend:GH ops done mb = true → K ⟨H7 mb ++ σ.sl,σ.nx,σ.hp⟩) (hall:Jb P E n ops done mb σ K (DM ops done mb)):E7 P E n ops done mb σ K:=by
 have hlen:=Nat.eq_of_beq_eq_true hlen
 intro hok hrd hmh hchk
 obtain ⟨hc1,hc2,hc3⟩:=x6 hchk
 have hmi:∀ m ∈ mb,m.i < ops.size:=fun m hm=>by
  obtain ⟨op,ty,pos,after,h,_⟩:=hok m hm
  exact (Array.getElem?_eq_some_iff.1 h).1
 have hsub:∀ l,∀ m ∈ N1 l mb,m ∈ mb ∧ l.getD m.i false = true:=fun l m hm=>by
  unfold N1 at hm
  exact List.mem_filter.1 hm
 have hin:∀ l,∀ m ∈ mb,l.getD m.i false = true → m ∈ N1 l mb:=fun l m hm h=>List.mem_filter.2 ⟨hm,h⟩
 have hu:∀ l,∀ m ∈ N1 l mb,∀ m' ∈ N1 l mb,m.d = m'.d → m = m':=fun l m hm m' hm'=>hc2 m (hsub l m hm).1 m' (hsub l m' hm').1
 -- a slot of the state is none of those that may be filled
 have hnone:∀ l s x,look σ.sl s = some x → look (H7 (N1 l mb)) s = none:=fun l s x hs=>AO fun m hm e=>by
  have:=(hc1 m (hsub l m hm).1).2
  rw [e,hs] at this
  cases this
 have fin:∀ (l:List Bool) (a:Act) (w:World),(∀ i,i < ops.size → l.getD i false = true) → (∀ i,l.getD i false = true → done.getD i false = true ∨ ∃ m ∈ mb,m.i = i) → T4 E n ⟨H7 (N1 l mb) ++ σ.sl,σ.nx,σ.hp⟩ a w → (Exit.normal = Exit.normal ∧ ∃ σ',K σ' ∧ T4 E n σ' a w):=by
  intro l a w hl h2 hs
  refine ⟨rfl,_,hend ?_,Aw (fun s x h=>?_) hs⟩
  ·unfold GH
   rw [List.all_eq_true]
   intro i hi
   rcases h2 i (hl i (List.mem_range.1 hi)) with h | ⟨m,hm,e⟩
   ·rw [h];rfl
   ·have:(mb.any fun m=>Nat.beq m.i i) = true:=List.any_eq_true.2 ⟨m,hm,by simp [e]⟩
    rw [this];simp
  ·have:N1 l mb = mb:=List.filter_eq_self.2 fun m hm=>hl _ (hmi m hm)
   rw [this];exact h
 have allTrue:∀ (l:List Bool),l.length = ops.size → Region.ready .any ops l.toArray = [] → ∀ i,i < ops.size → l.getD i false = true:=by
  intro l hl hr i
  induction i using Nat.strongRecOn with
  | _ i ih =>
    intro hi
    cases hx:l.getD i false with
    | true=>rfl
    | false =>
      exfalso
      have hmem:i ∈ Q8 l 0 (S7 ops) l:=by
       rw [Y3]
       refine ⟨i,m8 ops i,by omega,IY hi,?_,fun x hxe=>?_⟩
       ·rw [List.getD_eq_getElem?_getD] at hx
        have h1:l[i]? = some (l[i]'(by omega)):=List.getElem?_eq_getElem (by omega)
        rw [h1] at hx ⊢
        simpa using hx
       ·unfold AP at hback
        have h1:=List.all_eq_true.1 hback i (List.mem_range.2 hi)
        have h2:=List.all_eq_true.1 h1 x hxe
        have h3:x < i:=by simpa using h2
        exact ih x h3 (by omega)
      have:=(T9 hl i).2 hmem
      rw [hr] at this
      cases this
 intro fuel
 induction fuel with
 | zero =>
   intro l a w hl h1 h2 hcnt hs
   have h0:∀ i,i < ops.size → l.getD i false = true:=by
    intro i hi
    have hli:l[i]? = some (l[i]'(by omega)):=List.getElem?_eq_getElem (by omega)
    rw [List.getD_eq_getElem?_getD,hli]
    cases hb:l[i]'(by omega) with
    | true=>rfl
    | false =>
      have:0 < l.count false:=List.count_pos_iff.2 (hb ▸ List.getElem_mem _)
      omega
   refine ⟨?_,fin l a w h0 h2 hs⟩
   cases hx:Region.ready .any ops l.toArray with
   | nil=>rfl
   | cons i r =>
     have:=(T9 hl i).1 (by rw [hx];simp)
     rw [Y3] at this
     obtain ⟨j,e,e1,_,e2,_⟩:=this
     have hj:j < ops.size:=by rw [← hl];exact (List.getElem?_eq_some_iff.1 e2).1
     have:=h0 j hj
     rw [List.getD_eq_getElem?_getD,e2] at this
     cases this
 | succ fuel ih =>
   intro l a w hl h1 h2 hcnt hs
   refine ⟨fun hr=>fin l a w (allTrue l hl hr) h2 hs,fun i hi=>?_⟩
   have hi':=(T9 hl i).1 hi
   rw [Y3] at hi'
   obtain ⟨i',e,ei,he,hf,hed⟩:=hi'
   obtain rfl:i = i':=by omega
   have his:i < ops.size:=by rw [← hl];exact (List.getElem?_eq_some_iff.1 hf).1
   rw [IY his] at he
   cases he
   have hlf:l.getD i false = false:=by rw [List.getD_eq_getElem?_getD,hf];rfl
   have hl':(l.set i true).length = ops.size:=by rw [List.length_set];exact hl
   have hcnt':(l.set i true).count false ≤ fuel:=by have:=FQ l i hf;omega
   have hset:∀ j,(l.set i true).getD j false = true ↔ j = i ∨ l.getD j false = true:=by
    intro j
    rw [Ax]
    by_cases e:i = j
    ·subst e;simp;omega
    ·simp [e,Ne.symm e]
   by_cases hm:∃ m ∈ mb,m.i = i
   ·obtain ⟨m,hm,hmi2⟩:=hm
    subst hmi2
    obtain ⟨op,ty,pos,after,ho,hq⟩:=hok m hm
    unfold wpOp
    simp only [ho]
    rw [if_pos (by simp [Region.wanted])]
    left
    obtain ⟨θ,hs⟩:=hs
    have hev:Q3 E θ σ.nx σ.hp (D8 ⟨m.rd,0,[]⟩) a w:=by
     have h0:=hs.evT
     refine ⟨h0.fr,h0.owns,h0.X,fun {x av} hx=>h0.rel (x:=x) ?_,h0.apart,h0.fresh,h0.tab⟩
     cases x with
     | tmp t =>
       have hx':look m.rd t = some av:=hx
       show look (H7 (N1 l mb) ++ σ.sl) t = some av
       have hmem:∀ (rd:List (Nat × AV)),look rd t = some av → (t,av) ∈ rd:=by
        intro rd
        induction rd with
        | nil=>intro h;cases h
        | cons p r ih =>
          obtain ⟨k,x⟩:=p
          intro h
          rw [E3] at h
          by_cases e:k = t
          ·subst e;rw [if_pos rfl] at h;cases h;simp
          ·rw [if_neg e] at h;exact List.mem_cons_of_mem _ (ih h)
       rw [K2]
       rcases hrd m hm (t,av) (hmem _ hx') with h | ⟨m',hm',e1,e2,e3⟩
       ·rw [hnone l t av h];exact h
       ·have h4:m' ∈ N1 l mb:=hin l m' hm' (hed _ e3)
        have h5:=l7 (hu l) h4
        have e1:m'.d = t:=e1
        have e2:m'.av = av:=e2
        rw [e1,e2] at h5
        rw [h5]
     | const c=>exact hx
     | global g=>exact hx
     | func f=>exact hx
    refine GO (hq E σ.nx σ.hp ty (hmh m hm) (some m.d) pos after θ a w (fun v w'=>Below w.heap.size w w' ∧ C5 (kx E θ σ.nx σ.hp w') m.av v) hev fun v w' hb hr=>⟨hb,hr⟩) fun v w' hvw=>?_
    rw [S8]
    refine ih (l.set m.i true) _ w' hl' (fun j hj=>(hset j).2 (.inr (h1 j hj))) (fun j hj=>?_) hcnt' ?_
    ·rcases (hset j).1 hj with e | e
     ·exact .inr ⟨m,hm,e.symm⟩
     ·exact h2 j e
    ·have hput:=(hs.below hvw.1).put (d:=m.d) (hc1 m hm).1 (x:=m.av) (v:=v) hvw.2
     refine Aw (sl:=(m.d,m.av) :: (H7 (N1 l mb) ++ σ.sl)) (fun s x h=>?_) ⟨θ,hput⟩
     rw [K2] at h
     rw [E3,K2]
     cases hx:look (H7 (N1 (l.set m.i true) mb)) s with
     | some y =>
       rw [hx] at h
       cases h
       obtain ⟨m',hm',e1,e2⟩:=Q9 hx
       obtain ⟨h3,h4⟩:=hsub _ m' hm'
       by_cases e:m.d = s
       ·rw [if_pos e,hc2 m hm m' h3 (by rw [e,e1]),e2]
       ·rw [if_neg e]
        have h5:l.getD m'.i false = true:=by
         rcases (hset _).1 h4 with h6 | h6
         ·have:=hc3 m' h3 m hm h6
          subst this
          exact absurd e1 e
         ·exact h6
        have:=l7 (hu l) (hin l m' h3 h5)
        rw [e1,e2] at this
        rw [this]
     | none =>
       rw [hx] at h
       have h':look σ.sl s = some x:=h
       have hne:m.d ≠ s:=fun e=>by have:=(hc1 m hm).2;rw [e,h'] at this;cases this
       rw [if_neg hne,hnone l s x h']
       exact h'
   ·have hnm:∀ m ∈ mb,m.i ≠ i:=fun m hm' e=>hm ⟨m,hm',e⟩
    have hnd:done.getD i false = false:=by
     cases hx:done.getD i false with
     | false=>rfl
     | true=>rw [h1 i hx] at hlf;cases hlf
    have hanyF:(mb.any fun m=>Nat.beq m.i i) = false:=by
     rw [List.any_eq_false]
     intro m hm' h
     exact hnm m hm' (Nat.eq_of_beq_eq_true h)
    have hrdy:i ∈ DM ops done mb:=by
     unfold DM
     rw [List.mem_filter]
     refine ⟨List.mem_range.2 his,?_⟩
     rw [hnd,hanyF]
     simp only [Bool.not_false,Bool.true_and,List.all_eq_true]
     intro j hj
     rcases h2 j (hed j hj) with h | ⟨m,hm',e⟩
     ·rw [h];rfl
     ·have:(mb.any fun m=>Nat.beq m.i j) = true:=List.any_eq_true.2 ⟨m,hm',by simp [e]⟩
      rw [this];simp
    have hnext:=HA hall i hrdy
    unfold EJ at hnext
    split at hnext
    ·rename_i o ho
     have hte:∀ m,m ∈ R0 ops mb i ↔ m ∈ mb ∧ m.i ∈ m8 ops i:=fun m=>by simp [R0,List.mem_filter]
     have hre:∀ m,m ∈ O8 ops mb i ↔ m ∈ mb ∧ m.i ∉ m8 ops i:=fun m=>by simp [O8,List.mem_filter]
     have hs1:T4 E n ⟨H7 (R0 ops mb i) ++ (σ.sl ++ H7 (N1 l (O8 ops mb i))),σ.nx,σ.hp⟩ a w:=by
      refine Aw (fun s x h=>?_) hs
      rw [K2] at h ⊢
      cases hx:look (H7 (R0 ops mb i)) s with
      | some y =>
        rw [hx] at h
        cases h
        obtain ⟨m,hm',e1,e2⟩:=Q9 hx
        obtain ⟨h3,h4⟩:=(hte m).1 hm'
        have:=l7 (hu l) (hin l m h3 (hed _ h4))
        rw [e1,e2] at this
        rw [this]
      | none =>
        rw [hx] at h
        have h:look (σ.sl ++ H7 (N1 l (O8 ops mb i))) s = some x:=h
        rw [K2] at h
        cases hy:look σ.sl s with
        | some y =>
          rw [hy] at h
          cases h
          rw [hnone l s _ hy]
        | none =>
          rw [hy] at h
          have h:look (H7 (N1 l (O8 ops mb i))) s = some x:=h
          obtain ⟨m,hm',e1,e2⟩:=Q9 h
          obtain ⟨h3,h4⟩:=List.mem_filter.1 hm'
          have:=l7 (hu l) (hin l m ((hre m).1 h3).1 h4)
          rw [e1,e2] at this
          rw [this]
     have hw:=hnext (H7 (N1 l (O8 ops mb i))) a w hs1
     have last:∀ (kk:Nat) σ' a' w',EI P E n ops (CA ops done mb i) (O8 ops mb i) K (H7 (R0 ops mb i) ++ σ.sl) kk (H7 (N1 l (O8 ops mb i))) σ.hp σ' → T4 E n σ' a' w' → wpAny P .any ops (fun e a' w'=>e = .normal ∧ ∃ σ',K σ' ∧ T4 E n σ' a' w') fuel (l.set i true).toArray a' w':=by
      intro kk σ' a' w' hp hs'
      have hdl:∀ j,(CA ops done mb i).getD j false = true ↔ (done.getD j false = true ∨ j = i) ∨ ∃ m ∈ R0 ops mb i,m.i = j:=by
       intro j
       unfold CA
       rw [AQ _ _ _ (fun m hm'=>by rw [List.length_set,hlen];exact hmi m ((hte m).1 hm').1),Ax]
       by_cases e:i = j
       ·subst e;simp;left;omega
       ·simp [e,Ne.symm e]
      have hbase:∀ m ∈ R0 ops mb i,look (H7 (R0 ops mb i) ++ σ.sl) m.d = some m.av:=fun m hm'=>by
       rw [K2,l7 (fun m h m' h'=>hc2 m ((hte m).1 h).1 m' ((hte m').1 h').1) hm']
      refine hp.go (fun m hm'=>hok m ((hre m).1 hm').1) (fun m hm' p hpm=>?_) (fun m hm' p hpm=>(OU hp.mh m hm' p hpm).trans (hmh m ((hre m).1 hm').1 p hpm)) hp.chk fuel (l.set i true) a' w' hl' (fun j hj=>?_) (fun j hj=>?_) hcnt' ?_
      ·have hkeep:look (σ'.sl.take kk) p.1 = look (H7 (R0 ops mb i) ++ σ.sl) p.1:=by
        have hmem:p.1 ∈ S9 (O8 ops mb i):=by
         have:∀ (L:List MB),m ∈ L → p.1 ∈ S9 L:=by
          intro L
          induction L with
          | nil=>intro h;cases h
          | cons a r ih =>
            intro h
            simp only [S9,List.mem_append,List.mem_map]
            rcases List.mem_cons.1 h with rfl | h
            ·exact .inl ⟨p,hpm,rfl⟩
            ·exact .inr (ih h)
         exact this _ hm'
        obtain ⟨t,ht,et⟩:=List.getElem_of_mem hmem
        have h3:=congrArg (fun L:List (Option AV)=>L[t]?) hp.rd
        simp only [List.getElem?_map,List.getElem?_eq_getElem ht,Option.map_some,Option.some.injEq,et] at h3
        exact h3
       rcases hrd m ((hre m).1 hm').1 p hpm with h | ⟨m',hm'',e1,e2,e3⟩
       ·left
        rw [hkeep,K2,AO (fun u hu' e=>by
         have:=(hc1 u ((hte u).1 hu').1).2
         rw [e,h] at this
         cases this)]
        exact h
       ·by_cases hmt:m'.i ∈ m8 ops i
        ·left
         rw [hkeep, ← e1,hbase m' ((hte m').2 ⟨hm'',hmt⟩),e2]
        ·exact .inr ⟨m',(hre m').2 ⟨hm'',hmt⟩,e1,e2,e3⟩
      ·rw [hset]
       rcases (hdl j).1 hj with (h | h) | ⟨m,hm',e⟩
       ·exact .inr (h1 j h)
       ·exact .inl h
       ·exact .inr (e ▸ hed _ ((hte m).1 hm').2)
      ·rw [hdl]
       rcases (hset j).1 hj with h | h
       ·exact .inl (.inl (.inr h))
       ·rcases h2 j h with h | ⟨m,hm',e⟩
        ·exact .inl (.inl (.inl h))
        ·by_cases hmt:m.i ∈ m8 ops i
         ·exact .inl (.inr ⟨m,(hte m).2 ⟨hm',hmt⟩,e⟩)
         ·exact .inr ⟨m,(hre m).2 ⟨hm',hmt⟩,e⟩
      ·have hsl:=hp.sl
       obtain ⟨c1,c2,c3⟩:=x6 hp.chk
       have:N1 (l.set i true) (O8 ops mb i) = N1 l (O8 ops mb i):=by
        unfold N1
        refine List.filter_congr fun m hm'=>?_
        rw [Ax,if_neg (fun h=>hnm m ((hre m).1 hm').1 h.1.symm)]
       rw [this]
       refine Aw (sl:=σ'.sl) (fun s x h=>?_) hs'
       rw [K2] at h
       rw [hsl,K2]
       cases hx:look (H7 (N1 l (O8 ops mb i))) s with
       | some y =>
         rw [hx] at h
         cases h
         obtain ⟨m,hm',e1,e2⟩:=Q9 hx
         have h3:=(c1 m (List.mem_filter.1 hm').1).2
         rw [e1] at h3
         rw [h3]
       | none =>
         rw [hx] at h
         have h:look (σ'.sl.take kk) s = some x:=h
         rw [h]
     unfold wpOp
     simp only [ho]
     unfold wpList at hw
     split
     ·rename_i hwant
      rw [if_pos hwant] at hw
      rcases hw with hw | ⟨_,a1,w1,hx⟩
      ·refine .inl (DL (fun e a w h=>h.1) (fun a' w' hn=>?_) hw)
       obtain ⟨_,σ',hk,hs'⟩:=hn
       rw [S8]
       exact last _ σ' a' w' hk hs'
      ·exact absurd hx.1 (by simp)
     ·rename_i hwant
      rw [if_neg hwant] at hw
      obtain ⟨_,σ',hk,hs'⟩:=hw
      rw [S8]
      exact last _ σ' _ _ hk hs'
    ·exact hnext.elim
def GI:List MB → (List MB → Prop) → Prop
 | [],F=>F []
 | ⟨i,d,av,rd,mh⟩ :: r,F=>k6 rd fun rd2=>GI r fun s=>F (⟨i,d,av,rd2,mh⟩ :: s)
theorem EK:∀ {l:List MB} {F:List MB → Prop},GI l F → F l
 | [],F,h=>h
 | ⟨i,d,av,rd,mh⟩ :: r,F,h=>EK (l:=r) (F:=fun s=>F (⟨i,d,av,rd,mh⟩ :: s)) (R7 h)
def Ay (op:Op) (sl:List (Nat × AV)):List (Nat × AV):=op.operands.toList.filterMap fun x=>match x with
 | .tmp t=>(look sl t).map fun a=>(t,a)
 | _=>none
def CT (ops:Array Oper) (mb:List MB) (i:Nat) (op:Op):Bool:=op.operands.toList.all fun x=>match x with
 | .tmp t=>mb.all fun m=>!(Nat.beq m.d t) || (m8 ops i).contains m.i
 | _=>true
def HB (ev:Operand → Option AV) (x:Operand):Bool:=match ev x with
 | some a=>H2 a
 | none=>false
def RR (op:Op) (ev:Operand → Option AV):Bool :=
 match op with
 | .move x=>(ev x).isSome
 | .assign x=>(ev x).isSome
 | .binOp _ _ x y _=>HB ev x && HB ev y
 | .load _ x=>match ev x with
   | some (.iptr _)=>true
   | _=>false
 | .fieldAddr _ x _=>match ev x with
   | some (.iptr _)=>true
   | some (.ref _ _)=>true
   | _=>false
 | .indexAddr _ x y=>(match ev x with
   | some (.sl _ _)=>true
   | _=>false) && HB ev y
 | .call ⟨.builtin .len,⟨[x]⟩,⟨[_]⟩⟩=>match ev x with
   | some (.sl _ _)=>true
   | some (.str _)=>true
   | some (.v (.slice none 0 0))=>true
   | _=>false
 | .call ⟨.builtin .max,⟨[x,y]⟩,⟨[_,_]⟩⟩=>match ev x,ev y with
   | some (.v (.int .i64 _)),some (.v (.int .i64 _))=>true
   | _,_=>false
 | .call ⟨.value (.func f),⟨args⟩,_⟩=>match P9 ev args with
   | some l=>H1 l
   | none=>false
 | .build _ ⟨parts⟩=>match V5 ev parts with
   | some ps=>ps.all fun p=>H2 p.2
   | none=>false
 | .buildSlice _ _ ⟨parts⟩=>match V5 ev parts with
   | some ps=>ps.all fun p=>H2 p.2
   | none=>false
 | .convert _ _ x=>HB ev x
 | .extract x k=>match ev x with
   | some (.tup l)=>(l[k]?).isSome
   | _=>false
 | .slice _ x lo hi none=>(match ev x with
   | some (.str _)=>true
   | _=>false) && (match lo with
   | some o=>HB ev o
   | none=>true) && (match hi with
   | some o=>HB ev o
   | none=>true)
 | .unOp .not _ x=>match ev x with
   | some (.v (.bool _))=>true
   | _=>false
 | .index _ x y=>(match ev x with
   | some (.str _)=>true
   | _=>false) && HB ev y
 | _=>false
def Ns (ops:Array Oper) (n:Nat) (done:List Bool) (mb:List MB) (sl:List (Nat × AV)) (i:Nat):Bool :=
 !(done.getD i false) && !(mb.any fun m=>Nat.beq m.i i) && ((m8 ops i).all fun j=>done.getD j false || mb.any fun m=>Nat.beq m.i j) && match ops[i]? with
  | some ⟨some d,op,_,_,_,none⟩=>RR op (D8 ⟨H7 mb ++ sl,0,[]⟩) && W5 n sl (⟨i,d, .any,[],[]⟩ :: mb) && CT ops mb i op
  | _=>false
theorem Mb {op:Op} {sl:List (Nat × AV)} {p:Nat × AV} (h:p ∈ Ay op sl):look sl p.1 = some p.2 ∧ Operand.tmp p.1 ∈ op.operands.toList:=by
 unfold Ay at h
 rw [List.mem_filterMap] at h
 obtain ⟨x,hx,h⟩:=h
 split at h
 ·rw [Option.map_eq_some_iff] at h
  obtain ⟨a,ha,rfl⟩:=h
  exact ⟨ha,hx⟩
 ·cases h
theorem FR {P:Program} {E:Env} {n:Nat} {ops:Array Oper} {done:List Bool} {mb:List MB} {σ:St} {K:St → Prop} {i d:Nat} {op:Op} {ty:TypeId} {pos:String} {after:Array Edge} (hop:ops[i]? = some ⟨some d,op,ty,pos,after,none⟩)
  (hed:CT ops mb i op = true) (hnew:W5 n σ.sl (⟨i,d, .any,[],[]⟩ :: mb) = true) (hnd:done.getD i false = false) {av:AV} {mh:Hp}
  (hq:∀ (E:Env) (nx:Nat) (hp:Hp) (ty:TypeId),Er mh hp → E2 P E nx hp (D8 ⟨Ay op (H7 mb ++ σ.sl),0,[]⟩) op ty av) (hh:Er mh σ.hp)
  (h:E7 P E n ops done (⟨i,d,av,Ay op (H7 mb ++ σ.sl),mh⟩ :: mb) σ K):E7 P E n ops done mb σ K:=by
 intro hok hrd hmh hchk fuel l a w hl h1 h2 hcnt hs
 obtain ⟨c1,c2,c3⟩:=x6 hnew
 have hli:l.getD i false = false:=by
  cases hx:l.getD i false with
  | false=>rfl
  | true =>
    exfalso
    rcases h2 i hx with h | ⟨m,hm,e⟩
    ·rw [hnd] at h;cases h
    ·simp only [W5,Bool.and_eq_true,List.all_eq_true,Bool.not_eq_true'] at hnew
     have h3:=(hnew.1.2 m hm).2
     rw [e] at h3
     simp at h3
 refine h (fun m hm=>?_) (fun m hm p hp=>?_) (fun m hm=>?_) hnew fuel l a w hl h1 (fun j hj=>?_) hcnt ?_
 ·rcases List.mem_cons.1 hm with rfl | hm
  ·exact ⟨op,ty,pos,after,hop,hq⟩
  ·exact hok m hm
 ·rcases List.mem_cons.1 hm with rfl | hm
  ·obtain ⟨h3,h4⟩:=Mb hp
   rw [K2] at h3
   cases hx:look (H7 mb) p.1 with
   | none=>rw [hx] at h3;exact .inl h3
   | some y =>
     rw [hx] at h3
     cases h3
     obtain ⟨m',hm',e1,e2⟩:=Q9 hx
     refine .inr ⟨m',List.mem_cons_of_mem _ hm',e1,e2,?_⟩
     have h5:=List.all_eq_true.1 hed _ h4
     have h6:=List.all_eq_true.1 h5 m' hm'
     rw [e1] at h6
     simpa using h6
  ·rcases hrd m hm p hp with h3 | ⟨m',hm',h4⟩
   ·exact .inl h3
   ·exact .inr ⟨m',List.mem_cons_of_mem _ hm',h4⟩
 ·rcases List.mem_cons.1 hm with rfl | hm
  ·exact hh
  ·exact hmh m hm
 ·rcases h2 j hj with h3 | ⟨m,hm,e⟩
  ·exact .inl h3
  ·exact .inr ⟨m,List.mem_cons_of_mem _ hm,e⟩
 ·have:N1 l (⟨i,d,av,Ay op (H7 mb ++ σ.sl),mh⟩ :: mb) = N1 l mb:=by
   unfold N1
   rw [List.filter_cons,if_neg (by simp only [hli];exact Bool.false_ne_true)]
  rw [this]
  exact hs
theorem Mc {P:Program} {E:Env} {n:Nat} {ops:Array Oper} {done:List Bool} {mb:List MB} {σ:St} {K:St → Prop} {i d:Nat} {op:Op} {ty:TypeId} {pos:String} {after:Array Edge} (hop:ops[i]? = some ⟨some d,op,ty,pos,after,none⟩)
  (hed:CT ops mb i op = true) (hnew:W5 n σ.sl (⟨i,d, .any,[],[]⟩ :: mb) = true) (hnd:done.getD i false = false)
  (h:MV P op (D8 ⟨Ay op (H7 mb ++ σ.sl),0,[]⟩) fun av=>E7 P E n ops done (⟨i,d,av,Ay op (H7 mb ++ σ.sl),[]⟩ :: mb) σ K):E7 P E n ops done mb σ K:=by
 obtain ⟨av,hq,h⟩:=RI h
 exact FR hop hed hnew hnd (fun E nx hp ty _=>hq E nx hp ty) (fun p hp=>by cases hp) h
def HC (P:Program) (T:Nat) (l:List AV) (off:Nat) (F:AV → Prop):Prop:=Bm P T fun ag sz=>cond ag
 (cond (Nat.beq off 0 && Nat.beq l.length sz) (F (.agg l)) (E1 (((l.drop off).take sz).length = sz) (F (.agg ((l.drop off).take sz)))))
 (M0 (l[off]?) F)
theorem Md {P:Program} {T off b τ:Nat} {l:List AV} {x:Operand} {ev:Operand → Option AV} {F:AV → Prop} (hx:ev x = some (.ref b off)) (h:HC P T l off F) :
  ∃ av,(∀ (E:Env) (nx:Nat) (hp:Hp) (ty:TypeId),Er [(b,some (.bx τ l))] hp → E2 P E nx hp ev (.load T x) ty av) ∧ F av:=by
 unfold HC at h
 obtain ⟨⟨ag,sz,tv,h⟩⟩:=h
 have hb:∀ hp,Er [(b,some (.bx τ l))] hp → B2 hp b = some (.bx τ l):=fun hp h=>h _ (List.mem_singleton.2 rfl)
 cases ag with
 | true =>
   change cond (Nat.beq off 0 && Nat.beq l.length sz) _ _ at h
   cases hc:Nat.beq off 0 && Nat.beq l.length sz with
   | true =>
     rw [hc] at h
     simp only [Bool.and_eq_true] at hc
     have h0:=Nat.eq_of_beq_eq_true hc.1
     subst h0
     exact ⟨_,fun _ _ hp _ hh=>Dd (sz:=sz) hx (hb hp hh) (Nat.eq_of_beq_eq_true hc.2),h⟩
   | false =>
     rw [hc] at h
     exact ⟨_,fun _ _ hp _ hh=>Z6 (sz:=sz) hx (hb hp hh) rfl h.h,h.k⟩
 | false =>
   obtain ⟨av,ha,h⟩:=F8 h
   exact ⟨av,fun _ _ hp _ hh=>Dc (sz:=sz) hx (hb hp hh) ha,h⟩
def RK (ops:Array Oper) (j:Nat):Bool:=match ops[j]? with
 | some o=>match o.op with
   | .store ..=>true
   | .mapUpdate ..=>true
   | .call ⟨.builtin .len,_,_⟩=>false
   | .call ⟨.builtin .max,_,_⟩=>false
   | .call ⟨.builtin .min,_,_⟩=>false
   | .call _=>true
   | _=>false
 | none=>false
def Nt (ops:Array Oper) (n:Nat) (done:List Bool) (mb:List MB) (σ:St) (i:Nat):Bool :=
 !(done.getD i false) && !(mb.any fun m=>Nat.beq m.i i) && ((m8 ops i).all fun j=>done.getD j false || mb.any fun m=>Nat.beq m.i j) && match ops[i]? with
  | some ⟨some d, .load T x,_,_,_,none⟩=>(match D8 ⟨H7 mb ++ σ.sl,0,[]⟩ x with
    | some (.ref b _)=>match B2 σ.hp b with
      | some (.bx _ _)=>true
      | _=>false
    | _=>false) && W5 n σ.sl (⟨i,d, .any,[],[]⟩ :: mb) && CT ops mb i (.load T x) && ((List.range ops.size).all fun j=>done.getD j false || !(RK ops j) || (m8 ops j).contains i)
  | _=>false
structure Pp (F:List (Nat × AV) → Prop):Prop where
 h:∀ ex,F ex
theorem RL {F:List (Nat × AV) → Prop} (h:∀ ex,F ex):Pp F:=⟨h⟩
structure EL (P:Program) (E:Env) (n:Nat) (ops:Array Oper) (done:List Bool) (mb:List MB) (σ:St) (K:St → Prop) (r:List Nat):Prop where
 h:Jb P E n ops done mb σ K r
theorem A6 {P:Program} {E:Env} {n:Nat} {ops:Array Oper} {done:List Bool} {mb:List MB} {σ:St} {K:St → Prop}:EL P E n ops done mb σ K []:=⟨trivial⟩
def Jc (P:Program) (E:Env) (n:Nat) (ops:Array Oper) (done:List Bool) (mb:List MB) (σ:St) (K:St → Prop) (i:Nat):Prop :=
 match ops[i]? with
 | some o=>k6 (H7 (R0 ops mb i) ++ σ.sl) fun sl2=>Pp fun ex=>B6 P E n ops [o] ⟨sl2 ++ ex,σ.nx,σ.hp⟩ fun σ'=>EI P E n ops (CA ops done mb i) (O8 ops mb i) K (H7 (R0 ops mb i) ++ σ.sl) (match o.dst,o.guard with
   | some _,some _=>(R0 ops mb i).length + σ.sl.length + 2
   | some _,none=>(R0 ops mb i).length + σ.sl.length + 1
   | none,_=>(R0 ops mb i).length + σ.sl.length) ex σ.hp σ'
 | none=>False
theorem Jd {P:Program} {E:Env} {n:Nat} {ops:Array Oper} {done:List Bool} {mb:List MB} {σ:St} {K:St → Prop} {i:Nat} (h:Jc P E n ops done mb σ K i):EJ P E n ops done mb σ K i:=by
 unfold Jc at h
 unfold EJ
 split at h
 ·have h2:=(R7 h).h
  simp only [List.append_assoc] at h2
  exact h2
 ·exact h.elim
theorem A7 {P:Program} {E:Env} {n:Nat} {ops:Array Oper} {done:List Bool} {mb:List MB} {σ:St} {K:St → Prop} {i:Nat} {r:List Nat} (h:Jc P E n ops done mb σ K i) (k:EL P E n ops done mb σ K r):EL P E n ops done mb σ K (i :: r):=⟨⟨Jd h,k.h⟩⟩
theorem OV {P:Program} {E:Env} {n:Nat} {ops:Array Oper} {done:List Bool} {mb:List MB} {K:St → Prop} {base:List (Nat × AV)} {k:Nat} {ex:List (Nat × AV)} {bhp:Hp} {σ':St} (h0:(u1 mb).map (B2 σ'.hp) = (u1 mb).map (B2 bhp)) (h1:σ'.sl = σ'.sl.take k ++ ex) (h2:(S9 mb).map (look (σ'.sl.take k)) = (S9 mb).map (look base)) (h3:W5 n (σ'.sl.take k) mb = true)
  (h4:k6 (σ'.sl.take k) fun sl2=>N9 σ'.hp fun hp2=>F2 σ'.nx fun nx2=>CR done fun done2=>GI mb fun mb2=>E7 P E n ops done2 mb2 ⟨sl2,nx2,hp2⟩ K):EI P E n ops done mb K base k ex bhp σ' :=
 ⟨h0,h1,h2,h3,EK (o3 (D2 (O7 (R7 h4))))⟩
def Pq (P:Program) (E:Env) (n:Nat) (ops:Array Oper) (done:List Bool) (mb:List MB) (σ:St) (K:St → Prop):Prop :=
 match (List.range ops.size).find? (Ns ops n done mb σ.sl) with
 | some i=>match ops[i]? with
   | some ⟨some d,op,_,_,_,none⟩=>k6 (Ay op (H7 mb ++ σ.sl)) fun rd=>MV P op (D8 ⟨rd,0,[]⟩) fun av=>E7 P E n ops done (⟨i,d,av,rd,[]⟩ :: mb) σ K
   | _=>False
 | none=>match (List.range ops.size).find? (Nt ops n done mb σ) with
   | some i=>match ops[i]? with
     | some ⟨some d, .load T x,_,_,_,none⟩=>k6 (Ay (.load T x) (H7 mb ++ σ.sl)) fun rd=>match D8 ⟨rd,0,[]⟩ x with
       | some (.ref b off)=>match B2 σ.hp b with
         | some (.bx τ l)=>HC P T l off fun av=>E7 P E n ops done (⟨i,d,av,rd,[(b,some (.bx τ l))]⟩ :: mb) σ K
         | _=>False
       | _=>False
     | _=>False
   | none=>GG (DM ops done mb) fun L=>match L with
     | []=>cond (GH ops done mb) (K ⟨H7 mb ++ σ.sl,σ.nx,σ.hp⟩) False
     | i :: r=>EL P E n ops done mb σ K (i :: r)
theorem Kt {P:Program} {E:Env} {n:Nat} {ops:Array Oper} {done:List Bool} {mb:List MB} {σ:St} {K:St → Prop} (hlen:Nat.beq done.length ops.size = true) (hback:AP ops = true)
  (h:GG (DM ops done mb) fun L=>match L with
   | []=>cond (GH ops done mb) (K ⟨H7 mb ++ σ.sl,σ.nx,σ.hp⟩) False
   | i :: r=>EL P E n ops done mb σ K (i :: r)):E7 P E n ops done mb σ K:=by
 have h:=EE h
 split at h
 ·rename_i hr
  obtain ⟨ha,h⟩:=cond_false h
  exact IZ hlen hback (fun _=>h) (by rw [hr];trivial)
 ·rename_i i r hr
  refine IZ hlen hback (fun ha=>?_) (by rw [hr];exact h.h)
  exfalso
  have hmem:i ∈ DM ops done mb:=by rw [hr];simp
  unfold DM at hmem
  rw [List.mem_filter] at hmem
  have h2:=List.all_eq_true.1 ha i hmem.1
  have h3:=hmem.2
  simp only [Bool.and_eq_true,Bool.not_eq_true'] at h3
  rw [h3.1.1,h3.1.2] at h2
  cases h2
theorem A3 {P:Program} {E:Env} {n:Nat} {ops:Array Oper} {done:List Bool} {mb:List MB} {σ:St} {K:St → Prop} (hlen:Nat.beq done.length ops.size = true) (hback:AP ops = true) (h:Pq P E n ops done mb σ K):E7 P E n ops done mb σ K:=by
 unfold Pq at h
 split at h
 ·rename_i i hi
  have hc:=List.find?_some hi
  split at h
  ·rename_i d op ty pos after hop
   simp only [Ns,hop,Bool.and_eq_true,Bool.not_eq_true'] at hc
   exact Mc hop hc.2.2 hc.2.1.2 hc.1.1.1 (R7 h)
  ·exact h.elim
 ·split at h
  ·rename_i i hi
   have hc:=List.find?_some hi
   split at h
   ·rename_i d T x ty pos after hop
    have h:=R7 h
    split at h
    ·rename_i b off hx
     split at h
     ·rename_i τ l hb
      simp only [Nt,hop,Bool.and_eq_true,Bool.not_eq_true'] at hc
      obtain ⟨av,hq,h⟩:=Md (τ:=τ) hx h
      exact FR hop hc.2.1.2 hc.2.1.1.2 hc.1.1.1 hq (fun p hp=>by rw [List.mem_singleton.1 hp];exact hb) h
     ·exact h.elim
    ·exact h.elim
   ·exact h.elim
  ·exact Kt hlen hback h
theorem HD {P:Program} {E:Env} {n:Nat} {ops:Array Oper} {σ:St} {K:St → Prop} (h:E7 P E n ops (P4 ops) [] σ K):F1 P E n ops ops.size (P4 ops) σ K:=fun a w hs =>
 h (fun m hm=>by cases hm) (fun m hm=>by cases hm) (fun m hm=>by cases hm) rfl ops.size (P4 ops) a w (by simp [P4]) (fun i h=>h) (fun i h=>.inl h) (by
  have:=List.count_le_length (a:=false) (l:=P4 ops)
  simpa [P4] using this) hs
theorem F5 {P:Program} {E:Env} {n:Nat} {ops:Array Oper} {σ:St} {Q:Exit → St → Prop} {id:Nat} [hm:En P] (S:St) (h:CR (P4 ops) fun d=>k6 σ.sl fun sl=>E7 P E n ops d [] ⟨sl,σ.nx,σ.hp⟩ fun σ'=>St.le E n σ' S) (k:Q .normal S):k5 P E n id ops σ Q:=l6 S (HD (R7 (o3 h))) k
def Pr (S:Nat → List AV → Prop):List Nat → List AV → Prop
 | [],l=>l = []
 | t :: r,l=>∃ a b,S t a ∧ Pr S r b ∧ l = a ++ b
def Ps (S:List AV → Prop):Nat → List AV → Prop
 | 0,l=>l = []
 | n + 1,l=>∃ a b,S a ∧ Ps S n b ∧ l = a ++ b
def CB (P:Program) (tot:Nat):List Field → Nat → Bool
 | [],o=>Nat.beq o tot
 | f :: r,o=>Nat.beq f.offset o && CB P tot r (o + P.cellsOf f.type)
def Sh (P:Program):Nat → TypeId → List AV → Prop
 | 0,_,_=>False
 | f + 1,t,l=>match P.underlying t with
   | some .bool=>∃ b,l = [.v (.bool b)]
   | some (.int k)=>∃ n,(Lit.int k n).wf = true ∧ l = [.v (.int k n)]
   | some .string=>∃ s,s.length ≤ maxLen ∧ l = [.str s]
   | some (.slice e)=>∃ ls,ls.length ≤ maxLen ∧ (∀ x ∈ ls,Sh P f e x) ∧ l = [.sl (P.cellsOf e) ls]
   | some (.struct fs)=>CB P (P.cellsOf t) fs.toList 0 = true → Pr (Sh P f) (fs.toList.map (·.type)) l
   | some (.array n e)=>P.cellsOf t = n * P.cellsOf e → Ps (Sh P f e) n l
   | _=>True
def AR:Nat → Prop:=fun _=>False
def Y9 (w:World) (l:List AV) (cs:List Value):Prop:=l.length = cs.length ∧ ∀ (j:Nat) x y,l[j]? = some x → cs[j]? = some y → Im AR w x y
theorem Y9.nil {w:World}:Y9 w [] []:=⟨rfl,fun j x y h=>by simp at h⟩
theorem Y9.one {w:World} {a:AV} {v:Value} (h:Im AR w a v):Y9 w [a] [v]:=⟨rfl,fun j x y hx hy=>by
 cases j with
 | zero=>simp at hx hy;subst hx hy;exact h
 | succ j=>simp at hx⟩
theorem Y9.app {w:World} {l m:List AV} {cs ds:List Value} (h:Y9 w l cs) (h':Y9 w m ds):Y9 w (l ++ m) (cs ++ ds):=by
 refine ⟨by rw [List.length_append,List.length_append,h.1,h'.1],fun j x y hx hy=>?_⟩
 by_cases hj:j < l.length
 ·rw [List.getElem?_append_left hj] at hx
  rw [List.getElem?_append_left (by rw [← h.1];exact hj)] at hy
  exact h.2 j x y hx hy
 ·rw [List.getElem?_append_right (by omega)] at hx
  rw [List.getElem?_append_right (by rw [← h.1];omega), ← h.1] at hy
  exact h'.2 _ x y hx hy
theorem Y9.raw {w:World} (cs:List Value):Y9 w (cs.map .v) cs:=⟨by simp,fun j x y hx hy=>by
 rw [List.getElem?_map,hy] at hx
 simp at hx;subst hx;exact .v _⟩
theorem Az {α β:Type} {f:α → Option β}:∀ {l:List α} {r:List β},l.mapM f = some r → r.length = l.length ∧ ∀ (i:Nat) x,l[i]? = some x → ∃ y,r[i]? = some y ∧ f x = some y
 | [],r,h=>by simp at h;subst h;simp
 | a :: l,r,h=>by
   rw [List.mapM_cons] at h
   cases ha:f a with
   | none=>rw [ha] at h;cases h
   | some y =>
     rw [ha] at h
     cases hl:l.mapM f with
     | none=>rw [hl] at h;cases h
     | some r' =>
       rw [hl] at h
       cases h
       obtain ⟨h1,h2⟩:=Az hl
       refine ⟨by simp [h1],fun i x hi=>?_⟩
       cases i with
       | zero=>simp at hi;subst hi;exact ⟨y,rfl,ha⟩
       | succ i=>simp at hi;simpa using h2 i x hi
theorem Hz {w:World} {base:Nat} {a:Addr} {n:Nat} {cs:List Value} (h:w.cells? base a n = some cs):cs.length = n ∧ ∀ j,j < n → ∃ v,cs[j]? = some v ∧ w.cell? (a.add j) = some v:=by
 unfold World.cells? at h
 split at h
 ·obtain ⟨h1,h2⟩:=Az h
  rw [List.length_range] at h1
  refine ⟨h1,fun j hj=>?_⟩
  obtain ⟨y,hy,hc⟩:=h2 j j (by rw [List.getElem?_range hj])
  exact ⟨y,hy,hc⟩
 ·cases h
theorem Me {α:Type} (n:Nat) (f:Nat → α) (i:Nat):((List.range n).map f)[i]? = if i < n then some (f i) else none:=by
 by_cases h:i < n
 ·simp [h]
 ·simp [h]
section
variable {H:Type} {enc:TypeId × Value → H} {P:Program} {w:World} {base:Nat} {spare:Nat → Bool} {held:Bool}
theorem FS {S:Nat → List AV → Prop} {T:Nat → List Value → Option (DataW H × List MemPlace)} (hT:∀ t cs y,T t cs = some y → ∃ l,S t l ∧ Y9 w l cs) {tot:Nat} (cs:List Value) (hcs:cs.length = tot) :
  ∀ (fs:List Field) (o:Nat) {r},CB P tot fs o = true → (fs.mapM fun f=>T f.type ((cs.drop f.offset).take (P.cellsOf f.type))) = some r → ∃ l,Pr S (fs.map (·.type)) l ∧ Y9 w l (cs.drop o)
 | [],o,r,hc,h=>by
   have:o = tot:=Nat.eq_of_beq_eq_true hc
   exact ⟨[],rfl,by rw [List.drop_of_length_le (by omega)];exact .nil⟩
 | f :: fs,o,r,hc,h=>by
   simp only [CB,Bool.and_eq_true] at hc
   have ho:f.offset = o:=Nat.eq_of_beq_eq_true hc.1
   rw [List.mapM_cons] at h
   cases ha:T f.type ((cs.drop f.offset).take (P.cellsOf f.type)) with
   | none=>rw [ha] at h;cases h
   | some y =>
     rw [ha] at h
     cases hl:(fs.mapM fun f=>T f.type ((cs.drop f.offset).take (P.cellsOf f.type))) with
     | none=>rw [hl] at h;cases h
     | some r' =>
       obtain ⟨a,ha1,ha2⟩:=hT _ _ _ ha
       obtain ⟨b,hb1,hb2⟩:=FS hT cs hcs fs _ hc.2 hl
       refine ⟨a ++ b,⟨a,b,ha1,hb1,rfl⟩,?_⟩
       have:=ha2.app hb2
       rw [ho, ← List.drop_drop,List.take_append_drop] at this
       exact this
theorem HE {S:List AV → Prop} {c:Nat} {T:List Value → Option (DataW H × List MemPlace)} (hT:∀ cs y,T cs = some y → ∃ l,S l ∧ Y9 w l cs) (cs:List Value) :
  ∀ (n i:Nat),cs.length = (i + n) * c → (∀ k,k < n → ∃ y,T ((cs.drop ((i + k) * c)).take c) = some y) → ∃ l,Ps S n l ∧ Y9 w l (cs.drop (i * c))
 | 0,i,hl,_=>⟨[],rfl,by rw [List.drop_of_length_le (by rw [hl,Nat.add_zero];exact Nat.le_refl _)];exact .nil⟩
 | n + 1,i,hl,h=>by
   obtain ⟨y,hy⟩:=h 0 (by omega)
   obtain ⟨a,ha1,ha2⟩:=hT _ _ hy
   obtain ⟨b,hb1,hb2⟩:=HE hT cs n (i + 1) (by rw [hl];congr 1;omega) (fun k hk=>by
    obtain ⟨z,hz⟩:=h (k + 1) (by omega)
    exact ⟨z,by rw [show i + 1 + k = i + (k + 1) by omega];exact hz⟩)
   refine ⟨a ++ b,⟨a,b,ha1,hb1,rfl⟩,?_⟩
   have:=ha2.app hb2
   rw [Nat.add_zero,Nat.add_mul,Nat.one_mul, ← List.drop_drop,List.take_append_drop] at this
   exact this
theorem OW:∀ (fuel:Nat) (t:TypeId) (cs:List Value) (y:DataW H × List MemPlace),DataW.trod enc P w base spare held fuel t cs = some y → ∃ l,Sh P fuel t l ∧ Y9 w l cs:=by
 intro fuel
 induction fuel with
 | zero=>intro t cs y h;simp [DataW.trod] at h
 | succ f ih =>
   intro t cs y h
   have raw:(∀ l,Sh P (f + 1) t l) → ∃ l,Sh P (f + 1) t l ∧ Y9 w l cs:=fun hall=>⟨_,hall _, .raw cs⟩
   unfold DataW.trod at h
   split at h
   ·rename_i ht
    exact ⟨[.v (.bool _)],by simp only [Sh,ht];exact ⟨_,rfl⟩, .one (.v _)⟩
   ·rename_i k k' n ht
    split at h
    ·rename_i hk
     obtain ⟨rfl,hwf⟩:=hk
     exact ⟨[.v (.int k' n)],by simp only [Sh,ht];exact ⟨_,hwf,rfl⟩, .one (.v _)⟩
    ·cases h
   ·rename_i ht;exact raw fun l=>by simp only [Sh,ht]
   ·rename_i s ht
    split at h
    ·rename_i hs
     refine ⟨[.str s.data.toList],by simp only [Sh,ht];exact ⟨_,by rw [Array.length_toList];exact hs,rfl⟩, .one ?_⟩
     have:=Im.str (U:=AR) (w:=w) s.data.toList
     simpa using this
    ·cases h
   ·rename_i ht;exact raw fun l=>by simp only [Sh,ht]
   ·rename_i ht;exact raw fun l=>by simp only [Sh,ht]
   ·rename_i e ht
    exact ⟨[.sl (P.cellsOf e) []],by simp only [Sh,ht];exact ⟨[],Nat.zero_le _,(fun x hx=>by cases hx),rfl⟩, .one (.slnil _)⟩
   ·rename_i e a len cap ht
    simp only at h
    split at h
    ·rename_i hb
     obtain ⟨hb0,hlc,hcm⟩:=hb
     rw [Option.bind_eq_some_iff] at h
     obtain ⟨elems,hel,_⟩:=h
     obtain ⟨_,hel2⟩:=Az hel
     have key:∀ i, ∃ p:List AV × List Value,i < len → Sh P f e p.1 ∧ Y9 w p.1 p.2 ∧ p.2.length = P.cellsOf e ∧ ∀ j,j < P.cellsOf e → ∃ v,p.2[j]? = some v ∧ w.cell? (a.add (i * P.cellsOf e + j)) = some v:=by
      intro i
      by_cases hi:i < len
      ·obtain ⟨z,_,hz⟩:=hel2 i i (by rw [List.getElem?_range hi])
       rw [Option.bind_eq_some_iff] at hz
       obtain ⟨csi,hcs,htr⟩:=hz
       obtain ⟨hlen,hcell⟩:=Hz hcs
       obtain ⟨l,hsh,hp⟩:=ih _ _ _ htr
       exact ⟨(l,csi),fun _=>⟨hsh,hp,hlen,fun j hj=>by
        obtain ⟨v,hv,hc⟩:=hcell j hj
        rw [Z8] at hc
        exact ⟨v,hv,hc⟩⟩⟩
      ·exact ⟨([],[]),fun h=>absurd h hi⟩
     have key2:=fun i=>Classical.choose_spec (key i)
     generalize hg:(fun i=>Classical.choose (key i)) = g at key2
     have gi:∀ i,Classical.choose (key i) = g i:=fun i=>congrFun hg i
     simp only [gi] at key2
     refine ⟨[.sl (P.cellsOf e) ((List.range len).map fun i=>(g i).1)],?_, .one ?_⟩
     ·simp only [Sh,ht]
      refine ⟨_,by simp;omega,fun x hx=>?_,rfl⟩
      obtain ⟨i,hi,rfl⟩:=List.mem_map.1 hx
      exact (key2 i (List.mem_range.1 hi)).1
     ·have hl:((List.range len).map fun i=>(g i).1).length = len:=by simp
      have:=Im.sl (U:=AR) (w:=w) (P.cellsOf e) ((List.range len).map fun i=>(g i).1) a cap (fun i j=>(g i).2.getD j undef) (by rw [hl];exact hlc) hcm (fun _ _ h=>h)
       (fun x hx=>by
        obtain ⟨i,hi,rfl⟩:=List.mem_map.1 hx
        obtain ⟨_,h1,h2,_⟩:=key2 i (List.mem_range.1 hi)
        rw [h1.1,h2])
       (fun i hi j hj=>by
        rw [hl] at hi
        obtain ⟨_,_,_,h3⟩:=key2 i hi
        obtain ⟨v,hv,hc⟩:=h3 j hj
        simp only [List.getD_eq_getElem?_getD,hv]
        exact hc)
       (fun i x hx j u hu=>by
        rw [Me] at hx
        split at hx
        ·rename_i hi
         cases hx
         obtain ⟨_,h1,h2,h3⟩:=key2 i hi
         have hj:j < P.cellsOf e:=by rw [← h2, ← h1.1];exact (List.getElem?_eq_some_iff.1 hu).1
         obtain ⟨v,hv,_⟩:=h3 j hj
         simp only [List.getD_eq_getElem?_getD,hv]
         exact h1.2 j u v hu hv
        ·cases hx)
      rw [hl] at this
      exact this
    ·cases h
   ·rename_i fs ht
    split at h
    ·rename_i hl
     rw [Option.map_eq_some_iff] at h
     obtain ⟨r,hr,_⟩:=h
     by_cases hc:CB P (P.cellsOf t) fs.toList 0 = true
     ·obtain ⟨l,h1,h2⟩:=FS (S:=Sh P f) (fun t cs y h=>ih t cs y h) _ hl fs.toList 0 hc hr
      exact ⟨l,by simp only [Sh,ht];exact fun _=>h1,by simpa using h2⟩
     ·exact raw fun l=>by simp only [Sh,ht];exact fun h=>absurd h hc
    ·cases h
   ·rename_i n e ht
    split at h
    ·rename_i hl
     rw [Option.map_eq_some_iff] at h
     obtain ⟨r,hr,_⟩:=h
     by_cases hc:P.cellsOf t = n * P.cellsOf e
     ·obtain ⟨_,hr2⟩:=Az hr
      obtain ⟨l,h1,h2⟩:=HE (S:=Sh P f e) (c:=P.cellsOf e) (T:=fun cs=>DataW.trod enc P w base spare held f e cs) (fun cs y h=>ih e cs y h) _ n 0 (by rw [hl,hc,Nat.zero_add]) (fun k hk=>by
       obtain ⟨z,_,hz⟩:=hr2 k k (by rw [List.getElem?_range hk])
       exact ⟨z,by rw [Nat.zero_add];exact hz⟩)
      exact ⟨l,by simp only [Sh,ht];exact fun _=>h1,by simpa using h2⟩
     ·exact raw fun l=>by simp only [Sh,ht];exact fun h=>absurd h hc
    ·cases h
   all_goals first
    | cases h;done
    | (rename_i ht;exact raw (by intro l;simp only [Sh,ht]))
    | (rename_i ht;split at h <;> first | (cases h;done) | exact raw (by intro l;simp only [Sh,ht]))
    | (rename_i ht _;exact raw (by intro l;simp only [Sh,ht]))
def U0 (P:Program) (t:TypeId) (a:AV):Prop:=match P.underlying t with
 | some (.struct _) | some (.array _ _)=>∃ fuel l,a = .agg l ∧ Sh P fuel t l
 | _=>∃ fuel,Sh P fuel t [a]
theorem HF {v:Value} (h:∀ cs,v ≠ .agg cs):v.cells = #[v]:=by
 cases v <;> first | rfl | exact absurd rfl (h _)
theorem IA {r:Reach} {b0:Nat} {t:TypeId} {v:Value} (h:Cell.okWide P w r b0 t v):∀ cs,v ≠ .agg cs:=by
 rintro cs rfl
 simp only [Cell.okWide,Cell.ok] at h
 split at h <;> simp_all
theorem Mf {r:Reach} {b0:Nat} {t:TypeId} {v:Value} {d:DataW H} {ps:List MemPlace} (hok:Value.okWide P w r b0 t v) (h:DataW.Trod enc P w base spare held t v d ps):∃ a,U0 P t a ∧ Im AR w a v:=by
 obtain ⟨fuel,h⟩:=h
 obtain ⟨l,hs,hp⟩:=OW fuel t _ _ h
 have one:(∀ cs,v ≠ .agg cs) → ∃ a,l = [a] ∧ Im AR w a v:=by
  intro hna
  rw [HF hna] at hp
  obtain ⟨h1,h2⟩:=hp
  match l,h1,h2 with
  | [a],_,h2=>exact ⟨a,rfl,h2 0 a v rfl rfl⟩
 have agg:∀ cs,v = .agg cs → Im AR w (.agg l) v:=by
  rintro cs rfl
  have hp':Y9 w l cs.toList:=hp
  have:=Im.agg (U:=AR) (w:=w) l cs.toList hp'.1 hp'.2
  simpa using this
 unfold U0
 unfold Value.okWide at hok
 split at hok
 ·rename_i ht
  obtain ⟨cs,hv,_⟩:=hok
  exact ⟨.agg l,(by simp only [ht];exact ⟨fuel,l,rfl,hs⟩),agg cs hv⟩
 ·rename_i ht
  obtain ⟨cs,hv,_⟩:=hok
  exact ⟨.agg l,(by simp only [ht];exact ⟨fuel,l,rfl,hs⟩),agg cs hv⟩
 ·obtain ⟨a,rfl,ha⟩:=one (IA hok)
  refine ⟨a,?_,ha⟩
  split
  all_goals first | exact ⟨fuel,hs⟩ | (exfalso;simp_all)
def CU (P:Program):List TypeId → List AV → Prop
 | [],l=>l = []
 | t :: ts,l=>∃ a r,l = a :: r ∧ U0 P t a ∧ CU P ts r
theorem FT {r:Reach} {b0:Nat}:∀ {ts:List TypeId} {vs:List Value} {ds:List (DataW H)} {ps:List MemPlace},(∀ (j:Nat) t v,ts[j]? = some t → vs[j]? = some v → Value.okWide P w r b0 t v) → DataW.TrodAll enc P w base spare held ts vs ds ps →
  ds.length = ts.length ∧ ∃ l,CU P ts l ∧ l.length = vs.length ∧ ∀ (j:Nat) a v,l[j]? = some a → vs[j]? = some v → Im AR w a v
 | [],[],[],ps,_,_=>⟨rfl,[],rfl,rfl,fun j a v h=>by simp at h⟩
 | [],[],_ :: _,ps,_,h=>h.elim
 | [],_ :: _,_,ps,_,h=>h.elim
 | _ :: _,[],_,ps,_,h=>h.elim
 | _ :: _,_ :: _,[],ps,_,h=>h.elim
 | t :: ts,v :: vs,d :: ds,ps,hok,h=>by
   obtain ⟨p,q,h1,h2,_⟩:=h
   obtain ⟨a,ha,hi⟩:=Mf (hok 0 t v rfl rfl) h1
   obtain ⟨hd,l,hl,hlen,hr⟩:=FT (ts:=ts) (vs:=vs) (fun j t v ht hv=>hok (j + 1) t v (by simpa using ht) (by simpa using hv)) h2
   refine ⟨by simp [hd],a :: l,⟨a,l,rfl,ha,hl⟩,by simp [hlen],fun j x y hx hy=>?_⟩
   cases j with
   | zero=>simp at hx hy;subst hx hy;exact hi
   | succ j=>exact hr j x y (by simpa using hx) (by simpa using hy)
theorem FU (hl:laidOutB P = true) {w':World} (hb:Below w.heap.size w w'):∀ {ts:List TypeId} {vs:List Value} {ds:List (DataW H)} {ps:List MemPlace},(ts.all fun t=>P.readableRec t && decide (t < P.types.size)) = true → (∀ x ∈ ps,x.block < w.heap.size) →
  DataW.TrodAll enc P w 0 (fun _=>true) true ts vs ds ps → DataW.TrodAll enc P w' 0 (fun b=>decide (b < w.heap.size)) true ts vs ds ps
 | [],[],[],ps,_,_,h=>h
 | [],[],_ :: _,ps,_,_,h=>h.elim
 | [],_ :: _,_,ps,_,_,h=>h.elim
 | _ :: _,[],_,ps,_,_,h=>h.elim
 | _ :: _,_ :: _,[],ps,_,_,h=>h.elim
 | t :: ts,v :: vs,d :: ds,ps,hr,hlt,h=>by
   obtain ⟨p,q,h1,h2,rfl⟩:=h
   rw [List.all_cons,Bool.and_eq_true,Bool.and_eq_true] at hr
   exact ⟨p,q,Below.trod hl hr.1.1 (of_decide_eq_true hr.1.2) h1 hb fun x hx=>hlt x (by simp [hx]),FU hl hb hr.2 (fun x hx=>hlt x (by simp [hx])) h2,rfl⟩
theorem Mg {f:Nat} {fn:Func} {s:ChangeSpec} {tb:TypeId} {handsOn:Bool} {W:World} {args:Array Value} {ds gs:List (DataW H)} {before:List MemPlace} {b0:Nat} {r:Reach}
  (hl:laidOutB P = true) (hr:(fn.params.toList.all fun t=>P.readableRec t && decide (t < P.types.size)) = true) (htb:P.underlying tb = some .bool) (hrt:fn.resultTypes = #[tb])
  (hvars:s.vars = []) (hs:∀ ds:List (DataW H),ds.length = fn.params.toList.length → s.fn H (ds ++ []) = { results:=[.lit (.bool true)],args:=ds })
  (hcall:∀ l,CU P fn.params.toList l → B5 P f l (.b true))
  (htab:N8 AR W) (hval:∀ (j:Nat) t v,fn.params[j]? = some t → args[j]? = some v → Value.okWide P W r b0 t v)
  (hW:DataW.Whole enc P fn.params.toList s.vars false W args.toList ds gs before) :
  Calls P f args W fun e W'=>∃ v,e = .returned v ∧ s.post enc P fn false true handsOn false W args v W':=by
 have hW0:=hW
 obtain ⟨p,q,hA,hV,rfl,hfz,hnd⟩:=hW
 obtain ⟨hdl,l,hsh,hll,him⟩:=FT (r:=r) (b0:=b0) (fun j t v ht hv=>hval j t v (by simpa using ht) (by simpa using hv)) hA
 have hlt:∀ x ∈ p ++ q,x.block < W.heap.size:=fun x hx=>hW0.lt x hx
 rw [hvars] at hV
 obtain ⟨rfl,rfl⟩:gs = [] ∧ q = []:=by
  cases gs with
  | nil=>exact ⟨rfl,hV⟩
  | cons a b=>exact hV.elim
 have hc:=(hcall l hsh).2 AR W args.toList (fun k hk=>hk.elim) htab hll him
 have ea:args.toList.toArray = args:=by simp
 rw [ea] at hc
 refine hc.mono fun e W' ⟨v,he,hi,hb⟩=>?_
 subst he
 cases hi
 refine ⟨_,rfl,ds,[],p ++ [],[],p,[],hW0,?_,?_,?_,?_,fun h=>by cases h⟩
 ·rw [hrt,hs ds hdl]
  exact ⟨[],[],shut_bool htb true,rfl,rfl⟩
 ·rw [hs ds hdl]
  exact FU hl hb hr (fun x hx=>hlt x (by simp [hx])) hA
 ·rw [hvars,hs ds hdl]
  rfl
 ·exact Below.frame hb _
end
section
variable {P:Program}
theorem Ku {k:IntKind} {n:Int} (h:(Lit.int k n).wf = true):k.min ≤ n ∧ n ≤ k.max:=by
 simpa [Lit.wf] using h
theorem wf_u8 {n:Int} (h:(Lit.int .u8 n).wf = true):0 ≤ n ∧ n < 256:=by
 obtain ⟨h1,h2⟩:=Ku h
 have e1:IntKind.min .u8 = 0:=rfl
 have e2:IntKind.max .u8 = 255:=rfl
 omega
theorem wf_i64 {n:Int} (h:(Lit.int .i64 n).wf = true):-9223372036854775808 ≤ n ∧ n ≤ 9223372036854775807:=by
 obtain ⟨h1,h2⟩:=Ku h
 have e1:IntKind.min .i64 = -9223372036854775808:=by decide
 have e2:IntKind.max .i64 = 9223372036854775807:=by decide
 omega
theorem HG {f t:Nat} {l:List AV} {k:IntKind} (ht:P.underlying t = some (.int k)) (h:Sh P f t l):∃ n,(Lit.int k n).wf = true ∧ l = [.v (.int k n)]:=by
 cases f with
 | zero=>exact h.elim
 | succ f=>simpa only [Sh,ht] using h
theorem HH {f t e c:Nat} {l:List AV} (ht:P.underlying t = some (.slice e)) (hc:P.cellsOf e = c) (h:Sh P f t l):∃ f' ls,ls.length ≤ maxLen ∧ (∀ x ∈ ls,Sh P f' e x) ∧ l = [.sl c ls] ∧ f = f' + 1:=by
 cases f with
 | zero=>exact h.elim
 | succ f =>
   simp only [Sh,ht] at h
   obtain ⟨ls,h1,h2,h3⟩:=h
   exact ⟨f,ls,h1,h2,by rw [h3,hc],rfl⟩
def Je (P:Program) (t:Nat):Bool:=match P.underlying t with
 | some (.struct _) | some (.array _ _)=>true
 | _=>false
theorem Ia {t:Nat} {a:AV} (ht:Je P t = false) (h:U0 P t a):∃ fuel,Sh P fuel t [a]:=by
 unfold U0 at h
 unfold Je at ht
 split at ht
 ·cases ht
 ·cases ht
 ·split at h
  all_goals first | exact h | (exfalso;simp_all)
theorem OX {t:Nat} {a:AV} (ht:P.underlying t = some (.int .i64)) (h:U0 P t a):∃ n:Int,(-9223372036854775808 ≤ n ∧ n ≤ 9223372036854775807) ∧ a = .i n:=by
 obtain ⟨f,h⟩:=Ia (by simp [Je,ht]) h
 obtain ⟨n,hw,e⟩:=HG ht h
 exact ⟨n,wf_i64 hw,by simpa using e⟩
theorem FV {t e c:Nat} {a:AV} (ht:P.underlying t = some (.slice e)) (hc:P.cellsOf e = c) (h:U0 P t a):∃ f ls,ls.length ≤ maxLen ∧ (∀ x ∈ ls,Sh P f e x) ∧ a = .sl c ls:=by
 obtain ⟨f,h⟩:=Ia (by simp [Je,ht]) h
 obtain ⟨f',ls,h1,h2,h3,_⟩:=HH ht hc h
 exact ⟨f',ls,h1,h2,by simpa using h3⟩
theorem BA {α:Type} {F:α → List AV} {R:α → Prop}:∀ {ls:List (List AV)},(∀ x ∈ ls, ∃ y,R y ∧ x = F y) → ∃ l:List α,ls = l.map F ∧ ∀ y ∈ l,R y
 | [],_=>⟨[],rfl,fun y h=>by cases h⟩
 | x :: r,h=>by
   obtain ⟨y,hy,e⟩:=h x (by simp)
   obtain ⟨l,hl,hr⟩:=BA (ls:=r) fun z hz=>h z (by simp [hz])
   refine ⟨y :: l,by simp [e,hl],fun z hz=>?_⟩
   rcases List.mem_cons.1 hz with rfl | hz
   ·exact hy
   ·exact hr z hz
abbrev AU (b:UInt8):List AV:=[.v (.int .u8 b.toNat)]
theorem Kv {t e:Nat} {a:AV} (ht:P.underlying t = some (.slice e)) (he:P.underlying e = some (.int .u8)) (hc:P.cellsOf e = 1) (h:U0 P t a):∃ l:List UInt8,l.length ≤ maxLen ∧ a = .sl 1 (l.map AU):=by
 obtain ⟨f,ls,h1,h2,h3⟩:=FV ht hc h
 obtain ⟨l,hl,_⟩:=BA (F:=AU) (R:=fun _=>True) (ls:=ls) (fun x hx=>by
  obtain ⟨n,hw,e⟩:=HG he (h2 x hx)
  obtain ⟨g1,g2⟩:=wf_u8 hw
  refine ⟨UInt8.ofNat n.toNat,trivial,?_⟩
  rw [e,AU,UInt8.toNat_ofNat']
  rw [show ((n.toNat % 2 ^ 8:Nat):Int) = n by omega])
 exact ⟨l,by rw [hl,List.length_map] at h1;exact h1,by rw [h3,hl]⟩
end
theorem Jf {α:Type} {l:List UInt8} {f:UInt8 → α} {k:Nat} {F:α → Prop} (h:k < l.length) (kk:∀ x,l[k]? = some x → x.toNat < 256 → F (f x)):J1 (l.map f) (k:Int) F:=FI h fun x hx=>kk x hx x.toNat_lt
theorem Kw {α:Type} {l:List UInt8} {f:UInt8 → α} {i:Int} {F:α → Prop} (h0:0 ≤ i) (h:i < l.length) (kk:∀ x,l[i.toNat]? = some x → x.toNat < 256 → F (f x)):J1 (l.map f) i F:=Gi h0 h fun x hx=>kk x hx x.toNat_lt
theorem OY {l:List UInt8} {i:Int} {F:UInt8 → Prop} (h0:0 ≤ i) (h:i < l.length) (kk:∀ x,l[i.toNat]? = some x → x.toNat < 256 → F x):J1 l i F:=KW h0 h fun x hx=>kk x hx x.toNat_lt
theorem OZ {P:Program} {S T:Nat} {k':IntKind} {b:UInt8} {F:AV → Prop} [J9 P T .i64] [J9 P S k'] (kk:F (.v (.int .i64 b.toNat))):U4 P S T (.v (.int k' b.toNat)) F:=U5 (H4 (by have:=b.toNat_lt;omega)) kk
theorem R3 {P:Program} {E:Env} {n:Nat} {ops:Array Oper} {rest:List Oper} {σ:St} {K:St → Prop} {d:Nat} {ty:TypeId} {pos:String} {after:Array Edge} {T len:Nat} {parts:List (Nat × Operand)} (hd:Nat.blt d n = true)
  (h:match V5 (D8 σ) parts with
   | some ps=>s7 P T fun e sz _ _=>cond (X9 0 ps && Q6 sz (I7 ps) && Nat.beq ps.length len && Nat.blt 0 sz && Nat.blt e G2) (E1 (len * sz ≤ 16777216) (l5 σ.hp ps (Dy (I7 ps) (F2 σ.nx fun nx=>B6 P E n ops rest ((σ.new (.row e sz 0 (I7 ps))).put d (.row nx 0 len)) K)))) False
   | none=>False):B6 P E n ops (⟨some d, .buildSlice T len ⟨parts⟩,ty,pos,after,none⟩ :: rest) σ K:=by
 split at h
 ·rename_i ps he
  obtain ⟨⟨e,sz,bs,z,ts,tz,tb,hz,h⟩⟩:=h
  obtain ⟨hc,h⟩:=cond_false h
  simp only [Bool.and_eq_true,Nat.beq_eq] at hc
  obtain ⟨⟨⟨⟨h1,h2⟩,h3⟩,h4⟩,hek⟩:=hc
  obtain ⟨h5,h⟩:=h
  obtain ⟨h6,h⟩:=P2 h
  obtain ⟨h7,h⟩:=n8 h
  exact Dn (e:=e) (sz:=sz) (z:=z) he h6 h1 h2 h3 hz h5 (Nat.blt_eq ▸ h4) h7 (Nat.blt_eq ▸ hek) hd (D2 h)
 ·exact h.elim
def HI:AV → Bool
 | .v x=>JL x
 | .str _ | .sl _ _ | .iptr _ | .fn _ _=>true
 | _=>false
theorem V9 {x:AV} (h:HI x = true):J8 x:=by
 cases x <;> first | exact Bo h | trivial | cases h
theorem Pt {m:List (List AV)} (h:(m.all fun el=>el.all HI) = true):∀ el ∈ m,∀ u ∈ el,J8 u:=fun el hel u hu =>
 V9 (List.all_eq_true.1 (List.all_eq_true.1 h el hel) u hu)
theorem Oa {α:Type} {l:List α} {f:α → List AV} (h:∀ x,(f x).all HI = true):∀ el ∈ l.map f,∀ u ∈ el,J8 u:=fun el hel u hu=>by
 obtain ⟨x,_,rfl⟩:=List.mem_map.1 hel
 exact V9 (List.all_eq_true.1 (h x) u hu)
theorem Es (id:Nat) {P:Program} {E:Env} {n:Nat} {ops:Array Oper} {σ:St} {Q:Exit → St → Prop} (h:k5 P E n id ops σ Q):k5 P E n id ops σ Q:=h
def Ib (o:Oper):Bool:=o.dst.isSome && match o.op with
 | .box .. | .alloc .. | .makeSlice .. | .makeMap .. | .mapUpdate .. | .store ..=>false
 | .call ⟨.builtin .append,_,_⟩=>false
 | _=>true
theorem Pu {P:Program} {E:Env} {n:Nat} {ops:Array Oper} {σ:St} {id:Nat} {Q:Exit → St → Prop} [hm:En P] (hq:ops.toList.all Ib = true) (hd:n9 ops = true) (h:DQ P E n ops ops.toList σ fun σ'=>Q .normal σ'):k5 P E n id ops σ Q :=
 M3 hd h
theorem Et {P:Program} {E:Env} {n:Nat} {ops:Array Oper} {σ σ':St} {id:Nat} {Q:Exit → St → Prop} (h:St.le E n σ σ') (k:k5 P E n id ops σ' Q):k5 P E n id ops σ Q:=⟨U3 h k.h⟩
section rules
variable {P:Program} {E:Env} {n:Nat} {ops:Array Oper} {rest:List Oper} {σ:St} {K:St → Prop} {Q:Exit → St → Prop}
end rules
end Go.Av
namespace Go.Av
open Go Go.RowKit
class L1 (G:Prop) where
 sub:Prop
 imp:sub → G
theorem RS {G:Prop} [s:L1 G] (h:s.sub):G:=s.imp h
section
variable {P:Program} {E:Env} {n:Nat} {ops:Array Oper} {l:List Oper} {σ:St} {K:St → Prop} {Q:Exit → St → Prop} {c:Code} {S T f:Nat}
instance:L1 (B6 P E n ops l σ K):=⟨Pi P E n ops l σ K,A5⟩
instance:L1 (E4 P E n c σ Q):=⟨JQ P E n c σ Q,Kk⟩
instance:L1 (DQ P E n ops l σ K):=⟨MR P E n ops l σ K,Qi⟩
instance {ag:Bool} {sz:Nat} {F:Bool → Nat → Prop} [G3 P T ag sz]:L1 (Bm P T F):=⟨F ag sz,Qb⟩
instance {z:List Value} {F:List AV → Prop} [G7 P T z]:L1 (JH P T F):=⟨F (z.map Q1),Pa⟩
instance {off sz:Nat} {F:Nat → Nat → Prop} [L3 P S f off sz]:L1 (El P S f F):=⟨F off sz,Qc⟩
instance {e sz:Nat} {F:Nat → Nat → Prop} [I6 P T e sz]:L1 (BT P T F):=⟨F e sz,RF⟩
instance {len e sz:Nat} {F:Nat → Nat → Prop} [Ac P T len e sz]:L1 (JI P T F):=⟨F len sz,Qd (e:=e)⟩
instance {A:Prop} [O0 P T]:L1 (j9 P T A):=⟨A,Pb⟩
instance {A:Prop} [KE P T]:L1 (Nk P T A):=⟨A,RG⟩
instance {A:Prop} [CM P T]:L1 (Dv P T A):=⟨A,ON⟩
instance {A:Prop} [p8 P T]:L1 (AL P T A):=⟨A,OK⟩
instance {A:Prop} {k1 k2 k3:IntKind} [CN P T k1 k2 k3]:L1 (Du P T k1 k2 k3 A):=⟨A,OL⟩
instance {A:Prop} {k:IntKind} [p0 P T k]:L1 (Ao P T k A):=⟨A,Qe⟩
instance {A:Prop} {k1 k2:IntKind} [n3 P T k1 k2]:L1 (Dt P T k1 k2 A):=⟨A,OM⟩
instance {zs:List Value} {pl:List (Nat × Nat)} {F:List AV → List (Nat × Nat) → Prop} [G7 P T zs] [O3 P T pl]:L1 (Bn P T F):=⟨F (zs.map Q1) pl,OO⟩
instance {e sz bs:Nat} {z:List Value} {F:Nat → Nat → Nat → List AV → Prop} [I6 P T e sz] [G7 P e z] [K3 P e bs]:L1 (s7 P T F):=⟨E1 (z.length = sz) (F e sz bs (z.map Q1)),fun h=>Qf h.h h.k⟩
instance {k e:Nat} {t:TypeDesc} {z:Value} {F:TypeDesc → AV → Prop} [Ah P T k e t z]:L1 (JJ P T F):=⟨F t (Q1 z),Qg⟩
instance (priority:=low) {α:Type} {l:List α} {F:Nat → Prop}:L1 (Ek l F):=⟨F l.length,Qa⟩
instance {α β:Type} {l:List β} {f:β → α} {F:Nat → Prop}:L1 (Ek (l.map f) F):=⟨F l.length,OH⟩
instance (priority:=low) {k:IntKind} {m:Int} {F:AV → Prop} [J9 P S k] [O0 P T]:L1 (U4 P S T (.v (.int k m)) F):=⟨F (.str (Utf8.encode m).data.toList),KY⟩
instance {k k':IntKind} {m:Int} {F:AV → Prop} [J9 P T k] [J9 P S k']:L1 (U4 P S T (.v (.int k' m)) F):=⟨F (.v (.int k (k.wrap m))),Lu⟩
instance (priority:=high) {k':IntKind} {b:UInt8} {F:AV → Prop} [J9 P T .i64] [J9 P S k']:L1 (U4 P S T (.v (.int k' b.toNat)) F):=⟨F (.v (.int .i64 b.toNat)),OZ⟩
variable {A B p:Prop} {b:Bool}
instance (priority:=low):L1 (I9 b true A B):=⟨(b = true → A) ∧ (b = false → B),fun h=>ML h.1 h.2⟩
instance (priority:=low):L1 (I9 b false A B):=⟨(b = false → A) ∧ (b = true → B),fun h=>MM h.1 h.2⟩
instance (priority:=low):L1 (W4 b A B):=⟨(b = true → A) ∧ (b = false → B),fun h=>PZ h.1 h.2⟩
instance:L1 (I9 (!b) true A B):=⟨(b = false → A) ∧ (b = true → B),fun h=>Ki h.1 h.2⟩
instance:L1 (I9 (!b) false A B):=⟨(b = true → A) ∧ (b = false → B),fun h=>Kj h.1 h.2⟩
instance:L1 (W4 (!b) A B):=⟨(b = false → A) ∧ (b = true → B),fun h=>OJ h.1 h.2⟩
instance [Decidable p]:L1 (I9 (decide p) true A B):=⟨(p → A) ∧ (¬ p → B),fun h=>MJ h.1 h.2⟩
instance [Decidable p]:L1 (I9 (decide p) false A B):=⟨(¬ p → A) ∧ (p → B),fun h=>MK h.1 h.2⟩
instance [Decidable p]:L1 (W4 (decide p) A B):=⟨(p → A) ∧ (¬ p → B),fun h=>PY h.1 h.2⟩
instance (priority:=high) [Decidable p]:L1 (I9 (!decide p) true A B):=⟨(¬ p → A) ∧ (p → B),fun h=>Kg h.1 h.2⟩
instance (priority:=high) [Decidable p]:L1 (I9 (!decide p) false A B):=⟨(p → A) ∧ (¬ p → B),fun h=>Kh h.1 h.2⟩
instance (priority:=high) [Decidable p]:L1 (W4 (!decide p) A B):=⟨(¬ p → A) ∧ (p → B),fun h=>OI h.1 h.2⟩
instance {F:List (Nat × AV) → Prop}:L1 (Pp F):=⟨∀ ex,F ex,RL⟩
variable {α β:Type}
class FW (G:Prop) where
 side:Prop
 sub:Prop
 imp:side → sub → G
instance (priority:=low) {l:List α} {i:Int} {F:α → Prop}:FW (J1 l i F):=⟨0 ≤ i ∧ i < l.length,∀ x,l[i.toNat]? = some x → F x,fun h k=>KW h.1 h.2 k⟩
instance {l:List β} {f:β → α} {i:Int} {F:α → Prop}:FW (J1 (l.map f) i F):=⟨0 ≤ i ∧ i < l.length,∀ x,l[i.toNat]? = some x → F (f x),fun h k=>Gi h.1 h.2 k⟩
instance (priority:=1010) {l:List β} {f:β → α} {k:Nat} {F:α → Prop}:FW (J1 (l.map f) (k:Int) F):=⟨0 ≤ k ∧ k < l.length,∀ x,l[k]? = some x → F (f x),fun h kk=>FI h.2 kk⟩
instance (priority:=1020) {l:List UInt8} {i:Int} {F:UInt8 → Prop}:FW (J1 l i F):=⟨0 ≤ i ∧ i < l.length,∀ x,l[i.toNat]? = some x → x.toNat < 256 → F x,fun h k=>OY h.1 h.2 k⟩
instance (priority:=1020) {l:List UInt8} {f:UInt8 → α} {i:Int} {F:α → Prop}:FW (J1 (l.map f) i F):=⟨0 ≤ i ∧ i < l.length,∀ x,l[i.toNat]? = some x → x.toNat < 256 → F (f x),fun h k=>Kw h.1 h.2 k⟩
instance (priority:=high) {l:List UInt8} {f:UInt8 → α} {k:Nat} {F:α → Prop}:FW (J1 (l.map f) (k:Int) F):=⟨0 ≤ k ∧ k < l.length,∀ x,l[k]? = some x → x.toNat < 256 → F (f x),fun h kk=>Jf h.2 kk⟩
instance {e sz:Nat} {l:List UInt8} {F:AV → Prop} [I6 P S e sz] [J9 P e .u8] [O0 P T]:L1 (U4 P S T (.sl 1 (l.map fun b=>[.v (.int .u8 b.toNat)])) F):=⟨F (.str l),KX (e:=e) (sz:=sz)⟩
instance {e sz:Nat} {l:List UInt8} {F:AV → Prop} [O0 P S] [I6 P T e sz] [J9 P e .u8]:FW (U4 P S T (.str l) F):=⟨0 ≤ l.length ∧ l.length ≤ 9223372036854775807,F (.sl 1 (l.map fun b=>[.v (.int .u8 b.toNat)])),fun h k=>JK (e:=e) (sz:=sz) h.2 k⟩
class RM (G:Prop) (α β:outParam Type) (l:outParam (List β)) (f:outParam (β → α)) (i:outParam Int) (F:outParam (α → Prop)):Prop where
 eq:G = J1 (l.map f) i F
instance {l:List β} {f:β → α} {i:Int} {F:α → Prop}:RM (J1 (l.map f) i F) α β l f i F:=⟨rfl⟩
class Pv (G:Prop) (α:outParam Type) (l:outParam (List α)) (i:outParam Int) (F:outParam (α → Prop)):Prop where
 eq:G = J1 l i F
instance {l:List α} {i:Int} {F:α → Prop}:Pv (J1 l i F) α l i F:=⟨rfl⟩
theorem Z2 {G:Prop} {l:List α} {i:Int} {x:α} {F:α → Prop} [s:Pv G α l i F] (kk:F x) (h:l[i.toNat]? = some x:=by assumption) (h0:0 ≤ i:=by omega):G:=s.eq ▸ H9 h h0 kk
class Pw (G:Prop) (p A:outParam Prop):Prop where
 imp:p → A → G
instance:Pw (E1 p A) p A:=⟨T8⟩
theorem Z3 {G:Prop} [s:Pw G p A] (k:A) (h:p:=by first | omega | exact Eq.refl _ | exact ⟨Eq.refl _,by omega⟩ | (simp only [List.length_map];omega) | exact Pt rfl | exact Oa fun _=>rfl | (constructor <;> (simp only [I7,H3,List.length_cons,List.length_nil,List.length_map];omega))):G:=s.imp h k
theorem Z4 {G:Prop} [s:FW G] (k:s.sub) (h:s.side:=by (conv=>whnf);omega):G:=s.imp h k
class Kx (G:Prop) where
 side:Prop
 sub:Prop
 imp:side → sub → G
instance {fuel:Nat} {l:List Bool}:Kx (F1 P E n ops fuel l σ K):=⟨Nat.beq l.length ops.size = true ∧ Region.noSelect ops = true,Po P E n ops fuel l σ K,fun h k=>OS h.2 h.1 k⟩
instance {done:List Bool} {mb:List MB}:Kx (E7 P E n ops done mb σ K):=⟨Nat.beq done.length ops.size = true ∧ AP ops = true,Pq P E n ops done mb σ K,fun h k=>A3 h.1 h.2 k⟩
instance {done:List Bool} {mb:List MB} {base:List (Nat × AV)} {k:Nat} {ex:List (Nat × AV)} {bhp:Hp} {σ':St}:Kx (EI P E n ops done mb K base k ex bhp σ') :=
 ⟨(σ'.sl,(S9 mb).map (look (σ'.sl.take k)),W5 n (σ'.sl.take k) mb,(u1 mb).map (B2 σ'.hp)) = (σ'.sl.take k ++ ex,(S9 mb).map (look base),true,(u1 mb).map (B2 bhp)) ∧ true = true,
  k6 (σ'.sl.take k) fun sl2=>N9 σ'.hp fun hp2=>F2 σ'.nx fun nx2=>CR done fun done2=>GI mb fun mb2=>E7 P E n ops done2 mb2 ⟨sl2,nx2,hp2⟩ K,
  fun h k=>OV (congrArg (·.2.2.2) h.1) (congrArg (·.1) h.1) (congrArg (·.2.1) h.1) (congrArg (·.2.2.1) h.1) k⟩
instance {id:Nat} [hm:En P]:Kx (k5 P E n id ops σ Q):=⟨ops.toList.all Ib = true ∧ n9 ops = true,DQ P E n ops ops.toList σ fun σ'=>Q .normal σ',fun h k=>Pu h.1 h.2 k⟩
theorem Z5 {G:Prop} [s:Kx G] (k:s.sub) (h:s.side:=by exact ⟨by rfl,by kernel_rfl⟩):G:=s.imp h k
theorem S1 {G H:Prop} (k:H) (h:H → G:=by first | exact MF | exact MG | exact MH | exact MI | exact PU | exact PX | exact Kk | exact RS):G:=h k
theorem D1 {f:Nat} {fn:Func} {code:Code} {args:List AV} {r:AV} {rs:Array ResultVar} (hf:P.funcs[f]? = some fn) (n:Nat)
  (h : (∀ a ∈ args,Rd a) → ∀ E,E.n0 = 0 → E4 P E n code ⟨k0 args 0,0,[]⟩ (F6 P rs r)) (hname : (fn.name == "runtime.NumGoroutine") = false := by kernel_rfl) (hb : fn.body = some code := by rfl) (hn : fn.ntmps = n := by rfl) (hrs : fn.results = rs := by rfl)
  (hargs:Nat.ble args.length n = true:=by rfl) (hcl:H2 r = true:=by rfl) (hcells:∀ t T,rs = #[.cell t T] → ∃ sz,G3 P T true sz ∧ ∀ l,r = .agg l → l.length = sz:=by intro t T h;cases h):B5 P f args r :=
 Ht hf hname hb hn hrs hargs hcl hcells h
theorem FX {f:Nat} {fn:Func} {code:Code} {args:List AV} {r:AV} {rs:Array ResultVar} {m0 m1:Nat} {hp0 hp1:Hp} (hf:P.funcs[f]? = some fn) (n:Nat)
  (h : ∀ E,E.n0 = m0 → E4 P E n code ⟨k0 args 0,m0,hp0⟩ (F9 P E n rs m1 hp1 r)) (hname : (fn.name == "runtime.NumGoroutine") = false := by kernel_rfl) (hb : fn.body = some code := by rfl) (hn : fn.ntmps = n := by rfl) (hrs : fn.results = rs := by rfl)
  (hargs:Nat.ble args.length n = true:=by rfl):D4 P f m0 hp0 args m1 hp1 r :=
 Hv hf hname hb hn hrs hargs h
theorem nc {d f:Nat} {xs:List Operand} {ts:Array TypeId} {L args l:List AV} {r:AV} {m0 m1:Nat} {hp0 hp1:Hp} {ty:TypeId} {pos:String} {after:Array Edge} {rest:List Oper} (ι off:List Nat) (hc:D4 P f m0 hp0 args m1 hp1 r)
  (hev:P9 (D8 σ) xs = some L) (hL:Y1 (G8 ι) (G8 off) args = L) (hB:(N2 m0 args && Nat.beq ι.length m0 && o4 ι σ.nx && Y2 hp0 hp1 m0 && G4 m0 hp0 && G4 m1 hp1 && Nat.ble m0 m1 && Nat.blt d n) = true) (hblk:w9 σ.hp hp0 ι off m0)
  (k:L5 (J0 (gρ ι m0 σ.nx) (gs ι m0 σ.hp) r) fun r2=>N9 (U6 (gρ ι m0 σ.nx) (gs ι m0 σ.hp) hp1 ++ σ.hp) fun hp2=>F2 (σ.nx + (m1 - m0)) fun nx2=>B6 P E n ops rest (St.put ⟨σ.sl,nx2,hp2⟩ d r2) K) :
  O6 P E n ops ⟨some d, .call ⟨.value (.func f),⟨xs⟩,ts⟩,ty,pos,after,none⟩ rest l σ K:=by
 simp only [Bool.and_eq_true] at hB
 obtain ⟨⟨⟨⟨⟨⟨⟨h1,h2⟩,h3⟩,h4⟩,h5⟩,h6⟩,h7⟩,h8⟩:=hB
 exact ⟨OR ι off hc hev hL h1 h2 h3 hblk h4 h5 h6 h7 h8 k⟩
end
end Go.Av
