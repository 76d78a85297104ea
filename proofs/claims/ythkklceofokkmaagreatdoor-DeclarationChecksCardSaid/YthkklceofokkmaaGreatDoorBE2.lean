/- Maps, tuples, closures, parts of strings and of rows. States that say less; freezing; what a function does. One rule for every operation: what is left to prove is reckoned by unfolding. The walk: operations that make or write memory, code, and what a function does. -/
import Derived.Test.YthkklceofokkmaaGreatDoorBE1
set_option linter.unusedSimpArgs false
set_option linter.unusedVariables false
set_option linter.unnecessarySimpa false
namespace Go.Av
open Go Go.RowKit
class Ed (P:Program) (T:Nat) (k e:outParam Nat) (t:outParam TypeDesc) (z:outParam Value):Prop where
 out:P.underlying T = some (.map k e) ∧ P.underlying k = some t ∧ (P.info? e).bind (·.zero) = some z
section rules
variable {P:Program} {E:Env} {n nx:Nat} {hp:Hp} {ev:Operand → Option AV} {ops:Array Oper} {rest:List Oper} {σ:St} {K:St → Prop} {Q:Exit → St → Prop}
variable {d:Nat} {ty:TypeId} {pos:String} {after:Array Edge} {x y z:Operand}
def Be (t:TypeDesc) (m:List (Key × AV)):Prop:=∀ p ∈ m,Dd t p.1 = true
theorem m7.map {θ:Nat → Value} {a:Act} {w:World} (h:m7 E θ nx hp ev a w) {i:Nat} {m:List (Key × AV)} (hb:B4 hp i = some (.map m)) :
  ∃ r es clock,θ i = .map (some r) ∧ w.heap[r]? = some (.map es clock) ∧ es.size = m.length ∧
   ∀ (j:Nat) (q:Key × AV) e,m[j]? = some q → es[j]? = some e → e.key = q.1.val ∧ Im (kx E θ nx hp w).U w q.2 e.val:=(h.owns i _ hb).2
theorem run_findKey {kt:TypeId} {t:TypeDesc} {k:Key} (ht:P.underlying kt = some t) {es:List MapEntry} {q:Option (Nat × Value)} (hq:Instr.findNow t k.val es 0 = some q) (w:World):(Instr.findKey kt k.val es).run P w = .ok q w:=by
 simp [Instr.findKey,Sem.run_bind,run_underlying ht,hq,Sem.run_pure]
def Bq (m:List (Key × AV)) (k:Key) (d:AV):AV:=match Cb m k with
 | some v=>v
 | none=>d
theorem KP {T kt e:Nat} {t:TypeDesc} {zv:Value} [tm:Ed P T kt e t zv] {θ:Nat → Value} {a:Act} {w:World} (h:m7 E θ nx hp ev a w) {i:Nat} {m:List (Key × AV)} {kav:AV} {k:Key} (hx:ev x = some (.mp i)) (hb:B4 hp i = some (.map m)) (hy:ev y = some kav) (hk:keyOf kav = some k) (hkk:Dd t k = true) (hm:Be t m) (ok:Bool) :
  ∃ v,(Instr.lookup T (a.eval x) (a.eval y) ok).run P w = .ok (if ok then .tuple #[v, .bool (Cb m k).isSome] else v) w ∧ G4 (kx E θ nx hp w) (Bq m k (b9 zv)) v:=by
 obtain ⟨hu,ht,hz⟩:=tm.out
 obtain ⟨r,es,clock,hθ,hr,hsz,hes⟩:=h.map hb
 obtain ⟨hv,hnx⟩:=Uc (h.rel hx)
 have hv':a.eval x = .map (some r):=by rw [hv];exact hθ
 have hky:=Mf hk (h.rel hy)
 have hkind:=De hkk
 obtain ⟨q,hq,hspec⟩:=findNow_spec (t:=t) hkind m es.toList 0 (by simpa using hsz) (fun p hp=>De (hm p hp)) (fun j p e hj he=>(hes j p e hj (by simpa using he)).1)
 have hidx:=Wc (m:=m) (k:=k)
 simp only [Instr.lookup,Sem.run_bind,run_underlying hu,Result.andThen_ok,hv',hky,MapKept.run_getObj_map hr,Sem.run_pure,BN ht hkind,run_findKey ht hq]
 cases hf:m.findIdx? (fun p=>decide (p.1 = k)) with
 | none =>
   rw [hf] at hspec hidx
   subst hspec
   simp only at hidx
   cases hi:P.info? e with
   | none=>rw [hi] at hz;simp at hz
   | some inf =>
     rw [hi] at hz
     simp only [Sem.run_bind,e9 hi (by simpa using hz),Result.andThen_ok,Sem.run_pure,hidx]
     refine ⟨zv,by cases ok <;> rfl,?_⟩
     simp only [Bq,hidx]
     exact .im (FN zv)
 | some j =>
   rw [hf] at hspec hidx
   obtain ⟨e,he,rfl⟩:=hspec
   obtain ⟨p,hp1,hp2,hp3⟩:=hidx
   simp only [Sem.run_pure,Result.andThen_ok,hp3]
   refine ⟨e.val,by cases ok <;> rfl,?_⟩
   simp only [Bq,hp3]
   exact .im (hes j p e hp1 (by simpa using he)).2
theorem Wd {T kt e:Nat} {t:TypeDesc} {zv:Value} [tm:Ed P T kt e t zv] {i:Nat} {m:List (Key × AV)} {kav:AV} {k:Key} (hx:ev x = some (.mp i)) (hb:B4 hp i = some (.map m)) (hy:ev y = some kav) (hk:keyOf kav = some k) (hkk:Dd t k = true) (hm:Be t m) :
  I1 P E nx hp ev (.lookup T x y false) ty (Bq m k (b9 zv)) :=
 F8 fun _ _ _ θ a w h=>by
  obtain ⟨v,h1,h2⟩:=KP (P:=P) (T:=T) h hx hb hy hk hkk hm false
  exact ⟨v,by simp only [execOp,Sem.run_bind,h1,Result.andThen_ok,Sem.run_pure];rfl,h2⟩
theorem Ql {T kt e:Nat} {t:TypeDesc} {zv:Value} [tm:Ed P T kt e t zv] {i:Nat} {m:List (Key × AV)} {kav:AV} {k:Key} (hx:ev x = some (.mp i)) (hb:B4 hp i = some (.map m)) (hy:ev y = some kav) (hk:keyOf kav = some k) (hkk:Dd t k = true) (hm:Be t m) :
  I1 P E nx hp ev (.lookup T x y true) ty (.tup [Bq m k (b9 zv), .b (Cb m k).isSome]) :=
 F8 fun _ _ _ θ a w h=>by
  obtain ⟨v,h1,h2⟩:=KP (P:=P) (T:=T) h hx hb hy hk hkk hm true
  refine ⟨.tuple #[v, .bool (Cb m k).isSome],by simp only [execOp,Sem.run_bind,h1,Result.andThen_ok,Sem.run_pure];rfl,?_⟩
  exact .tup [_,_] [v, .bool (Cb m k).isSome] rfl fun j u z hu hz=>by
   match j,hu,hz with
   | 0,hu,hz=>cases hu;cases hz;exact h2
   | 1,hu,hz=>cases hu;cases hz;exact .im (.v _)
theorem OQ (k:Key) (m:Nat):Instr.sameBits m k.val k.val = true:=by
 cases k with
 | s l =>
   simp only [Key.val,Instr.sameBits]
   show (l.toArray == l.toArray) = true
   simp
 | i k n=>simp [Key.val,Instr.sameBits]
theorem Mg {k:Key} {v:AV}:∀ (m:List (Key × AV)),(match m.findIdx? (fun p=>decide (p.1 = k)) with
   | none=>Cc m k v = m ++ [(k,v)]
   | some j=>Cc m k v = m.set j (k,v))
 | []=>rfl
 | (k',v') :: r=>by
   rw [List.findIdx?_cons]
   by_cases e:k' = k
   ·simp only [e,decide_true,if_true]
    simp [Cc]
   ·simp only [e,decide_false]
    have ih:=Mg (k:=k) (v:=v) r
    cases hf:r.findIdx? (fun p=>decide (p.1 = k)) with
    | none=>rw [hf] at ih;simp [Cc,e];exact ih
    | some j=>rw [hf] at ih;simp [Cc,e];exact ih
theorem Ld {T kt e:Nat} {t:TypeDesc} {zv:Value} [tm:Ed P T kt e t zv] {i:Nat} {m:List (Key × AV)} {kav av:AV} {k:Key} (hx:G6 σ x = some (.mp i)) (hb:B4 σ.hp i = some (.map m)) (hy:G6 σ y = some kav) (hk:keyOf kav = some k) (hkk:Dd t k = true) (hm:Be t m) (hz:G6 σ z = some av) (hcl:M7 av = true)
  (kk:B7 P E n ops rest (σ.set i (.map (Cc m k av))) K):B7 P E n ops (⟨none, .mapUpdate T x y z,ty,pos,after,none⟩ :: rest) σ K :=
 Eb hb (fun θ a w h=>by
  obtain ⟨hu,ht,_⟩:=tm.out
  obtain ⟨r,es,clock,hθ,hr,hsz,hes⟩:=h.map hb
  obtain ⟨hv,hnx⟩:=Uc (h.rel hx)
  have hv':a.eval x = .map (some r):=by rw [hv];exact hθ
  have hky:=Mf hk (h.rel hy)
  have hkind:=De hkk
  obtain ⟨q,hq,hspec⟩:=findNow_spec (t:=t) hkind m es.toList 0 (by simpa using hsz) (fun p hp=>De (hm p hp)) (fun j p e hj he=>(hes j p e hj (by simpa using he)).1)
  have hset:=Mg (k:=k) (v:=av) m
  have hlt:r < w.heap.size:=(Array.getElem?_eq_some_iff.1 hr).1
  have hfin:∃ es' clock',(Instr.mapUpdate T (a.eval x) (a.eval y) (a.eval z)).run P w = .ok () { w with heap:=w.heap.setIfInBounds r (.map es' clock') } ∧ es'.size = (Cc m k av).length ∧
    ∀ (j:Nat) (q:Key × AV) e,(Cc m k av)[j]? = some q → es'[j]? = some e → e.key = q.1.val ∧ Im (kx E θ σ.nx σ.hp w).U w q.2 e.val:=by
   have himv:=(m9 hcl).im (h.rel hz)
   cases hf:m.findIdx? (fun p=>decide (p.1 = k)) with
   | none =>
     rw [hf] at hspec hset
     subst hspec
     refine ⟨es.push { key:=k.val,val:=a.eval z,born:=clock },clock + 1,?_,by simp only [hset];simp [hsz],fun j q e hj he=>?_⟩
     ·simp only [Instr.mapUpdate,Sem.run_bind,run_underlying hu,Result.andThen_ok,hv',hky,MapKept.run_getObj_map hr,Sem.run_pure,BN ht hkind,run_findKey ht hq,MapKept.run_setObj_map _ hr]
     ·simp only [hset] at hj
      rw [Array.getElem?_push] at he
      rw [List.getElem?_append] at hj
      split at hj
      ·rename_i hlt2
       rw [if_neg (by omega)] at he
       exact hes j q e hj he
      ·rename_i hge
       have:j = m.length:=by
        rcases Nat.lt_or_ge m.length j with h1 | h1
        ·rw [List.getElem?_eq_none (by simp;omega)] at hj;cases hj
        ·omega
       subst this
       rw [if_pos (by omega)] at he
       cases he
       simp at hj
       subst hj
       exact ⟨rfl,himv⟩
   | some j0 =>
     rw [hf] at hspec hset
     obtain ⟨e0,he0,rfl⟩:=hspec
     have hj0:j0 < m.length:=by
      have:=(List.getElem?_eq_some_iff.1 he0).1
      simp at this
      omega
     have hmj:m[j0]? = some m[j0]:=List.getElem?_eq_getElem hj0
     have hkeq:m[j0].1 = k:=by
      have:=List.findIdx?_eq_some_iff_getElem.1 hf
      exact of_decide_eq_true this.2.1
     have hek:e0.key = k.val:=by rw [(hes j0 _ e0 hmj (by simpa using he0)).1,hkeq]
     refine ⟨es.modify j0 fun e=>{ e with key:=k.val,val:=a.eval z },clock,?_,by simp only [hset];simp [hsz],fun j q e hj he=>?_⟩
     ·have he0':es[j0]? = some e0:=by simpa using he0
      simp only [Instr.mapUpdate,Sem.run_bind,run_underlying hu,Result.andThen_ok,hv',hky,MapKept.run_getObj_map hr,Sem.run_pure,BN ht hkind,run_findKey ht hq,Nat.zero_add,he0',Option.map_some,Option.getD_some,Instr.keyThatStays,hek,OQ,if_true,MapKept.run_setObj_map _ hr]
     ·simp only [hset] at hj
      rw [Array.getElem?_modify] at he
      rw [List.getElem?_set] at hj
      by_cases ej:j0 = j
      ·subst ej
       rw [if_pos rfl] at he hj
       rw [if_pos hj0] at hj
       cases hj
       cases hh:es[j0]? with
       | none=>rw [hh] at he;simp at he
       | some e1=>rw [hh] at he;simp at he;subst he;exact ⟨rfl,himv⟩
      ·rw [if_neg ej] at he hj
       exact hes j q e hj he
  obtain ⟨es',clock',hrun,hsz',hes'⟩:=hfin
  refine ⟨{ w with heap:=w.heap.setIfInBounds r (.map es' clock') },by simp only [execOp,Sem.run_bind,hrun,Result.andThen_ok,Sem.run_pure],rfl,rfl,rfl,by simp,fun k hk=>?_,rfl,fun le=>?_⟩
  ·have:k ≠ r:=by intro e;subst e;exact hk (by rw [hθ];rfl)
   simp [Array.getElem?_setIfInBounds_ne (Ne.symm this)]
  ·refine ⟨r,es',clock',by simp [cx,F5,hθ],by simp [cx,hlt],hsz',fun j q e hj he=>⟨(hes' j q e hj he).1,((hes' j q e hj he).2.mono le.heap le.U)⟩⟩) kk
theorem Mh {l:List AV} {av:AV} {k:Nat} (hx:ev x = some (.tup l)) (hk:l[k]? = some av):I1 P E nx hp ev (.extract x k) ty av :=
 F8 fun _ _ _ θ a w h=>by
  have:∃ cs:List Value,a.eval x = .tuple cs.toArray ∧ l.length = cs.length ∧ ∀ (j:Nat) u z,l[j]? = some u → cs[j]? = some z → G4 (kx E θ nx hp w) u z:=by
   have r:=h.rel hx
   generalize a.eval x = v at r
   cases r with
   | im hi=>cases hi with | tup l cs hl hc=>exact ⟨cs,rfl,hl,fun j u z hu hz=>.im (hc j u z hu hz)⟩
   | tup l cs hl hc=>exact ⟨cs,rfl,hl,hc⟩
  obtain ⟨cs,hv,hl,hr⟩:=this
  have hlt:k < cs.length:=by rw [← hl];exact (List.getElem?_eq_some_iff.1 hk).1
  have hc:cs[k]? = some cs[k]:=List.getElem?_eq_getElem hlt
  refine ⟨cs[k],?_,hr k av _ hk hc⟩
  simp only [execOp,hv,Instr.extract]
  simp [hc,Sem.run_bind,Sem.run_pure]
theorem OR {f:Nat} {xs:List Operand} {caps:List AV} (ha:c8 ev xs = some caps) (hf:f < DR):I1 P E nx hp ev (.makeFunc (.func f) #[] xs.toArray) ty (.fo f caps) :=
 F8 fun _ _ _ θ a w h=>by
  obtain ⟨hl,hr⟩:=BL h xs caps ha
  exact ⟨.func (.func f) #[] (xs.map a.eval).toArray,by simp [execOp,Instr.makeFunc,Sem.run_bind,Sem.run_pure],by
   have:=G4.fo (c:=kx E θ nx hp w) f caps (xs.map a.eval) (by simp [hl]) fun j u z hu hz=>hr j u z hu hz
   unfold Nx at this
   rwa [if_pos hf] at this⟩
theorem OS {f:Nat} {xs:List Operand} {caps:List AV} (ha:c8 ev xs = some caps):I1 P E nx hp ev (.makeFunc (.func f) xs.toArray #[]) ty (.fo (DR + f) caps) :=
 F8 fun _ _ _ θ a w h=>by
  obtain ⟨hl,hr⟩:=BL h xs caps ha
  exact ⟨.func (.func f) (xs.map a.eval).toArray #[],by simp [execOp,Instr.makeFunc,Sem.run_bind,Sem.run_pure],by
   have:=G4.fo (c:=kx E θ nx hp w) (DR + f) caps (xs.map a.eval) (by simp [hl]) fun j u z hu hz=>hr j u z hu hz
   unfold Nx at this
   rwa [if_neg (by omega),Nat.add_sub_cancel_left] at this⟩
theorem Sl {f:Nat} {xs:List Operand} {caps:List AV} (ha:c8 ev xs = some caps) (hcl:K9 caps = true):I1 P E nx hp ev (.makeFunc (.func f) #[] xs.toArray) ty (.fn f caps) :=
 F8 fun _ _ _ θ a w h=>by
  obtain ⟨hl,hr⟩:=BL h xs caps ha
  refine ⟨.func (.func f) #[] (xs.map a.eval).toArray,by simp [execOp,Instr.makeFunc,Sem.run_bind,Sem.run_pure], .im (.fn f caps _ (by simp [hl]) fun j u z hu hz=>?_)⟩
  exact (Q9 hcl u (List.mem_of_getElem? hu)).im (hr j u z hu hz)
theorem Qm (l:List UInt8) (i j:Nat):((⟨l.toArray⟩:ByteArray).extract i j) = ⟨((l.take j).drop i).toArray⟩:=by
 apply ByteArray.ext
 simp [ByteArray.data_extract]
 rw [List.drop_take]
def At (ev:Operand → Option AV) (dflt:Nat):Option Operand → Option Int
 | none=>some dflt
 | some x=>match ev x with
   | some (.v (.int _ i))=>some i
   | _=>none
theorem Ee {k:IntKind} {i:Int} {m:Nat} (h0:0 ≤ i) (h1:i ≤ m) (c:BoundsCode) (w:World):(Instr.sliceBound (.int k i) m c).run P w = .ok i.toNat w:=by
 simp [Instr.sliceBound,asIntOf,Sem.run_bind,Sem.run_pure,h0,h1]
theorem GC {isS:Bool} {len cap:Nat} {lo hi:Option Operand} {l h:Int} {θ:Nat → Value} {a:Act} {w:World} (hev:m7 E θ nx hp ev a w) (hl:At ev 0 lo = some l) (hh:At ev len hi = some h) (h0:0 ≤ l) (h1:l ≤ h) (h2:h ≤ cap) :
  (Instr.sliceBounds isS len cap (lo.map a.eval) (hi.map a.eval) none).run P w = .ok (l.toNat,h.toNat,cap) w:=by
 have hb:∀ (o:Option Operand) (df:Nat) (i:Int),At ev df o = some i → (o = none ∧ i = df) ∨ ∃ y k,o = some y ∧ a.eval y = .int k i:=by
  intro o df i ho
  cases o with
  | none=>exact .inl ⟨rfl,by simp [At] at ho;exact ho.symm⟩
  | some y =>
    simp only [At] at ho
    split at ho
    ·rename_i k j hj
     cases ho
     exact .inr ⟨y,k,rfl,(hev.rel hj).val⟩
    ·cases ho
 have h3:0 ≤ h:=by omega
 rcases hb lo 0 l hl with ⟨rfl,rfl⟩ | ⟨yl,kl,rfl,hyl⟩ <;> rcases hb hi len h hh with ⟨rfl,rfl⟩ | ⟨yh,kh,rfl,hyh⟩
 ·simp [Instr.sliceBounds,Sem.run_bind,Sem.run_pure]
 ·simp only [Instr.sliceBounds,Option.map_none,Option.map_some,Sem.run_bind,Sem.run_pure,Result.andThen_ok,hyh,Ee h3 h2]
  rfl
 ·simp only [Instr.sliceBounds,Option.map_none,Option.map_some,Sem.run_bind,Sem.run_pure,Result.andThen_ok,hyl,Ee h0 h1]
  rfl
 ·have h4:l ≤ (h.toNat:Int):=by omega
  simp only [Instr.sliceBounds,Option.map_some,Sem.run_bind,Sem.run_pure,Result.andThen_ok,hyl,hyh,Ee h3 h2,Ee h0 h4]
theorem Iy {T:Nat} [ts:X6 P T] {s:List UInt8} {lo hi:Option Operand} {l h:Int} (hx:ev x = some (.str s)) (hl:At ev 0 lo = some l) (hh:At ev s.length hi = some h) (h0:0 ≤ l) (h1:l ≤ h) (h2:h ≤ s.length) :
  I1 P E nx hp ev (.slice T x lo hi none) ty (.str ((s.take h.toNat).drop l.toNat)) :=
 F8 fun _ _ _ θ a w hs=>by
  have hv:=(hs.rel hx).sval
  refine ⟨.string ⟨((s.take h.toNat).drop l.toNat).toArray⟩,?_, .im (.str _)⟩
  have hb:=GC (P:=P) (isS:=false) (cap:=s.length) hs hl hh h0 h1 h2
  have hsz:(ByteArray.mk s.toArray).size = s.length:=rfl
  simp only [execOp,hv,Instr.sliceAt,Instr.slice,Sem.run_bind,run_underlying ts.out,Result.andThen_ok,Option.isSome_none,Option.map_none,hsz,Bool.false_eq_true,if_false,hb,Qm,Sem.run_pure]
theorem Sm {T e sz:Nat} [ts:N0 P T e sz] {s:List (List AV)} {lo hi:Option Operand} {l h:Int} (hx:ev x = some (.sl sz s)) (hl:At ev 0 lo = some l) (hh:At ev s.length hi = some h) (h0:0 ≤ l) (h1:l ≤ h) (h2:h ≤ s.length) :
  I1 P E nx hp ev (.slice T x lo hi none) ty (.sl sz ((s.take h.toNat).drop l.toNat)) :=
 F8 fun _ _ _ θ a w hs=>by
  obtain ⟨hu,inf,hi2,hsz⟩:=ts.out
  have hlen:((s.take h.toNat).drop l.toNat).length = h.toNat - l.toNat:=by rw [List.length_drop,List.length_take];omega
  rcases FR (hs.rel hx) with ⟨hv,e⟩ | ⟨p,cap,f,hv,h3,h4,h5,h6,h7,h8⟩
  ·subst e
   have hb:=GC (P:=P) (isS:=true) (cap:=0) hs hl hh h0 h1 (by simpa using h2)
   have e1:h = 0:=by simp at h2;omega
   have e2:l = 0:=by omega
   subst e1;subst e2
   refine ⟨.slice none 0 0,?_, .im (.slnil sz)⟩
   simp only [List.length_nil] at hb
   simp only [execOp,hv,Instr.sliceAt,Instr.slice,Sem.run_bind,run_underlying hu,Result.andThen_ok,Option.map_none,hb,Sem.run_pure,sizeOf,typeInfo,program,Sem.run,hi2]
   rfl
  ·have hb:=GC (P:=P) (isS:=true) (cap:=cap) hs hl hh h0 h1 (by omega)
   refine ⟨.slice (some (if cap = l.toNat then p else p.add (l.toNat * sz))) (h.toNat - l.toNat) (cap - l.toNat),?_,?_⟩
   ·simp only [execOp,hv,Instr.sliceAt,Instr.slice,Sem.run_bind,run_underlying hu,Result.andThen_ok,Option.map_none,hb,Sem.run_pure,sizeOf,typeInfo,program,Sem.run,hi2,hsz]
    split <;> rfl
   ·rw [← hlen]
    have hget:∀ (i:Nat) el,((s.take h.toNat).drop l.toNat)[i]? = some el → s[l.toNat + i]? = some el ∧ l.toNat + i < s.length ∧ l.toNat ≠ cap:=by
     intro i el hi
     rw [List.getElem?_drop,List.getElem?_take] at hi
     split at hi
     ·have:=(List.getElem?_eq_some_iff.1 hi).1
      exact ⟨hi,this,by omega⟩
     ·cases hi
    refine .im (.sl sz _ _ _ (fun i j=>f (l.toNat + i) j) (by rw [hlen];omega) (by omega) (fun hne hs0=>?_) (fun el hel=>?_) (fun i hi j hj=>?_) (fun i el hi j u hu=>?_))
    ·have:s ≠ []:=by intro e;subst e;simp at hne
     split
     ·exact h5 this hs0
     ·rw [f8];exact h5 this hs0
    ·exact h6 el (List.mem_of_mem_take (List.mem_of_mem_drop hel))
    ·have hg:=hget i _ (List.getElem?_eq_getElem hi)
     rw [if_neg (fun e=>hg.2.2 e.symm),Ca]
     have:=h7 (l.toNat + i) hg.2.1 j hj
     rw [Nat.add_mul,Nat.add_assoc] at this
     exact this
    ·have hg:=hget i _ hi
     exact h8 _ _ hg.1 j u hu
end rules
def IP (h h':Hp) (i v len:Nat):AV :=
 match B4 h i with
 | some (.row _ sz v1 l)=>cond (Nat.beq v v1) (match B4 h' i with
   | some (.row _ _ v2 _)=>.row i v2 len
   | _=>.sl sz l) .any
 | _=>.any
def IQ (h h':Hp) (i v k off:Nat):AV :=
 match B4 h i with
 | some (.row _ sz v1 l)=>cond (Nat.beq v v1) (match B4 h' i with
   | some (.row _ _ v2 _)=>.elt i v2 k off
   | _=>match l[k]? with
     | some el=>.iptr (el.drop off)
     | none=>.any) .any
 | _=>.any
def KQ (h h':Hp) (i off:Nat):AV :=
 match B4 h i with
 | some (.bx _ l)=>match B4 h' i with
   | some _=>.ref i off
   | none=>cond (K9 l) (.iptr (l.drop off)) (.ref i off)
 | _=>.ref i off
mutual
def M0 (h h':Hp):AV → AV
 | .row i v len=>IP h h' i v len
 | .elt i v k off=>IQ h h' i v k off
 | .ref i off=>KQ h h' i off
 | .agg l=>.agg (Br h h' l)
 | .tup l=>.tup (Br h h' l)
 | .fo f l=>.fo f (Br h h' l)
 | x=>x
def Br (h h':Hp):List AV → List AV
 | []=>[]
 | x :: r=>M0 h h' x :: Br h h' r
end
theorem Q2 (h h':Hp):∀ l,Br h h' l = l.map (M0 h h')
 | []=>by simp [Br]
 | x :: r=>by simp [Br,Q2 h h' r]
def KR (h h':Hp):H4 → H4 → Prop
 | .bx τ l,b=>b = .bx τ (Br h h' l)
 | .row e sz _ l,b=>∃ v,b = .row e sz v l
 | .map m,b=>b = .map m
 | .it s p,b=>b = .it s p
mutual
def a6 (m:Nat):AV → Bool
 | .ref i _=>Nat.blt i m
 | .row i _ _=>Nat.blt i m
 | .mp i=>Nat.blt i m
 | .elt i _ _ _=>Nat.blt i m
 | .agg l=>X8 m l
 | .tup l=>X8 m l
 | .fo _ l=>X8 m l
 | _=>true
def X8 (m:Nat):List AV → Bool
 | []=>true
 | x :: r=>a6 m x && X8 m r
end
theorem AP {m:Nat}:∀ {l:List AV},X8 m l = true → ∀ x ∈ l,a6 m x = true
 | [],_,x,hx=>by cases hx
 | y :: r,h,x,hx=>by
   simp only [X8,Bool.and_eq_true] at h
   rcases List.mem_cons.1 hx with rfl | hx
   ·exact h.1
   ·exact AP h.2 x hx
structure Cx.sub (c c':Cx):Prop where
 θ:c'.θ = c.θ
 w:c'.w = c.w
 X:∀ k,c'.X k → c.X k
 blk:∀ i b',B4 c'.hp i = some b' → ∃ b,B4 c.hp i = some b ∧ KR c.hp c'.hp b b'
 apart:∀ i j b b' k,B4 c.hp i = some b → B4 c.hp j = some b' → fp (c.θ i) = some k → fp (c.θ j) = some k → i = j
 fresh:∀ i b k,B4 c.hp i = some b → fp (c.θ i) = some k → ¬ c.X k
 owns:∀ i b,B4 c.hp i = some b → W1 c i b
theorem Cx.sub.U {c c':Cx} (h:c.sub c'):∀ k,c'.U k → c.U k:=by
 rintro k (hk | ⟨i,b,hi,hk⟩)
 ·exact .inl (h.X k hk)
 ·obtain ⟨b0,hb0,_⟩:=h.blk i b hi
  exact .inr ⟨i,b0,hb0,by rw [← h.θ];exact hk⟩
theorem Cx.sub.notU {c c':Cx} (h:c.sub c') {i:Nat} {b:H4} (hi:B4 c.hp i = some b) (hn:B4 c'.hp i = none) {k:Nat} (hk:fp (c.θ i) = some k):¬ c'.U k:=by
 rintro (hx | ⟨j,b',hj,hk'⟩)
 ·exact h.fresh i b k hi hk (h.X k hx)
 ·obtain ⟨b0,hb0,_⟩:=h.blk j b' hj
  have:=h.apart i j b b0 k hi hb0 hk (by rw [← h.θ];exact hk')
  subst this
  rw [hn] at hj
  cases hj
theorem Cx.sub.im {c c':Cx} (h:c.sub c') {a:AV} {x:Value} (hi:Im c.U c.w a x):Im c'.U c'.w a x:=hi.mono (fun k _ _=>by rw [h.w]) fun k _ hu=>h.U k hu
theorem KS {c c':Cx} (h:c.sub c') {i e sz v:Nat} {l:List (List AV)} (hi:B4 c.hp i = some (.row e sz v l)) (hn:B4 c'.hp i = none):Im c'.U c'.w (.sl sz l) (c.θ i):=by
 obtain ⟨xs,hown,hsz,hr⟩:=h.owns i _ hi
 rcases hown.2 with ⟨hv,hn0⟩ | ⟨g,cap,cur,hv,_,hg,hc,hm,hlen,hx⟩
 ·have:l = []:=List.eq_nil_of_length_eq_zero hn0
  subst this
  rw [hv]
  exact .slnil sz
 ·have hown':=hown
  rw [hv] at hown'
  rw [hv]
  have hnu:¬ c'.U g:=h.notU hi hn (by rw [hv];rfl)
  have hget:∀ i,i < l.length → ∀ j,j < sz → ∃ y,xs[i * sz + j]? = some y:=by
   intro i hi j hj
   have h1:(i + 1) * sz ≤ l.length * sz:=Nat.mul_le_mul_right _ hi
   rw [Nat.add_mul,Nat.one_mul] at h1
   have h2:i * sz + j < xs.length:=by rw [hown.1];omega
   exact ⟨_,List.getElem?_eq_getElem h2⟩
  refine .sl sz l ⟨g,0,none⟩ cap (fun i j=>xs.getD (i * sz + j) undef) hc hm (fun _ _=>hnu) hsz (fun i hi j hj=>?_) (fun k el hk j x hx=>?_)
  ·obtain ⟨y,hy⟩:=hget i hi j hj
   have:=hown'.cells (g:=g) rfl _ _ hy
   rw [addr_add,h.w]
   have e:xs.getD (i * sz + j) undef = y:=by rw [List.getD,hy];rfl
   rw [e]
   simpa [addr_add] using this
  ·obtain ⟨y,hy,him⟩:=hr k el hk j x hx
   have e:xs.getD (k * sz + j) undef = y:=by rw [List.getD,hy];rfl
   rw [e]
   exact h.im him
theorem eU {c c':Cx} (h:c.sub c') {a:AV} {x:Value} (hi:Im c.U c.w a x):M0 c.hp c'.hp a = a ∨ G4 c' (M0 c.hp c'.hp a) x:=by
 induction hi with
 | v x=>exact .inl rfl
 | str l=>exact .inl rfl
 | fn f l cs hl hc ih=>exact .inl rfl
 | iptr l a f hu hc hh ih=>exact .inl rfl
 | err t p=>exact .inl rfl
 | any x=>exact .inl rfl
 | slnil sz=>exact .inl rfl
 | sl sz l a cap f hcap hm hu hsz hc hh ih=>exact .inl rfl
 | agg l cs hl hc ih =>
   refine .inr ?_
   simp only [M0,Q2]
   refine .agg _ cs (by simp [hl]) fun j u z hu hz=>?_
   simp only [List.getElem?_map,Option.map_eq_some_iff] at hu
   obtain ⟨u0,hu0,rfl⟩:=hu
   rcases ih j u0 z hu0 hz with e | e
   ·rw [e];exact .im (h.im (hc j u0 z hu0 hz))
   ·exact e
 | tup l cs hl hc ih =>
   refine .inr ?_
   simp only [M0,Q2]
   refine .tup _ cs (by simp [hl]) fun j u z hu hz=>?_
   simp only [List.getElem?_map,Option.map_eq_some_iff] at hu
   obtain ⟨u0,hu0,rfl⟩:=hu
   rcases ih j u0 z hu0 hz with e | e
   ·rw [e];exact .im (h.im (hc j u0 z hu0 hz))
   ·exact e
theorem HG {c c':Cx} (h:c.sub c') {a:AV} {x:Value} (r:G4 c a x):c.nx ≤ c'.nx ∨ a6 c'.nx (M0 c.hp c'.hp a) = true → G4 c' (M0 c.hp c'.hp a) x:=by
 induction r with
 | any x=>intro _;exact .any x
 | im hi =>
   intro _
   rcases eU h hi with e | e
   ·rw [e];exact .im (h.im hi)
   ·exact e
 | agg l cs hl _ ih =>
   intro hlt
   simp only [M0,Q2] at hlt ⊢
   refine .agg _ cs (by simp [hl]) fun j u z hu hz=>?_
   have hmem:=List.mem_of_getElem? hu
   simp only [List.getElem?_map,Option.map_eq_some_iff] at hu
   obtain ⟨u0,hu0,rfl⟩:=hu
   exact ih j u0 z hu0 hz (hlt.imp id fun h=>AP (by simpa only [a6] using h) _ hmem)
 | tup l cs hl _ ih =>
   intro hlt
   simp only [M0,Q2] at hlt ⊢
   refine .tup _ cs (by simp [hl]) fun j u z hu hz=>?_
   have hmem:=List.mem_of_getElem? hu
   simp only [List.getElem?_map,Option.map_eq_some_iff] at hu
   obtain ⟨u0,hu0,rfl⟩:=hu
   exact ih j u0 z hu0 hz (hlt.imp id fun h=>AP (by simpa only [a6] using h) _ hmem)
 | fo f l cs hl _ ih =>
   intro hlt
   simp only [M0,Q2] at hlt ⊢
   refine .fo f _ cs (by simp [hl]) fun j u z hu hz=>?_
   have hmem:=List.mem_of_getElem? hu
   simp only [List.getElem?_map,Option.map_eq_some_iff] at hu
   obtain ⟨u0,hu0,rfl⟩:=hu
   exact ih j u0 z hu0 hz (hlt.imp id fun h=>AP (by simpa only [a6] using h) _ hmem)
 | ref i off b hi hθ =>
   intro hlt
   simp only [M0,KQ] at hlt ⊢
   have keep:(c.nx ≤ c'.nx ∨ a6 c'.nx (.ref i off) = true) → G4 c' (.ref i off) (.pointer (some ⟨b,off,none⟩)):=fun hlt=>by
    refine .ref i off b ?_ (by rw [h.θ];exact hθ)
    rcases hlt with h1 | h1
    ·omega
    ·simpa only [a6,Nat.blt_eq] using h1
   split at hlt
   ·rename_i l hb
    split at hlt
    ·exact keep hlt
    ·rename_i hn
     cases hcl:K9 l with
     | false=>rw [hcl] at hlt;exact keep hlt
     | true =>
       obtain ⟨b',arr,T,hθ',hh,hsz,hr⟩:=h.owns i _ hb
       have e:b' = b:=by rw [hθ] at hθ';injection hθ' with e;injection e with e;injection e with e;exact e.symm
       subst e
       have hnu:¬ c'.U b':=h.notU hb hn (by rw [hθ];rfl)
       refine .im (.iptr _ _ (fun j=>arr.getD (off + j) undef) (fun _=>hnu) (fun j hj=>?_) (fun j u hu=>?_))
       ·have hlt':off + j < arr.size:=by rw [List.length_drop] at hj;omega
        rw [addr_add,h.w,Q8 hh]
        simp [Array.getD,hlt']
       ·rw [List.getElem?_drop] at hu
        have hlt':off + j < arr.size:=by have:=(List.getElem?_eq_some_iff.1 hu).1;omega
        have hget:arr[off + j]? = some (arr.getD (off + j) undef):=by simp [Array.getD,hlt']
        have:=hr _ u _ hu hget
        exact h.im ((Q9 hcl u (List.mem_of_getElem? hu)).im this)
   ·exact keep hlt
 | row i ver len x hi hr =>
   intro hlt
   simp only [M0,IP]
   split
   ·rename_i e sz v1 l hb
    cases hv:Nat.beq ver v1 with
    | false=>exact .any x
    | true =>
      have hv':=Nat.eq_of_beq_eq_true hv
      subst hv'
      obtain ⟨_,hcur⟩:=hr e sz ver l hb
      obtain ⟨hlen,hx⟩:=hcur rfl
      simp only [cond_true]
      split
      ·rename_i e2 sz2 v2 l2 hb2
       have hnx:i < c'.nx:=by
        simp only [M0,IP,hb,hv,cond_true,hb2,a6,Nat.blt_eq] at hlt
        omega
       refine .row i v2 len x hnx fun e3 sz3 v3 l3 hb3=>?_
       rw [hb2] at hb3
       cases hb3
       refine ⟨Nat.le_refl _,fun _=>?_⟩
       obtain ⟨b,hb',hrow⟩:=h.blk i _ hb2
       rw [hb] at hb'
       cases hb'
       obtain ⟨v,hrow⟩:=hrow
       cases hrow
       exact ⟨hlen,by rw [h.θ];exact hx⟩
      ·rename_i hb2
       rw [hx]
       refine .im (KS h hb ?_)
       cases hq:B4 c'.hp i with
       | none=>rfl
       | some b' =>
         obtain ⟨b,hb',hrow⟩:=h.blk i _ hq
         rw [hb] at hb'
         cases hb'
         obtain ⟨v,rfl⟩:=hrow
         exact absurd hq (hb2 _ _ _ _)
   ·exact .any x
 | mp i r hi hθ =>
   intro hlt
   refine .mp i r ?_ (by rw [h.θ];exact hθ)
   simp only [M0,a6,Nat.blt_eq] at hlt
   omega
 | elt i ver k off x hi hr =>
   intro hlt
   simp only [M0,IQ]
   split
   ·rename_i e sz v1 l hb
    cases hv:Nat.beq ver v1 with
    | false=>exact .any x
    | true =>
      have hv':=Nat.eq_of_beq_eq_true hv
      subst hv'
      obtain ⟨_,hcur⟩:=hr e sz ver l hb
      obtain ⟨g,m,cap,hθ,hx⟩:=hcur rfl
      simp only [cond_true]
      split
      ·rename_i e2 sz2 v2 l2 hb2
       have hnx:i < c'.nx:=by
        simp only [M0,IQ,hb,hv,cond_true,hb2,a6,Nat.blt_eq] at hlt
        omega
       refine .elt i v2 k off x hnx fun e3 sz3 v3 l3 hb3=>?_
       rw [hb2] at hb3
       cases hb3
       refine ⟨Nat.le_refl _,fun _=>?_⟩
       obtain ⟨b,hb',hrow⟩:=h.blk i _ hb2
       rw [hb] at hb'
       cases hb'
       obtain ⟨v,hrow⟩:=hrow
       cases hrow
       exact ⟨g,m,cap,by rw [h.θ];exact hθ,hx⟩
      ·rename_i hb2
       split
       ·rename_i el hel
        have hn:B4 c'.hp i = none:=by
         cases hq:B4 c'.hp i with
         | none=>rfl
         | some b' =>
           obtain ⟨b,hb',hrow⟩:=h.blk i _ hq
           rw [hb] at hb'
           cases hb'
           obtain ⟨v,rfl⟩:=hrow
           exact absurd hq (hb2 _ _ _ _)
        have him:=KS h hb hn
        rw [hθ] at him
        cases him with
        | sl sz l a cap' f hcap hm hu hsz hc hh =>
          have hlt2:k < l.length:=(List.getElem?_eq_some_iff.1 hel).1
          have hes:=hsz el (List.mem_of_getElem? hel)
          rw [hx]
          refine .im (.iptr _ _ (fun j=>f k (off + j)) (fun hne=>?_) (fun j hj=>?_) (fun j u hu'=>?_))
          ·have h1:=List.length_pos_iff.2 hne
           rw [List.length_drop] at h1
           exact hu (by intro e;subst e;simp at hlt2) (by omega)
          ·rw [List.length_drop] at hj
           have:=hc k hlt2 (off + j) (by omega)
           rw [addr_add] at this ⊢
           rw [← this]
           congr 2
           omega
          ·rw [List.getElem?_drop] at hu'
           exact hh k el hel (off + j) u hu'
       ·exact .any x
   ·exact .any x
theorem U0.cv {E:Env} {n:Nat} {θ:Nat → Value} {σ σ':St} {a:Act} {w:World} (h:U0 E n θ σ a w) (h0:E.n0 ≤ σ'.nx)
  (hs:∀ s x',look σ'.sl s = some x' → ∃ x,look σ.sl s = some x ∧ M0 σ.hp σ'.hp x = x' ∧ (σ.nx ≤ σ'.nx ∨ a6 σ'.nx x' = true))
  (hb:∀ i b',B4 σ'.hp i = some b' → (σ.nx ≤ σ'.nx ∨ i < σ'.nx) ∧ ∃ b,B4 σ.hp i = some b ∧ KR σ.hp σ'.hp b b' ∧ (σ.nx ≤ σ'.nx ∨ ∀ τ l,b' = .bx τ l → X8 σ'.nx l = true)):U0 E n θ σ' a w:=by
 have sub:(cx E θ σ w).sub (cx E θ σ' w):=⟨rfl,rfl,fun _ h=>h,fun i b' hi=>by
  obtain ⟨_,b,h1,h2,_⟩:=hb i b' hi
  exact ⟨b,h1,h2⟩,h.apart,fun i b k hi hk=>(h.mine i b k hi hk).1,fun i b hi=>(h.owns i b hi).2⟩
 refine ⟨h.size,h.defers,h.fr,fun s x' hx=>?_,fun i b' hi=>?_,fun i j b1 b2 k hi hj=>?_,fun i b' k hi=>?_,h.X,⟨h0,fun i hi=>(h.base.2 i hi).imp id fun ⟨h1,h2⟩=>⟨h1,fun ⟨e',sz,v,l,hl,hk⟩=>h2 (by
  obtain ⟨_,b,g1,g2,_⟩:=hb i _ hl
  cases b with
  | bx _ _=>cases g2
  | map _=>cases g2
  | it _ _=>cases g2
  | row e1 sz1 v1 l1 =>
    obtain ⟨v2,g3⟩:=g2
    cases g3
    exact ⟨_,_,_,_,g1,hk⟩)⟩⟩⟩
 ·obtain ⟨x,h1,rfl,h2⟩:=hs s x' hx
  exact HG sub (h.slots s x h1) h2
 ·obtain ⟨h0,b,h1,h2,h3⟩:=hb i b' hi
  obtain ⟨h4,h5⟩:=h.owns i b h1
  refine ⟨h0.elim (fun h=>by omega) id,?_⟩
  cases b with
  | bx τ l =>
    simp only [KR] at h2
    subst h2
    obtain ⟨b',arr,T,e1,e2,e3,e4⟩:=h5
    refine ⟨b',arr,T,e1,e2,by rw [Q2,List.length_map];exact e3,fun j u z hu hz=>?_⟩
    rw [Q2] at hu h3
    have hmem:=List.mem_of_getElem? hu
    simp only [List.getElem?_map,Option.map_eq_some_iff] at hu
    obtain ⟨u0,hu0,rfl⟩:=hu
    exact HG sub (e4 j u0 z hu0 hz) (h3.imp id fun h=>AP (h _ _ rfl) _ hmem)
  | row e sz v l =>
    obtain ⟨v2,rfl⟩:=h2
    obtain ⟨xs,e1,e2,e3⟩:=h5
    exact ⟨xs,e1,e2,fun k el hk j x hx=>by
     obtain ⟨y,hy,hi⟩:=e3 k el hk j x hx
     exact ⟨y,hy,sub.im hi⟩⟩
  | map m =>
    simp only [KR] at h2
    subst h2
    obtain ⟨r,es,clock,e1,e2,e3,e4⟩:=h5
    exact ⟨r,es,clock,e1,e2,e3,fun j q e hj he=>⟨(e4 j q e hj he).1,sub.im (e4 j q e hj he).2⟩⟩
  | it t p =>
    simp only [KR] at h2
    subst h2
    exact h5
 ·obtain ⟨_,b1',h1,_⟩:=hb i b1 hi
  obtain ⟨_,b2',h2,_⟩:=hb j b2 hj
  exact h.apart i j _ _ k h1 h2
 ·obtain ⟨_,b1',h1,_⟩:=hb i b' hi
  exact h.mine i _ k h1
def Sn (m:Nat):List (Nat × AV) → Bool
 | []=>true
 | (_,x) :: r=>a6 m x && Sn m r
def N4 (m:Nat):Hp → Bool
 | []=>true
 | (i,some (.bx _ l)) :: r=>Nat.blt i m && X8 m l && N4 m r
 | (i,_) :: r=>Nat.blt i m && N4 m r
theorem Mi {m:Nat}:∀ {l:List (Nat × AV)} {s:Nat} {x:AV},Sn m l = true → look l s = some x → a6 m x = true
 | [],s,x,_,h=>by cases h
 | (s0,x0) :: r,s,x,hs,h=>by
   simp only [Sn,Bool.and_eq_true] at hs
   rw [H5] at h
   by_cases e:s0 = s
   ·subst e;rw [if_pos rfl] at h;cases h;exact hs.1
   ·rw [if_neg e] at h;exact Mi hs.2 h
theorem Bf {m:Nat}:∀ {l:Hp} {i:Nat} {b:H4},N4 m l = true → B4 l i = some b → i < m ∧ ∀ τ c,b = .bx τ c → X8 m c = true
 | [],i,b,_,h=>by cases h
 | (i0,b0) :: r,i,b,hs,h=>by
   rw [I6] at h
   have hs':Nat.blt i0 m = true ∧ (∀ τ c,b0 = some (.bx τ c) → X8 m c = true) ∧ N4 m r = true:=by
    match b0,hs with
    | some (.bx τ c),hs=>simp only [N4,Bool.and_eq_true] at hs;exact ⟨hs.1.1,(fun _ c' e=>by cases e;exact hs.1.2),hs.2⟩
    | some (.row ..),hs=>simp only [N4,Bool.and_eq_true] at hs;exact ⟨hs.1,(fun _ c' e=>by cases e),hs.2⟩
    | some (.map ..),hs=>simp only [N4,Bool.and_eq_true] at hs;exact ⟨hs.1,(fun _ c' e=>by cases e),hs.2⟩
    | some (.it ..),hs=>simp only [N4,Bool.and_eq_true] at hs;exact ⟨hs.1,(fun _ c' e=>by cases e),hs.2⟩
    | none,hs=>simp only [N4,Bool.and_eq_true] at hs;exact ⟨hs.1,(fun _ c' e=>by cases e),hs.2⟩
   by_cases e:i0 = i
   ·subst e
    rw [if_pos rfl] at h
    subst h
    exact ⟨Nat.blt_eq ▸ hs'.1,fun τ c hc=>hs'.2.1 τ c (by rw [hc])⟩
   ·rw [if_neg e] at h;exact Bf hs'.2.2 h
def IR (σ:St) (h':Hp):List (Nat × AV) → Prop
 | []=>True
 | (s,x) :: r=>(look σ.sl s).map (M0 σ.hp h') = some x ∧ IR σ h' r
def Ef (σ:St) (h':Hp):Hp → Prop
 | []=>True
 | (_,none) :: r=>Ef σ h' r
 | (i,some b) :: r=>(match B4 σ.hp i with
   | some b0=>KR σ.hp h' b0 b
   | none=>False) ∧ Ef σ h' r
theorem IR.look {σ:St} {h':Hp}:∀ {l:List (Nat × AV)} {s:Nat} {x:AV},IR σ h' l → look l s = some x → (look σ.sl s).map (M0 σ.hp h') = some x
 | [],s,x,_,h=>by cases h
 | (s0,x0) :: r,s,x,hs,h=>by
   rw [H5] at h
   by_cases e:s0 = s
   ·subst e;rw [if_pos rfl] at h;cases h;exact hs.1
   ·rw [if_neg e] at h;exact IR.look hs.2 h
theorem Ef.look {σ:St} {h':Hp}:∀ {l:Hp} {i:Nat} {b:H4},Ef σ h' l → B4 l i = some b → ∃ b0,B4 σ.hp i = some b0 ∧ KR σ.hp h' b0 b
 | [],i,b,_,h=>by cases h
 | (i0,none) :: r,i,b,hs,h=>by
   rw [I6] at h
   by_cases e:i0 = i
   ·subst e;rw [if_pos rfl] at h;cases h
   ·rw [if_neg e] at h;exact Ef.look (l:=r) hs h
 | (i0,some b0) :: r,i,b,hs,h=>by
   rw [I6] at h
   by_cases e:i0 = i
   ·subst e
    rw [if_pos rfl] at h
    cases h
    have h1:=hs.1
    split at h1
    ·rename_i b1 hb1;exact ⟨b1,hb1,h1⟩
    ·exact h1.elim
   ·rw [if_neg e] at h;exact Ef.look hs.2 h
theorem A5 {E:Env} {n m:Nat} {σ σ':St} (h0:E.n0 = m) (hm:Nat.ble m σ'.nx = true) (hs:IR σ σ'.hp σ'.sl) (hh:Ef σ σ'.hp σ'.hp) (hn:Nat.ble σ'.nx σ.nx = true) (hl:Sn σ'.nx σ'.sl = true) (hb:N4 σ'.nx σ'.hp = true):St.le E n σ σ':=by
 rintro a w ⟨θ,h⟩
 refine ⟨θ,h.cv (h0 ▸ Nat.ble_eq ▸ hm) (fun s x' hx=>?_) (fun i b' hi=>?_)⟩
 ·have:=IR.look hs hx
  rw [Option.map_eq_some_iff] at this
  obtain ⟨x,h1,h2⟩:=this
  exact ⟨x,h1,h2, .inr (Mi hl hx)⟩
 ·obtain ⟨b0,h1,h2⟩:=Ef.look hh hi
  obtain ⟨h3,h4⟩:=Bf hb hi
  exact ⟨.inr h3,b0,h1,h2, .inr h4⟩
def AK (f:AV → AV):List (Nat × AV) → List (Nat × AV)
 | []=>[]
 | (s,x) :: r=>(s,f x) :: AK f r
def AQ (i:Nat):Hp → Hp
 | []=>[]
 | (k,b) :: r=>cond (Nat.beq k i) (AQ i r) ((k,b) :: AQ i r)
def Eg (f:AV → AV):Hp → Hp
 | []=>[]
 | (k,some (.bx τ l)) :: r=>(k,some (.bx τ (l.map f))) :: Eg f r
 | (k,b) :: r=>(k,b) :: Eg f r
theorem Bs (f:AV → AV):∀ (l:List (Nat × AV)) (s:Nat),look (AK f l) s = (look l s).map f
 | [],s=>rfl
 | (k,x) :: r,s=>by
   simp only [AK,H5]
   by_cases e:k = s
   ·simp [e]
   ·simp [e,Bs f r s]
theorem Bt (i:Nat):∀ (l:Hp) (j:Nat),B4 (AQ i l) j = if i = j then none else B4 l j
 | [],j=>by simp [AQ,B4,look]
 | (k,b) :: r,j=>by
   simp only [AQ]
   cases h:Nat.beq k i with
   | true =>
     have:=Nat.eq_of_beq_eq_true h
     subst this
     rw [cond_true,Bt k r j,I6]
     by_cases e:k = j <;> simp [e]
   | false =>
     have hne:k ≠ i:=by intro e;subst e;simp at h
     rw [cond_false,I6,I6,Bt i r j]
     by_cases e:k = j
     ·subst e;simp [Ne.symm hne]
     ·simp [e]
def ED (f:AV → AV):H4 → H4
 | .bx τ l=>.bx τ (l.map f)
 | b=>b
theorem FB (f:AV → AV):∀ (l:Hp) (j:Nat),B4 (Eg f l) j = (B4 l j).map (ED f)
 | [],j=>by simp [Eg,B4,look]
 | (k,b) :: r,j=>by
   have:Eg f ((k,b) :: r) = (k,b.map (ED f)) :: Eg f r:=by
    cases b with
    | none=>rfl
    | some b=>cases b <;> rfl
   rw [this,I6,I6,FB f r j]
   by_cases e:k = j <;> simp [e]
def St.frz (σ:St) (i:Nat):St :=
 let h':=AQ i σ.hp
 { sl:=AK (M0 σ.hp h') σ.sl,nx:=σ.nx,hp:=Eg (M0 σ.hp h') h' }
theorem Qn {h h1 h2:Hp} (e:∀ j,(B4 h2 j) = (B4 h1 j).map (ED (M0 h h1))) (i v len:Nat):IP h h2 i v len = IP h h1 i v len:=by
 unfold IP
 rw [e i]
 cases B4 h1 i with
 | none=>rfl
 | some b=>cases b <;> rfl
theorem Qo {h h1 h2:Hp} (e:∀ j,(B4 h2 j) = (B4 h1 j).map (ED (M0 h h1))) (i v k off:Nat):IQ h h2 i v k off = IQ h h1 i v k off:=by
 unfold IQ
 rw [e i]
 cases B4 h1 i with
 | none=>rfl
 | some b=>cases b <;> rfl
theorem Qp {h h1 h2:Hp} (e:∀ j,(B4 h2 j) = (B4 h1 j).map (ED (M0 h h1))) (i off:Nat):KQ h h2 i off = KQ h h1 i off:=by
 unfold KQ
 rw [e i]
 cases B4 h1 i with
 | none=>rfl
 | some b=>cases b <;> rfl
mutual
theorem HH {h h1 h2:Hp} (e:∀ j,(B4 h2 j) = (B4 h1 j).map (ED (M0 h h1))):∀ a,M0 h h2 a = M0 h h1 a
 | .row i v len=>by simp only [M0];exact Qn e i v len
 | .elt i v k off=>by simp only [M0];exact Qo e i v k off
 | .ref i off=>by simp only [M0];exact Qp e i off
 | .agg l=>by simp only [M0];rw [Bg e l]
 | .tup l=>by simp only [M0];rw [Bg e l]
 | .fo f l=>by simp only [M0];rw [Bg e l]
 | .any=>rfl
 | .v _=>rfl
 | .str _=>rfl
 | .iptr _=>rfl
 | .sl _ _=>rfl
 | .mp _=>rfl
 | .fn _ _=>rfl
 | .err=>rfl
theorem Bg {h h1 h2:Hp} (e:∀ j,(B4 h2 j) = (B4 h1 j).map (ED (M0 h h1))):∀ l,Br h h2 l = Br h h1 l
 | []=>rfl
 | x :: r=>by simp only [Br];rw [HH e x,Bg e r]
end
theorem OT {E:Env} {n:Nat} {σ:St} (i:Nat):St.le E n σ (σ.frz i):=by
 rintro a w ⟨θ,h⟩
 have e:∀ j,B4 (σ.frz i).hp j = (B4 (AQ i σ.hp) j).map (ED (M0 σ.hp (AQ i σ.hp))):=fun j=>FB _ _ _
 refine ⟨θ,h.cv h.base.1 (fun s x' hx=>?_) (fun j b' hj=>?_)⟩
 ·have hx':(look σ.sl s).map (M0 σ.hp (AQ i σ.hp)) = some x':=by rw [← Bs];exact hx
  rw [Option.map_eq_some_iff] at hx'
  obtain ⟨x,h1,h2⟩:=hx'
  exact ⟨x,h1,by rw [HH e];exact h2, .inl (Nat.le_refl _)⟩
 ·refine ⟨.inl (Nat.le_refl _),?_⟩
  rw [e j,Option.map_eq_some_iff] at hj
  obtain ⟨b,hb,rfl⟩:=hj
  rw [Bt] at hb
  split at hb
  ·cases hb
  ·refine ⟨b,hb,?_, .inl (Nat.le_refl _)⟩
   cases b with
   | bx τ l=>simp only [KR,ED,Bg e,Q2]
   | row e sz v l=>exact ⟨v,rfl⟩
   | map m=>rfl
   | it _ _=>rfl
def Cw:List Nat → Hp → Hp
 | [],h=>h
 | i :: r,h=>Cw r (AQ i h)
theorem Iz:∀ (is:List Nat) (h:Hp) (j:Nat),B4 (Cw is h) j = none ∨ B4 (Cw is h) j = B4 h j
 | [],h,j=>.inr rfl
 | i :: r,h,j=>by
   rcases Iz r (AQ i h) j with e | e
   ·exact .inl e
   ·rw [Cw,e,Bt]
    by_cases hij:i = j
    ·exact .inl (by rw [if_pos hij])
    ·exact .inr (by rw [if_neg hij])
mutual
def GD:AV → Bool
 | .v _ | .str _ | .err=>true
 | .agg l | .tup l=>KT l
 | .sl _ []=>true
 | _=>false
def KT:List AV → Bool
 | []=>true
 | x :: r=>GD x && KT r
end
theorem GE:∀ {l:List AV},KT l = true → ∀ x ∈ l,GD x = true
 | [],_,x,hx=>by cases hx
 | y :: r,h,x,hx=>by
   simp only [KT,Bool.and_eq_true] at h
   rcases List.mem_cons.1 hx with rfl | hx
   ·exact h.1
   ·exact GE h.2 x hx
theorem Zs {U U':Nat → Prop} {w:World} {a:AV} {v:Value} (h:Im U w a v):GD a = true → Im U' w a v:=by
 induction h with
 | v x=>intro _;exact .v x
 | str l=>intro _;exact .str l
 | agg l cs hl h ih=>intro hf;exact .agg l cs hl fun j x c hx hc=>ih j x c hx hc (GE (by simpa [GD] using hf) x (List.mem_of_getElem? hx))
 | tup l cs hl h ih=>intro hf;exact .tup l cs hl fun j x c hx hc=>ih j x c hx hc (GE (by simpa [GD] using hf) x (List.mem_of_getElem? hx))
 | fn f l cs hl h ih=>intro hf;cases hf
 | iptr l a f hu hc h ih=>intro hf;cases hf
 | err t p=>intro _;exact .err t p
 | any x=>intro _;exact .any x
 | slnil sz=>intro _;exact .slnil sz
 | sl sz l a cap f hcap hm hu hsz hc h ih =>
   intro hf
   cases l with
   | nil=>exact .sl sz [] a cap f hcap hm (fun h=>absurd rfl h) hsz hc (fun i e he=>by simp at he)
   | cons x r=>cases hf
theorem Ud {P:Program} {E:Env} {nx:Nat} {hp:Hp} {ev:Operand → Option AV} {ty:TypeId} {f:Nat} {xs:List Operand} {args caps L:List AV} {r:AV} {ts:Array TypeId} {g:Operand} (is:List Nat) (hc:B3 P f (L ++ caps) r) (ha:c8 ev xs = some args)
  (hL:Br hp (Cw is hp) args = L) (hcl:K9 L = true) (hfl:GD r = true)
  (hg:∀ θ a w,m7 E θ nx hp ev a w → ∃ cs:List Value,a.eval g = .func (.func f) #[] cs.toArray ∧ caps.length = cs.length ∧ ∀ (j:Nat) x c,caps[j]? = some x → cs[j]? = some c → Im (kx E θ nx hp w).U w x c) :
  I1 P E nx hp ev (.call ⟨.value g,xs.toArray,ts⟩) ty r:=by
 intro d pos after θ a w K hs hk
 obtain ⟨hl,hr⟩:=BL hs xs args ha
 obtain ⟨cs,hge,hcl2,hcr⟩:=hg θ a w hs
 unfold HA
 rw [OJ hc.1 hge]
 let h':=Cw is hp
 let H:=Eg (M0 hp h') h'
 have e:∀ j,B4 H j = (B4 h' j).map (ED (M0 hp h')):=fun j=>FB _ _ _
 have sub:(kx E θ nx hp w).sub (kx E θ nx H w):=⟨rfl,rfl,fun _ h=>h,fun j b' hj=>by
  have hj':B4 H j = some b':=hj
  rw [e j,Option.map_eq_some_iff] at hj'
  obtain ⟨b,hb,rfl⟩:=hj'
  rcases Iz is hp j with h | h
  ·have hb':B4 (Cw is hp) j = some b:=hb
   rw [h] at hb';cases hb'
  ·have hb':B4 (Cw is hp) j = some b:=hb
   rw [h] at hb'
   refine ⟨b,hb',?_⟩
   cases b with
   | bx τ l=>simp only [KR,ED,kx,Bg e,Q2]
   | row e sz v l=>exact ⟨v,rfl⟩
   | map m=>rfl
   | it _ _=>rfl,hs.apart,hs.fresh,fun i b hi=>(hs.owns i b hi).2⟩
 have hX:=hc.2 (kx E θ nx H w).U w (xs.map a.eval ++ cs) (fun k hk=>hs.Ult k (sub.U k hk)) (hs.tab.mono (fun k _ hk=>sub.U k hk) fun _ _ _=>rfl) (by simp only [List.length_append, ← hL,Q2,List.length_map,hl,hcl2]) fun j av v hj hv=>by
  have hLl:L.length = xs.length:=by rw [← hL,Q2,List.length_map,hl]
  rw [List.getElem?_append] at hj hv
  have e1:(xs.map a.eval).length = L.length:=by simp [hLl]
  rw [e1] at hv
  split at hj
  ·rename_i hlt
   rw [if_pos hlt] at hv
   have hcv:=Q9 hcl av (List.mem_of_getElem? hj)
   rw [← hL,Q2,List.getElem?_map,Option.map_eq_some_iff] at hj
   obtain ⟨a0,ha0,rfl⟩:=hj
   have h1:=HG sub (hr j a0 v ha0 hv) (.inl (Nat.le_refl _))
   have h2:M0 (kx E θ nx hp w).hp (kx E θ nx H w).hp a0 = M0 hp (Cw is hp) a0:=HH (h:=hp) (h1:=h') (h2:=H) e a0
   rw [h2] at h1
   exact hcv.im h1
  ·rename_i hlt
   rw [if_neg hlt] at hv
   exact sub.im (hcr _ av v hj hv)
 rw [← List.append_toArray] at hX
 refine Calls.mono hX ?_
 rintro e w' ⟨v,rfl,hv,hb⟩
 exact ⟨v,rfl,hk v w' hb (.im (Zs hv hfl))⟩
structure H9 (p A:Prop):Prop where
 h:p
 k:A
structure R0 {α:Type} (l:List α) (i:Int) (F:α → Prop):Prop where
 h0:0 ≤ i
 h:i < l.length
 k:∀ el,l[i.toNat]? = some el → F el
structure cK (a:AV) (F:AV → Prop):Prop where
 h:F a
theorem eV {a b:AV} {F:AV → Prop} (e:a = b) (h:F b):cK a F:=⟨e ▸ h⟩
structure Le {α:Type} (l:List α) (F:Nat → Prop):Prop where
 k:F l.length
structure BH (b:Bool) (A B:Prop):Prop where
 t:b = true → A
 f:b = false → B
structure Nr (P:Program) (f:Nat) (args:List AV) (F:AV → Prop):Prop where
 h:∃ r,B3 P f args r ∧ F r
structure eW (P:Program) (f:Nat) (hp:Hp) (l caps:List AV) (F:AV → Prop):Prop where
 h:∃ (is:List Nat) (L:List AV) (r:AV),Br hp (Cw is hp) l = L ∧ K9 L = true ∧ B3 P f (L ++ caps) r ∧ GD r = true ∧ F r
structure JZ (P:Program) (T:Nat) (F:Bool → Nat → Prop):Prop where
 h:∃ ag sz,J6 P T ag sz ∧ F ag sz
structure So (P:Program) (T:Nat) (F:List AV → Prop):Prop where
 h:∃ l,J8 P T l ∧ F (l.map b9)
structure Lf (P:Program) (S f:Nat) (F:Nat → Nat → Prop):Prop where
 h:∃ off sz,I5 P S f off sz ∧ F off sz
structure Gx (P:Program) (T:Nat) (F:Nat → Nat → Prop):Prop where
 h:∃ e sz,N0 P T e sz ∧ F e sz
structure We (P:Program) (T:Nat) (F:Nat → Nat → Prop):Prop where
 h:∃ len e sz,JU P T len e sz ∧ F len sz
structure ZQ (P:Program) (T:Nat) (A:Prop):Prop where
 [h:KC P T]
 k:A
structure Cy (P:Program) (T:Nat) (A:Prop):Prop where
 h:X6 P T
 k:A
structure FT (P:Program) (T:Nat) (A:Prop):Prop where
 h:DG P T
 k:A
structure KU (P:Program) (T:Nat) (k1 k2:IntKind) (A:Prop):Prop where
 h:Fv P T k1 k2
 k:A
structure KV (P:Program) (T:Nat) (k1 k2 k3:IntKind) (A:Prop):Prop where
 h:Fw P T k1 k2 k3
 k:A
structure KW (P:Program) (T:Nat) (A:Prop):Prop where
 h:IM P T
 k:A
structure HI (P:Program) (T:Nat) (F:List AV → List (Nat × Nat) → Prop):Prop where
 h:∃ zs pl,J8 P T zs ∧ P2 P T pl ∧ F (zs.map b9) pl
structure EE (P:Program) (T:Nat) (F:Nat → Nat → Nat → List AV → Prop):Prop where
 h:∃ e sz bs z,N0 P T e sz ∧ J8 P e z ∧ O4 P e bs ∧ z.length = sz ∧ F e sz bs (z.map b9)
structure Sp (P:Program) (T:Nat) (F:TypeDesc → AV → Prop):Prop where
 h:∃ k e t z,Ed P T k e t z ∧ F t (b9 z)
inductive KX (P:Program) (S T:Nat):AV → AV → Prop
 | bytes {e sz:Nat} (l:List UInt8) [X6 P S] [N0 P T e sz] [S3 P e .u8] (h:l.length ≤ 9223372036854775807):KX P S T (.str l) (.sl 1 (l.map fun b=>[.v (.int .u8 b.toNat)]))
 | back {e sz:Nat} (l:List UInt8) [N0 P S e sz] [S3 P e .u8] [X6 P T]:KX P S T (.sl 1 (l.map fun b=>[.v (.int .u8 b.toNat)])) (.str l)
 | int {k k':IntKind} (m:Int) [S3 P T k] [S3 P S k']:KX P S T (.v (.int k' m)) (.v (.int k (k.wrap m)))
 | rune {k:IntKind} (m:Int) [S3 P S k] [X6 P T]:KX P S T (.v (.int k m)) (.str (Utf8.encode m).data.toList)
structure Aj (P:Program) (S T:Nat) (a:AV) (F:AV → Prop):Prop where
 h:∃ r,KX P S T a r ∧ F r
theorem G2 {p A:Prop} (h:p) (k:A):H9 p A:=⟨h,k⟩
theorem AR {α β:Type} {l:List β} {f:β → α} {k:Nat} {F:α → Prop} (h:k < l.length) (kk:∀ x,l[k]? = some x → F (f x)):R0 (l.map f) (k:Int) F :=
 ⟨by omega,by simpa using h,fun el hel=>by
  simp at hel
  obtain ⟨u,hu,rfl⟩:=hel
  exact kk u hu⟩
theorem Ce {α β:Type} {l:List β} {f:β → α} {i:Int} {F:α → Prop} (h0:0 ≤ i) (h:i < l.length) (kk:∀ x,l[i.toNat]? = some x → F (f x)):R0 (l.map f) i F :=
 ⟨h0,by simpa using h,fun el hel=>by
  simp at hel
  obtain ⟨u,hu,rfl⟩:=hel
  exact kk u hu⟩
theorem Ue {α:Type} {l:List α} {i:Int} {F:α → Prop} (h0:0 ≤ i) (h:i < l.length) (kk:∀ x,l[i.toNat]? = some x → F x):R0 l i F:=⟨h0,h,kk⟩
theorem Ak {α:Type} {l:List α} {i:Int} {x:α} {F:α → Prop} (h:l[i.toNat]? = some x) (h0:0 ≤ i) (kk:F x):R0 l i F:=by
 have h1:=(List.getElem?_eq_some_iff.1 h).1
 exact ⟨h0,by omega,fun el hel=>by rw [h] at hel;cases hel;exact kk⟩
theorem B1 {α β:Type} {l:List β} {f:β → α} {i:Int} {x:β} {F:α → Prop} (h:l[i.toNat]? = some x) (h0:0 ≤ i) (kk:F (f x)):R0 (l.map f) i F :=
 Ak (by simp [h]) h0 kk
theorem Zt {α β:Type} {l:List β} {f:β → α} {F:Nat → Prop} (k:F l.length):Le (l.map f) F:=⟨by rw [List.length_map];exact k⟩
theorem eX {α:Type} {l:List α} {F:Nat → Prop} (k:F l.length):Le l F:=⟨k⟩
theorem cL {A B:Prop} (k:A):BH true A B:=⟨fun _=>k,fun h=>by cases h⟩
theorem cM {A B:Prop} (k:B):BH false A B:=⟨(fun h=>by cases h),fun _=>k⟩
theorem cN {p A B:Prop} [Decidable p] (h1:p → A) (h2:¬ p → B):BH (decide p) A B:=⟨fun h=>h1 (of_decide_eq_true h),fun h=>h2 (of_decide_eq_false h)⟩
theorem Zu {p A B:Prop} [Decidable p] (h1:¬ p → A) (h2:p → B):BH (!decide p) A B:=⟨fun h=>h1 (by simpa using h),fun h=>h2 (by simpa using h)⟩
theorem cO {b:Bool} {A B:Prop} (h1:b = true → A) (h2:b = false → B):BH b A B:=⟨h1,h2⟩
theorem Zv {b:Bool} {A B:Prop} (h1:b = false → A) (h2:b = true → B):BH (!b) A B:=⟨(fun h=>h1 (by simpa using h)),fun h=>h2 (by simpa using h)⟩
theorem B0 {P:Program} {f:Nat} {args:List AV} {r:AV} {F:AV → Prop} (h:B3 P f args r) (k:F r):Nr P f args F:=⟨⟨r,h,k⟩⟩
theorem eY {P:Program} {T:Nat} {ag:Bool} {sz:Nat} {F:Bool → Nat → Prop} [h:J6 P T ag sz] (k:F ag sz):JZ P T F:=⟨⟨ag,sz,h,k⟩⟩
theorem cP {P:Program} {T:Nat} {l:List Value} {F:List AV → Prop} [h:J8 P T l] (k:F (l.map b9)):So P T F:=⟨⟨l,h,k⟩⟩
theorem eZ {P:Program} {S f off sz:Nat} {F:Nat → Nat → Prop} [h:I5 P S f off sz] (k:F off sz):Lf P S f F:=⟨⟨off,sz,h,k⟩⟩
theorem fL {P:Program} {T e sz:Nat} {F:Nat → Nat → Prop} [h:N0 P T e sz] (k:F e sz):Gx P T F:=⟨⟨e,sz,h,k⟩⟩
theorem eb {P:Program} {T len e sz:Nat} {F:Nat → Nat → Prop} [h:JU P T len e sz] (k:F len sz):We P T F:=⟨⟨len,e,sz,h,k⟩⟩
theorem fM {P:Program} {T:Nat} {A:Prop} [h:KC P T] (k:A):ZQ P T A:=⟨k⟩
theorem cQ {P:Program} {T:Nat} {A:Prop} [h:X6 P T] (k:A):Cy P T A:=⟨h,k⟩
theorem Zw {P:Program} {T:Nat} {A:Prop} [h:DG P T] (k:A):FT P T A:=⟨h,k⟩
theorem Zx {P:Program} {T:Nat} {k1 k2 k3:IntKind} {A:Prop} [h:Fw P T k1 k2 k3] (k:A):KV P T k1 k2 k3 A:=⟨h,k⟩
theorem Zy {P:Program} {T:Nat} {k1 k2:IntKind} {A:Prop} [h:Fv P T k1 k2] (k:A):KU P T k1 k2 A:=⟨h,k⟩
theorem Zz {P:Program} {T:Nat} {A:Prop} [h:IM P T] (k:A):KW P T A:=⟨h,k⟩
theorem aA {P:Program} {T:Nat} {zs:List Value} {pl:List (Nat × Nat)} {F:List AV → List (Nat × Nat) → Prop} [h:J8 P T zs] [h2:P2 P T pl] (k:F (zs.map b9) pl):HI P T F:=⟨⟨zs,pl,h,h2,k⟩⟩
theorem ee {P:Program} {T e sz bs:Nat} {z:List Value} {F:Nat → Nat → Nat → List AV → Prop} [h:N0 P T e sz] [h2:J8 P e z] [h3:O4 P e bs] (hz:z.length = sz) (k:F e sz bs (z.map b9)):EE P T F:=⟨⟨e,sz,bs,z,h,h2,h3,hz,k⟩⟩
theorem ef {P:Program} {T k e:Nat} {t:TypeDesc} {z:Value} {F:TypeDesc → AV → Prop} [h:Ed P T k e t z] (kk:F t (b9 z)):Sp P T F:=⟨⟨k,e,t,z,h,kk⟩⟩
theorem Sq {P:Program} {S T e sz:Nat} {l:List UInt8} {F:AV → Prop} [X6 P S] [N0 P T e sz] [S3 P e .u8] (h:l.length ≤ 9223372036854775807) (k:F (.sl 1 (l.map fun b=>[.v (.int .u8 b.toNat)]))):Aj P S T (.str l) F:=⟨⟨_, .bytes (e:=e) (sz:=sz) l h,k⟩⟩
theorem Uf {P:Program} {S T e sz:Nat} {l:List UInt8} {F:AV → Prop} [N0 P S e sz] [S3 P e .u8] [X6 P T] (k:F (.str l)):Aj P S T (.sl 1 (l.map fun b=>[.v (.int .u8 b.toNat)])) F:=⟨_, .back (e:=e) (sz:=sz) l,k⟩
theorem aB {P:Program} {S T:Nat} {k k':IntKind} {m:Int} {F:AV → Prop} [S3 P T k] [S3 P S k'] (h:k.wrap m = m) (kk:F (.v (.int k m))):Aj P S T (.v (.int k' m)) F:=⟨⟨_, .int (k:=k) m,by rw [h];exact kk⟩⟩
theorem Wf {P:Program} {S T:Nat} {k k':IntKind} {m:Int} {F:AV → Prop} [S3 P T k] [S3 P S k'] (kk:F (.v (.int k (k.wrap m)))):Aj P S T (.v (.int k' m)) F:=⟨⟨_, .int (k:=k) m,kk⟩⟩
theorem Ug {P:Program} {S T:Nat} {k:IntKind} {m:Int} {F:AV → Prop} [S3 P S k] [X6 P T] (kk:F (.str (Utf8.encode m).data.toList)):Aj P S T (.v (.int k m)) F:=⟨⟨_, .rune (k:=k) m,kk⟩⟩
theorem cond_false {c:Bool} {A:Prop} (h:cond c A False):c = true ∧ A:=by
 cases c
 ·exact h.elim
 ·exact ⟨rfl,h⟩
def Sr:Value → Bool
 | .agg _ | .tuple _=>false
 | _=>true
theorem HJ {v:Value} (h:Sr v = true):v.oneCell' = true:=by cases v <;> first | rfl | cases h
def OU (hp:Hp) (a:AV) (A:Prop):Prop :=
 match a with
 | .v x=>cond (Sr x) A False
 | .str _ | .sl _ _ | .iptr _ | .ref _ _ | .mp _ | .fn _ _ | .fo _ _=>A
 | .row i ver _=>match B4 hp i with
   | some (.row _ _ v' _)=>H9 (ver = v') A
   | _=>False
 | _=>False
theorem HK {hp:Hp} {a:AV} {A:Prop} (h:OU hp a A):One hp a ∧ A:=by
 unfold OU at h
 split at h
 ·rename_i x
  obtain ⟨h1,h2⟩:=cond_false h
  exact ⟨One.v (HJ h1),h2⟩
 ·exact ⟨.str _,h⟩
 ·exact ⟨.sl _ _,h⟩
 ·exact ⟨.iptr _,h⟩
 ·exact ⟨.ref _ _,h⟩
 ·exact ⟨.mp _,h⟩
 ·exact ⟨.fn _ _,h⟩
 ·exact ⟨.fo _ _,h⟩
 ·split at h
  ·rename_i hl
   obtain ⟨rfl,h⟩:=h
   exact ⟨.row hl,h⟩
  ·exact h.elim
 ·exact h.elim
def Ss (hp:Hp):List AV → Prop → Prop
 | [],A=>A
 | x :: r,A=>OU hp x (Ss hp r A)
theorem KY {hp:Hp}:∀ {l:List AV} {A:Prop},Ss hp l A → Bo hp l ∧ A
 | [],A,h=>⟨trivial,h⟩
 | x :: r,A,h=>by
   obtain ⟨h1,h2⟩:=HK h
   obtain ⟨h3,h4⟩:=KY h2
   exact ⟨⟨h1,h3⟩,h4⟩
def OV (hp:Hp) (a:AV) (A:Prop):Prop :=
 match a with
 | .agg _=>A
 | a=>OU hp a A
theorem HL {hp:Hp} {a:AV} {A:Prop} (h:OV hp a A):Fits hp a ∧ A:=by
 unfold OV at h
 split at h
 ·exact ⟨trivial,h⟩
 ·rename_i hn
  obtain ⟨h1,h2⟩:=HK h
  refine ⟨?_,h2⟩
  cases a <;> first | exact h1 | exact trivial
def DJ (hp:Hp):List (Nat × AV) → Prop → Prop
 | [],A=>A
 | (_,a) :: r,A=>OV hp a (DJ hp r A)
theorem j4 {hp:Hp}:∀ {l:List (Nat × AV)} {A:Prop},DJ hp l A → Cv hp l ∧ A
 | [],A,h=>⟨trivial,h⟩
 | (_,x) :: r,A,h=>by
   obtain ⟨h1,h2⟩:=HL h
   obtain ⟨h3,h4⟩:=j4 h2
   exact ⟨⟨h1,h3⟩,h4⟩
def cR (a:AV) (A:Prop):Prop :=
 match a with
 | .v x=>cond (Sr x) A False
 | .str _ | .sl _ _ | .iptr _ | .fn _ _=>A
 | _=>False
theorem Wg {a:AV} {A:Prop} (h:cR a A):X7 a ∧ A:=by
 unfold cR at h
 split at h
 ·obtain ⟨h1,h2⟩:=cond_false h
  exact ⟨HJ h1,h2⟩
 ·exact ⟨trivial,h⟩
 ·exact ⟨trivial,h⟩
 ·exact ⟨trivial,h⟩
 ·exact ⟨trivial,h⟩
 ·exact h.elim
def Wh:List AV → Prop → Prop
 | [],A=>A
 | x :: r,A=>cR x (Wh r A)
def KZ:List (List AV) → Prop → Prop
 | [],A=>A
 | x :: r,A=>Wh x (KZ r A)
theorem Mj:∀ {l:List AV} {A:Prop},Wh l A → (∀ u ∈ l,X7 u) ∧ A
 | [],A,h=>⟨fun u hu=>by (cases hu),h⟩
 | x :: r,A,h=>by
   obtain ⟨h1,h2⟩:=Wg h
   obtain ⟨h3,h4⟩:=Mj h2
   refine ⟨fun u hu=>?_,h4⟩
   rcases List.mem_cons.1 hu with rfl | hu
   ·exact h1
   ·exact h3 u hu
theorem Df:∀ {l:List (List AV)} {A:Prop},KZ l A → BM l ∧ A
 | [],A,h=>⟨trivial,h⟩
 | x :: r,A,h=>by
   obtain ⟨h1,h2⟩:=Mj h
   obtain ⟨h3,h4⟩:=Df h2
   exact ⟨⟨h1,h3⟩,h4⟩
def W3 (x:Option AV) (F:AV → Prop):Prop :=
 match x with
 | some a=>F a
 | none=>False
theorem K5 {x:Option AV} {F:AV → Prop} (h:W3 x F):∃ a,x = some a ∧ F a:=by
 unfold W3 at h
 split at h
 ·exact ⟨_,rfl,h⟩
 ·exact h.elim
def OW (op:BinOp) (k:IntKind) (a b:Int) (F:AV → Prop):Prop :=
 match op,k with
 | .add, .i64=>H9 (-9223372036854775808 ≤ a + b ∧ a + b ≤ 9223372036854775807) (F (.v (.int .i64 (a + b))))
 | .sub, .i64=>H9 (-9223372036854775808 ≤ a - b ∧ a - b ≤ 9223372036854775807) (F (.v (.int .i64 (a - b))))
 | .mul, .i64=>H9 (-9223372036854775808 ≤ a * b ∧ a * b ≤ 9223372036854775807) (F (.v (.int .i64 (a * b))))
 | .quo, .i64=>H9 (b ≠ 0 ∧ -9223372036854775808 ≤ a.tdiv b ∧ a.tdiv b ≤ 9223372036854775807) (F (.v (.int .i64 (a.tdiv b))))
 | .quo,k=>H9 (b ≠ 0) (F (.v (.int k (k.wrap (a.tdiv b)))))
 | .rem,k=>H9 (b ≠ 0) (F (.v (.int k (a.tmod b))))
 | op,k=>match Bm op k a b with
   | some r=>F (.v r)
   | none=>False
def Wi (op:BinOp) (a b:List UInt8) (F:AV → Prop):Prop :=
 match op with
 | .add=>H9 (a.length + b.length ≤ 9223372036854775807) (F (.str (a ++ b)))
 | op=>match Sd op a b with
   | some r=>F (.v r)
   | none=>False
def Su (P:Program) (T:Nat) (op:BinOp) (a b:Bool) (F:AV → Prop):Prop :=
 match op with
 | .eql=>KW P T (F (.v (.bool (decide (a = b)))))
 | .neq=>KW P T (F (.v (.bool (decide (a ≠ b)))))
 | _=>False
def GF (P:Program) (T:Nat) (op:BinOp) (l m:List AV) (F:AV → Prop):Prop :=
 match op,l,m with
 | .eql,[.v (.int k1 a1), .v (.int k2 a2)],[.v (.int k3 b1), .v (.int k4 b2)]=>cond (decide (k1 = k3 ∧ k2 = k4)) (KU P T k1 k2 (F (.v (.bool (decide (a1 = b1 ∧ a2 = b2)))))) False
 | .neq,[.v (.int k1 a1), .v (.int k2 a2)],[.v (.int k3 b1), .v (.int k4 b2)]=>cond (decide (k1 = k3 ∧ k2 = k4)) (KU P T k1 k2 (F (.v (.bool (!decide (a1 = b1 ∧ a2 = b2)))))) False
 | .eql,[.v (.int k1 a1), .v (.int k2 a2), .v (.int k3 a3)],[.v (.int l1 b1), .v (.int l2 b2), .v (.int l3 b3)]=>cond (decide (k1 = l1 ∧ k2 = l2 ∧ k3 = l3)) (KV P T k1 k2 k3 (F (.v (.bool (decide (a1 = b1 ∧ a2 = b2 ∧ a3 = b3)))))) False
 | .neq,[.v (.int k1 a1), .v (.int k2 a2), .v (.int k3 a3)],[.v (.int l1 b1), .v (.int l2 b2), .v (.int l3 b3)]=>cond (decide (k1 = l1 ∧ k2 = l2 ∧ k3 = l3)) (KV P T k1 k2 k3 (F (.v (.bool (!decide (a1 = b1 ∧ a2 = b2 ∧ a3 = b3)))))) False
 | _,_,_=>False
def Ka:Operand → Bool
 | .const .nilIface=>true
 | _=>false
def OX (P:Program) (T:Nat) (op:BinOp) (x:Option AV) (F:AV → Prop):Prop :=
 match op,x with
 | .eql,some .err=>FT P T (F (.v (.bool false)))
 | .neq,some .err=>FT P T (F (.v (.bool true)))
 | .eql,some (.v .nilIface)=>FT P T (F (.v (.bool true)))
 | .neq,some (.v .nilIface)=>FT P T (F (.v (.bool false)))
 | _,_=>False
def OY (P:Program) (T:Nat) (op:BinOp) (x y:Option AV) (F:AV → Prop):Prop :=
 match op,x,y with
 | .shl,some (.v (.int k a)),some (.v (.int _ b))=>H9 (0 ≤ b) (F (.v (.int k (k.wrap (a * 2 ^ (min b.toNat k.bits))))))
 | .shr,some (.v (.int k a)),some (.v (.int _ b))=>H9 (0 ≤ b) (F (.v (.int k (a.fdiv (2 ^ (min b.toNat k.bits))))))
 | op,some (.v (.int k a)),some (.v (.int k' b))=>cond (decide (k = k')) (OW op k a b F) False
 | op,some (.str s),some (.str t)=>Wi op s t F
 | op,some (.v (.bool a)),some (.v (.bool b))=>Su P T op a b F
 | op,some (.agg l),some (.agg m)=>GF P T op l m F
 | _,_,_=>False
def Kb (P:Program) (T:Nat) (hp:Hp) (x:Option AV) (F:AV → Prop):Prop :=
 match x with
 | some (.ref i off)=>match B4 hp i with
   | some (.bx τ l)=>JZ P T fun ag sz=>cond ag
     (cond (Nat.beq off 0 && Nat.beq l.length sz) (F (.agg l)) (H9 (((l.drop off).take sz).length = sz) (F (.agg ((l.drop off).take sz)))))
     (W3 (l[off]?) F)
   | _=>False
 | some (.iptr l)=>JZ P T fun ag sz=>cond ag
   (cond (Nat.beq l.length sz) (F (.agg l)) (H9 ((l.take sz).length = sz) (F (.agg (l.take sz)))))
   (match l with | av :: _=>F av | []=>False)
 | some (.elt i ver k off)=>match B4 hp i with
   | some (.row _ sz ver' l)=>H9 (ver = ver') (R0 l (k:Int) fun el=>JZ P T fun ag szT=>cond ag
     (cond (Nat.beq off 0 && Nat.beq szT sz) (F (.agg el)) False) (W3 (el[off]?) F))
   | _=>False
 | _=>False
def OZ (hp:Hp) (off:Nat) (x:Option AV) (F:AV → Prop):Prop :=
 match x with
 | some (.ref i o)=>F (.ref i (o + off))
 | some (.iptr l)=>F (.iptr (l.drop off))
 | some (.elt i ver k o)=>match B4 hp i with
   | some (.row _ _ ver' _)=>H9 (ver = ver') (F (.elt i ver k (o + off)))
   | _=>False
 | _=>False
def HM (P:Program) (T:Nat) (hp:Hp) (x y:Option AV) (F:AV → Prop):Prop :=
 match x,y with
 | some (.sl sz l),some (.v (.int _ i))=>Gx P T fun _ sz'=>cond (Nat.beq sz sz') (R0 l i fun el=>F (.iptr el)) False
 | some (.row r ver len),some (.v (.int _ i))=>match B4 hp r with
   | some (.row _ sz ver' _)=>H9 (ver = ver') (Gx P T fun _ sz'=>cond (Nat.beq sz sz') (H9 (0 ≤ i ∧ i < len) (F (.elt r ver i.toNat 0))) False)
   | _=>False
 | some (.ref r o),some (.v (.int _ i))=>We P T fun len sz=>H9 (0 ≤ i ∧ i < len) (F (.ref r (o + i.toNat * sz)))
 | _,_=>False
def Wj (hp:Hp) (x:Option AV) (F:AV → Prop):Prop :=
 match x with
 | some (.ref i o)=>F (.ref i o)
 | some (.iptr l)=>F (.iptr l)
 | some (.elt i ver k o)=>match B4 hp i with
   | some (.row _ _ ver' _)=>H9 (ver = ver') (F (.elt i ver k o))
   | _=>False
 | _=>False
def GG (P:Program) (T:Nat) (hp:Hp) (x:Option AV) (F:AV → Prop):Prop :=
 match x with
 | some (.sl _ l)=>Gx P T fun _ _=>Le l fun m=>F (.i m)
 | some (.str s)=>Cy P T (F (.i s.length))
 | some (.row r ver len)=>match B4 hp r with
   | some (.row _ _ ver' _)=>H9 (ver = ver') (Gx P T fun _ _=>F (.i len))
   | _=>False
 | some (.v (.slice none 0 0))=>Gx P T fun _ _=>F (.i 0)
 | _=>False
def Ns (P:Program) (f:Nat) (hp:Hp) (l caps:List AV) (F:AV → Prop):Prop:=cond (K9 l) (Nr P f (l ++ caps) F) (eW P f hp l caps F)
def Kc (P:Program) (T:Nat) (ev:Operand → Option AV) (x:Option AV) (lo hi:Option Operand) (F:AV → Prop):Prop :=
 match x with
 | some (.str s)=>Cy P T (match At ev 0 lo,At ev s.length hi with
   | some l,some h=>H9 (0 ≤ l ∧ l ≤ h ∧ h ≤ s.length) (F (.str ((s.take h.toNat).drop l.toNat)))
   | _,_=>False)
 | some (.sl sz s)=>Gx P T fun _ sz'=>cond (Nat.beq sz sz') (match At ev 0 lo,At ev s.length hi with
   | some l,some h=>H9 (0 ≤ l ∧ l ≤ h ∧ h ≤ s.length) (F (.sl sz ((s.take h.toNat).drop l.toNat)))
   | _,_=>False) False
 | _=>False
def Lg (P:Program) (T:Nat) (hp:Hp) (ok:Bool) (x y:Option AV) (F:AV → Prop):Prop :=
 match x,y with
 | some (.mp i),some kav=>match B4 hp i,keyOf kav with
   | some (.map m),some k=>Sp P T fun t z=>cond (Dd t k) (H9 (Be t m) (cond ok (cK (.tup [Bq m k z, .b (Cb m k).isSome]) F) (cK (Bq m k z) F))) False
   | _,_=>False
 | _,_=>False
def Eh (P:Program) (op:Op) (ev:Operand → Option AV) (hp:Hp) (F:AV → Prop):Prop :=
 match op with
 | .move x=>W3 (ev x) F
 | .assign x=>W3 (ev x) F
 | .pick c a b=>match ev c with
   | some (.v (.bool t))=>BH t (W3 (ev a) F) (W3 (ev b) F)
   | _=>False
 | .binOp op T x y _=>cond (Ka y) (OX P T op (ev x) F) (OY P T op (ev x) (ev y) F)
 | .unOp .not _ x=>match ev x with
   | some (.v (.bool b))=>F (.v (.bool (!b)))
   | _=>False
 | .unOp .neg _ x=>match ev x with
   | some (.v (.int .i64 a))=>H9 (-9223372036854775807 ≤ a ∧ a ≤ 9223372036854775807) (F (.v (.int .i64 (-a))))
   | _=>False
 | .load T x=>Kb P T hp (ev x) F
 | .fieldAddr S x f=>Lf P S f fun off sz=>cond (Nat.blt 0 sz) (OZ hp off (ev x) F) False
 | .indexAddr T x y=>HM P T hp (ev x) (ev y) F
 | .index T x y=>match ev x,ev y with
   | some (.str s),some (.v (.int _ i))=>Cy P T (R0 s i fun b=>F (.v (.int .u8 b.toNat)))
   | _,_=>False
 | .nilCheck x=>Wj hp (ev x) F
 | .convert S T x=>W3 (ev x) fun a=>Aj P S T a F
 | .call ⟨.builtin .len,⟨[x]⟩,⟨[T]⟩⟩=>GG P T hp (ev x) F
 | .call ⟨.builtin .min,⟨[x,y]⟩,⟨[_,_]⟩⟩=>match ev x,ev y with
   | some (.v (.int k a)),some (.v (.int k' b))=>cond (decide (k = k')) (F (.v (.int k (min a b)))) False
   | _,_=>False
 | .call ⟨.builtin .max,⟨[x,y]⟩,⟨[_,_]⟩⟩=>match ev x,ev y with
   | some (.v (.int k a)),some (.v (.int k' b))=>cond (decide (k = k')) (F (.v (.int k (max a b)))) False
   | _,_=>False
 | .call ⟨.value (.func f),⟨args⟩,_⟩=>match c8 ev args with
   | some l=>Ns P f hp l [] F
   | none=>False
 | .call ⟨.value (.tmp t),⟨args⟩,_⟩=>match ev (.tmp t),c8 ev args with
   | some (.fn f caps),some l=>Ns P f hp l caps F
   | _,_=>False
 | .build T ⟨parts⟩=>match Az ev parts with
   | some ps=>HI P T fun zs pl=>DJ hp ps (W3 ((BG pl zs ps).map AV.agg) F)
   | none=>False
 | .buildSlice T len ⟨parts⟩=>match Az ev parts with
   | some ps=>EE P T fun _ sz _ _=>cond (Bp 0 ps && n6 sz (R5 ps) && Nat.beq ps.length len && Nat.blt 0 sz) (H9 (len * sz ≤ 16777216) (DJ hp ps (KZ (R5 ps) (F (.sl sz (R5 ps)))))) False
   | none=>False
 | .lookup T x y ok=>Lg P T hp ok (ev x) (ev y) F
 | .slice T x lo hi none=>Kc P T ev (ev x) lo hi F
 | .extract x k=>match ev x with
   | some (.tup l)=>W3 (l[k]?) F
   | _=>False
 | .makeFunc (.func f) ⟨[]⟩ ⟨xs⟩=>match c8 ev xs with
   | some caps=>cond (K9 caps) (F (.fn f caps)) False
   | none=>False
 | _=>False
section sound
variable {P:Program} {E:Env} {nx:Nat} {hp:Hp} {ev:Operand → Option AV} {ty:TypeId} {x y:Operand} {F:AV → Prop} {T T2:TypeId}
theorem cS {op:BinOp} (h:OY P T op (ev x) (ev y) F):∃ av,I1 P E nx hp ev (.binOp op T x y T2) ty av ∧ F av:=by
 unfold OY at h
 split at h
 ·rename_i hx hy;exact ⟨_,ZN hx hy h.h,h.k⟩
 ·rename_i hx hy;exact ⟨_,ZO hx hy h.h,h.k⟩
 ·rename_i hx hy
  obtain ⟨hk,hq⟩:=cond_false h
  clear h
  have hk:=of_decide_eq_true hk
  subst hk
  unfold OW at hq
  split at hq
  ·exact ⟨_,DI hx hy (by simp only [Bm,T7 hq.h]),hq.k⟩
  ·exact ⟨_,DI hx hy (by simp only [Bm,T7 hq.h]),hq.k⟩
  ·exact ⟨_,DI hx hy (by simp only [Bm,T7 hq.h]),hq.k⟩
  ·have hq2:=Np (P:=P) (E:=E) (nx:=nx) (hp:=hp) (ty:=ty) (T:=T) (T2:=T2) hx hy hq.h.1
   rw [T7 hq.h.2] at hq2
   exact ⟨_,hq2,hq.k⟩
  ·exact ⟨_,Np hx hy hq.h,hq.k⟩
  ·exact ⟨_,ZM hx hy hq.h,hq.k⟩
  ·split at hq
   ·rename_i hr;exact ⟨_,DI hx hy hr,hq⟩
   ·exact hq.elim
 ·rename_i s t hx hy
  unfold Wi at h
  split at h
  ·exact ⟨_,UT hx hy h.h,h.k⟩
  ·split at h
   ·rename_i hr;exact ⟨_,US hx hy hr,h⟩
   ·exact h.elim
 ·rename_i a b hx hy
  unfold Su at h
  split at h
  ·have:=h.h;exact ⟨_,Nq (T:=T) false hx hy,h.k⟩
  ·have:=h.h;exact ⟨_,Nq (T:=T) true hx hy,h.k⟩
  ·exact h.elim
 ·rename_i l m hx hy
  unfold GF at h
  split at h
  ·obtain ⟨hk,hq⟩:=cond_false h
   obtain ⟨rfl,rfl⟩:=of_decide_eq_true hk
   have:=hq.h;exact ⟨_,Fy (T:=T) false hx hy,hq.k⟩
  ·obtain ⟨hk,hq⟩:=cond_false h
   obtain ⟨rfl,rfl⟩:=of_decide_eq_true hk
   have:=hq.h;exact ⟨_,Fy (T:=T) true hx hy,hq.k⟩
  ·obtain ⟨hk,hq⟩:=cond_false h
   obtain ⟨rfl,rfl,rfl⟩:=of_decide_eq_true hk
   have:=hq.h;exact ⟨_,GA (T:=T) false hx hy,hq.k⟩
  ·obtain ⟨hk,hq⟩:=cond_false h
   obtain ⟨rfl,rfl,rfl⟩:=of_decide_eq_true hk
   have:=hq.h;exact ⟨_,GA (T:=T) true hx hy,hq.k⟩
  ·exact h.elim
 ·exact h.elim
theorem Wk {op:BinOp} (hy:Ka y = true) (h:OX P T op (ev x) F):∃ av,I1 P E nx hp ev (.binOp op T x y T2) ty av ∧ F av:=by
 obtain rfl:y = .const .nilIface:=by
  unfold Ka at hy
  split at hy
  ·rfl
  ·cases hy
 unfold OX at h
 split at h
 ·rename_i hx;have:=h.h;exact ⟨_,OG (T:=T) false hx,h.k⟩
 ·rename_i hx;have:=h.h;exact ⟨_,OG (T:=T) true hx,h.k⟩
 ·rename_i hx;have:=h.h;exact ⟨_,OH (T:=T) false hx,h.k⟩
 ·rename_i hx;have:=h.h;exact ⟨_,OH (T:=T) true hx,h.k⟩
 ·exact h.elim
theorem aC (h:Kb P T hp (ev x) F):∃ av,I1 P E nx hp ev (.load T x) ty av ∧ F av:=by
 unfold Kb at h
 split at h
 ·rename_i i off hx
  split at h
  ·rename_i l hb
   obtain ⟨⟨ag,sz,tv,h⟩⟩:=h
   cases ag with
   | true =>
     change cond (Nat.beq off 0 && Nat.beq l.length sz) _ _ at h
     cases hc:(Nat.beq off 0 && Nat.beq l.length sz) with
     | true =>
       rw [hc] at h
       simp only [Bool.and_eq_true,Nat.beq_eq] at hc
       obtain ⟨rfl,hs⟩:=hc
       exact ⟨_,Sf (sz:=sz) hx hb hs,h⟩
     | false =>
       rw [hc] at h
       exact ⟨_,FQ (sz:=sz) hx hb rfl h.h,h.k⟩
   | false =>
     obtain ⟨av,hl,h⟩:=K5 h
     exact ⟨_,Se (sz:=sz) hx hb hl,h⟩
  ·exact h.elim
 ·rename_i l hx
  obtain ⟨⟨ag,sz,tv,h⟩⟩:=h
  cases ag with
  | true =>
    change cond (Nat.beq l.length sz) _ _ at h
    cases hc:Nat.beq l.length sz with
    | true =>
      rw [hc] at h
      exact ⟨_,AJ (sz:=sz) hx (by rw [← Nat.eq_of_beq_eq_true hc,List.take_length]) (Nat.eq_of_beq_eq_true hc),h⟩
    | false =>
      rw [hc] at h
      exact ⟨_,AJ (sz:=sz) hx rfl h.h,h.k⟩
  | false =>
    cases l with
    | nil=>exact h.elim
    | cons av r=>exact ⟨_,Ir (sz:=sz) hx,h⟩
 ·rename_i i ver k off hx
  split at h
  ·rename_i e sz ver' l hb
   obtain ⟨rfl,hq⟩:=h
   obtain ⟨h0,h1,hk⟩:=hq
   have hlt:k < l.length:=by omega
   have hel:l[k]? = some l[k]:=List.getElem?_eq_getElem hlt
   obtain ⟨⟨ag,szT,tv,h⟩⟩:=hk l[k] (by rw [Int.toNat_natCast];exact hel)
   cases ag with
   | true =>
     obtain ⟨hc,h2⟩:=cond_false h
     simp only [Bool.and_eq_true,Nat.beq_eq] at hc
     obtain ⟨rfl,hs⟩:=hc
     exact ⟨_,LY hx hb hel hs,h2⟩
   | false =>
     obtain ⟨av,hl,h⟩:=K5 h
     exact ⟨_,Sg (szT:=szT) hx hb hel hl,h⟩
  ·exact h.elim
 ·exact h.elim
theorem Wl {S f off sz:Nat} [tf:I5 P S f off sz] (hz:Nat.blt 0 sz = true) (h:OZ hp off (ev x) F):∃ av,I1 P E nx hp ev (.fieldAddr S x f) ty av ∧ F av:=by
 unfold OZ at h
 split at h
 ·rename_i hx;exact ⟨_,Is (off:=off) (sz:=sz) hx hz,h⟩
 ·rename_i hx;exact ⟨_,HB (off:=off) (sz:=sz) hx hz,h⟩
 ·rename_i hx
  split at h
  ·rename_i hb
   obtain ⟨rfl,h⟩:=h
   exact ⟨_,Qg (off:=off) (sz:=sz) hx hb hz,h⟩
  ·exact h.elim
 ·exact h.elim
theorem Wm (h:HM P T hp (ev x) (ev y) F):∃ av,I1 P E nx hp ev (.indexAddr T x y) ty av ∧ F av:=by
 unfold HM at h
 split at h
 ·rename_i hx hy
  obtain ⟨⟨e,sz',ts,h⟩⟩:=h
  obtain ⟨hz,hq⟩:=cond_false h
  clear h
  have:=Nat.eq_of_beq_eq_true hz
  subst this
  obtain ⟨h0,h1,hk⟩:=hq
  rename_i sz l kk i
  have hlt:i.toNat < l.length:=by omega
  have hel:l[i.toNat]? = some l[i.toNat]:=List.getElem?_eq_getElem hlt
  exact ⟨_,KG (e:=e) hx hy h0 hel,hk _ hel⟩
 ·rename_i hx hy
  split at h
  ·rename_i hb
   obtain ⟨rfl,h⟩:=h
   obtain ⟨⟨e,sz',ts,h⟩⟩:=h
   obtain ⟨hz,hq⟩:=cond_false h
   clear h
   have:=Nat.eq_of_beq_eq_true hz
   subst this
   exact ⟨_,Qh (e:=e) hx hb hy hq.h.1 hq.h.2,hq.k⟩
  ·exact h.elim
 ·rename_i hx hy
  obtain ⟨⟨len,e,sz,ta,h⟩⟩:=h
  exact ⟨_,Qi (e:=e) (sz:=sz) hx hy h.h.1 h.h.2,h.k⟩
 ·exact h.elim
theorem cT (h:Wj hp (ev x) F):∃ av,I1 P E nx hp ev (.nilCheck x) ty av ∧ F av:=by
 unfold Wj at h
 split at h
 ·rename_i hx;exact ⟨_,UX hx,h⟩
 ·rename_i hx;exact ⟨_,Si hx,h⟩
 ·rename_i hx
  split at h
  ·rename_i hb
   obtain ⟨rfl,h⟩:=h
   exact ⟨_,UY hx hb,h⟩
  ·exact h.elim
 ·exact h.elim
theorem cU (h:GG P T hp (ev x) F):∃ av,I1 P E nx hp ev (.call ⟨.builtin .len, #[x], #[T]⟩) ty av ∧ F av:=by
 unfold GG at h
 split at h
 ·rename_i hx
  obtain ⟨⟨e,sz,ts,h⟩⟩:=h
  exact ⟨_,OI (e:=e) (sz:=sz) hx,h.k⟩
 ·rename_i hx
  obtain ⟨ts,h⟩:=h
  exact ⟨_,Md hx,h⟩
 ·rename_i hx
  split at h
  ·rename_i hb
   obtain ⟨rfl,h⟩:=h
   obtain ⟨⟨e,sz,ts,h⟩⟩:=h
   exact ⟨_,UV (e:=e) (sz:=sz) hx hb,h⟩
  ·exact h.elim
 ·rename_i hx
  obtain ⟨⟨e,sz,ts,h⟩⟩:=h
  exact ⟨_,Me (e:=e) (sz:=sz) hx,h⟩
 ·exact h.elim
theorem Wn {lo hi:Option Operand} (h:Kc P T ev (ev x) lo hi F):∃ av,I1 P E nx hp ev (.slice T x lo hi none) ty av ∧ F av:=by
 unfold Kc at h
 split at h
 ·rename_i hx
  obtain ⟨ts,h⟩:=h
  split at h
  ·rename_i hl hh;exact ⟨_,Iy hx hl hh h.h.1 h.h.2.1 h.h.2.2,h.k⟩
  ·exact h.elim
 ·rename_i hx
  obtain ⟨⟨e,sz',ts,h⟩⟩:=h
  obtain ⟨hz,hq⟩:=cond_false h
  clear h
  have:=Nat.eq_of_beq_eq_true hz
  subst this
  split at hq
  ·rename_i hl hh;exact ⟨_,Sm (e:=e) hx hl hh hq.h.1 hq.h.2.1 hq.h.2.2,hq.k⟩
  ·exact hq.elim
 ·exact h.elim
theorem Uh {ok:Bool} (h:Lg P T hp ok (ev x) (ev y) F):∃ av,I1 P E nx hp ev (.lookup T x y ok) ty av ∧ F av:=by
 unfold Lg at h
 split at h
 ·rename_i hx hy
  split at h
  ·rename_i hb hk
   obtain ⟨⟨k,e,t,z,tm,h⟩⟩:=h
   obtain ⟨hkb,hq⟩:=cond_false h
   cases ok with
   | true=>exact ⟨_,Ql (T:=T) hx hb hy hk hkb hq.h,hq.k.h⟩
   | false=>exact ⟨_,Wd (T:=T) hx hb hy hk hkb hq.h,hq.k.h⟩
  ·exact h.elim
 ·exact h.elim
theorem ZR {op:Op} (h:Eh P op ev hp F):∃ av,I1 P E nx hp ev op ty av ∧ F av:=by
 unfold Eh at h
 split at h
 ·obtain ⟨a,hx,h⟩:=K5 h;exact ⟨a,UR hx,h⟩
 ·obtain ⟨a,hx,h⟩:=K5 h;exact ⟨a,OC hx,h⟩
 ·split at h
  ·rename_i t hc
   obtain ⟨h1,h2⟩:=h
   cases t with
   | true=>obtain ⟨a,hx,h⟩:=K5 (h1 rfl);exact ⟨a,WV hc hx,h⟩
   | false=>obtain ⟨a,hx,h⟩:=K5 (h2 rfl);exact ⟨a,WW hc hx,h⟩
  ·exact h.elim
 ·rename_i y _
  cases hn:Ka y with
  | true=>rw [hn] at h;exact Wk hn h
  | false=>rw [hn] at h;exact cS h
 ·split at h
  ·rename_i hx;exact ⟨_,ZP hx,h⟩
  ·exact h.elim
 ·split at h
  ·rename_i a hx
   have h1:=h.h
   refine ⟨_,eR hx,?_⟩
   rw [T7 (by omega)]
   exact h.k
  ·exact h.elim
 ·exact aC h
 ·obtain ⟨⟨off,sz,tf,h⟩⟩:=h
  obtain ⟨hz,h⟩:=cond_false h
  exact Wl (off:=off) (sz:=sz) hz h
 ·exact Wm h
 ·split at h
  ·rename_i s k i hx hy
   obtain ⟨ts,h0,h1,hk⟩:=h
   have hlt:i.toNat < s.length:=by omega
   have hel:s[i.toNat]? = some s[i.toNat]:=List.getElem?_eq_getElem hlt
   exact ⟨_,It hx hy h0 hel,hk _ hel⟩
  ·exact h.elim
 ·exact cT h
 ·obtain ⟨a,hx,h⟩:=K5 h
  obtain ⟨⟨r,hr,h⟩⟩:=h
  cases hr with
  | bytes l hl=>rename_i e sz _ _ _;exact ⟨_,Iu (e:=e) (sz:=sz) hx hl,h⟩
  | back l=>rename_i e sz _ _ _;exact ⟨_,Iv (e:=e) (sz:=sz) hx,h⟩
  | int m=>exact ⟨_,KI hx,h⟩
  | rune m=>exact ⟨_,Iw hx,h⟩
 ·exact cU h
 ·split at h
  ·rename_i hx hy
   obtain ⟨hk,h2⟩:=cond_false h
   have:=of_decide_eq_true hk
   subst this
   exact ⟨_,eS hx hy,h2⟩
  ·exact h.elim
 ·split at h
  ·rename_i hx hy
   obtain ⟨hk,h2⟩:=cond_false h
   have:=of_decide_eq_true hk
   subst this
   exact ⟨_,eT hx hy,h2⟩
  ·exact h.elim
 ·split at h
  ·rename_i l hl
   unfold Ns at h
   cases hc:K9 l with
   | true =>
     rw [hc] at h
     obtain ⟨⟨r,hr,h⟩⟩:=h
     rw [List.append_nil] at hr
     exact ⟨_,OK hr hl hc,h⟩
   | false =>
     rw [hc] at h
     obtain ⟨⟨is,L,r,hL,hcl,hr,hfl,h⟩⟩:=h
     exact ⟨_,Ud is hr hl hL hcl hfl fun _ _ _ _=>⟨[],rfl,rfl,fun j x c hx=>by simp at hx⟩,h⟩
  ·exact h.elim
 ·split at h
  ·rename_i f caps l hg hl
   unfold Ns at h
   cases hc:K9 l with
   | true =>
     rw [hc] at h
     obtain ⟨⟨r,hr,h⟩⟩:=h
     exact ⟨_,Zr hg hr hl hc,h⟩
   | false =>
     rw [hc] at h
     obtain ⟨⟨is,L,r,hL,hcl,hr,hfl,h⟩⟩:=h
     refine ⟨_,Ud is hr hl hL hcl hfl fun θ a w h=>?_,h⟩
     have:=(h.rel hg)
     generalize a.eval _ = v at this
     cases this with
     | im hi=>cases hi with | fn f l cs hl hc=>exact ⟨cs,rfl,hl,hc⟩
  ·exact h.elim
 ·split at h
  ·rename_i ps hps
   obtain ⟨⟨zs,pl,tz,tp,h⟩⟩:=h
   obtain ⟨hf,h⟩:=j4 h
   obtain ⟨a,ha,h⟩:=K5 h
   rw [Option.map_eq_some_iff] at ha
   obtain ⟨l,hl,rfl⟩:=ha
   exact ⟨_,RV (T:=_) hps hf hl,h⟩
  ·exact h.elim
 ·split at h
  ·rename_i ps hps
   obtain ⟨⟨e,sz,bs,z,ts,tz,tb,hz,h⟩⟩:=h
   obtain ⟨hc,h⟩:=cond_false h
   simp only [Bool.and_eq_true,Nat.beq_eq,Nat.blt_eq] at hc
   obtain ⟨hs,h⟩:=h
   obtain ⟨hf,h⟩:=j4 h
   obtain ⟨hi,h⟩:=Df h
   exact ⟨_,HF (e:=e) (z:=z) hps hf hc.1.1.1 hc.1.1.2 hc.1.2 hz hs hc.2 hi,h⟩
  ·exact h.elim
 ·exact Uh h
 ·exact Wn h
 ·split at h
  ·rename_i hx
   obtain ⟨a,ha,h⟩:=K5 h
   exact ⟨a,Mh hx ha,h⟩
  ·exact h.elim
 ·split at h
  ·rename_i caps hc
   obtain ⟨hcl,h⟩:=cond_false h
   exact ⟨_,Sl hc hcl,h⟩
  ·exact h.elim
 ·exact h.elim
end sound
def Rd (a:AV):Prop:=∃ U w v,Im U w a v
theorem Rd.sl {sz:Nat} {l:List (List AV)} (h:Rd (.sl sz l)):l.length ≤ 9223372036854775807:=by
 obtain ⟨U,w,v,h⟩:=h
 cases h with
 | slnil=>simp
 | sl sz l a cap f hcap hm hu hsz hc h=>unfold maxLen at hm;omega
theorem Rd.agg {l:List AV} (h:Rd (.agg l)):∀ x ∈ l,Rd x:=by
 obtain ⟨U,w,v,h⟩:=h
 cases h with
 | agg l cs hl h =>
   intro x hx
   obtain ⟨j,hj,rfl⟩:=List.getElem_of_mem hx
   have h2:j < cs.length:=by omega
   exact ⟨U,w,_,h j _ _ (List.getElem?_eq_getElem hj) (List.getElem?_eq_getElem h2)⟩
theorem Rd.elem {sz:Nat} {l:List (List AV)} (h:Rd (.sl sz l)):∀ e ∈ l,∀ x ∈ e,Rd x:=by
 obtain ⟨U,w,v,h⟩:=h
 cases h with
 | slnil=>intro e he;cases he
 | sl sz l a cap f hcap hm hu hsz hc h =>
   intro e he x hx
   obtain ⟨i,hi,rfl⟩:=List.getElem_of_mem he
   obtain ⟨j,hj,rfl⟩:=List.getElem_of_mem hx
   exact ⟨U,w,_,h i _ (List.getElem?_eq_getElem hi) j _ (List.getElem?_eq_getElem hj)⟩
def Dg:List AV → Nat → List (Nat × AV)
 | [],_=>[]
 | a :: r,k=>(k,a) :: Dg r (k + 1)
theorem GH:∀ (l:List AV) (k s:Nat) (x:AV),look (Dg l k) s = some x → k ≤ s ∧ l[s - k]? = some x
 | [],_,_,_,h=>by cases h
 | a :: r,k,s,x,h=>by
   simp only [Dg,H5] at h
   by_cases e:k = s
   ·subst e;simp at h;subst h;simp
   ·rw [if_neg e] at h
    obtain ⟨h1,h2⟩:=GH r (k + 1) s x h
    refine ⟨by omega,?_⟩
    have:s - k = (s - (k + 1)) + 1:=by omega
    rw [this]
    simpa using h2
def V7 (tmps:Array Value):ResultVar → Sem Value
 | .tmp t=>pure (tmps.getD t undef)
 | .cell a t=>do loadVar t (← asAddr (tmps.getD a undef))
theorem Ja {P:Program} {w:World} {tmps:Array Value}:∀ {rvs:List ResultVar} {vs:List Value},rvs.length = vs.length → (∀ (j:Nat) rv v,rvs[j]? = some rv → vs[j]? = some v → (V7 tmps rv).run P w = .ok v w) → (rvs.mapM (V7 tmps)).run P w = .ok vs w
 | [],[],_,_=>by simp [Sem.run_pure]
 | rv :: r,v :: s,hl,h=>by
   have h1:=h 0 rv v rfl rfl
   have h2:=Ja (rvs:=r) (vs:=s) (by simpa using hl) (fun j rv v hj hv=>h (j + 1) rv v (by simpa using hj) (by simpa using hv))
   simp [List.mapM_cons,Sem.run_bind,h1,h2]
 | [],_ :: _,hl,_=>by simp at hl
 | _ :: _,[],hl,_=>by simp at hl
theorem JA {P:Program} {w:World} {fn:Func} {tmps:Array Value} {rvs:List ResultVar} {vs:List Value} (h:fn.results = rvs.toArray) (hne:rvs.length ≠ 1) (hl:rvs.length = vs.length) (hv:∀ (j:Nat) rv v,rvs[j]? = some rv → vs[j]? = some v → (V7 tmps rv).run P w = .ok v w) :
  (results fn tmps).run P w = .ok (.tuple vs.toArray) w:=by
 have hm:=Ja (P:=P) (w:=w) (tmps:=tmps) hl hv
 have e:results fn tmps = (do let vs ← fn.results.mapM (V7 tmps);pure (if h:vs.size = 1 then vs[0] else .tuple vs)):=by
  unfold results
  congr
 rw [e,h,List.mapM_toArray]
 simp only [Sem.run_bind,map_eq_pure_bind,hm,Sem.run_pure,Result.andThen_ok]
 rw [dif_neg (by simp;omega)]
theorem Oa {P:Program} {w:World} {fn:Func} {tmps:Array Value} {rv:ResultVar} {v:Value} (h:fn.results = [rv].toArray) (hv:(V7 tmps rv).run P w = .ok v w) :
  (results fn tmps).run P w = .ok v w:=by
 have hm:=Ja (P:=P) (w:=w) (tmps:=tmps) (rvs:=[rv]) (vs:=[v]) rfl (fun j rv' v' hj hv'=>by
  cases j with
  | zero=>simp at hj hv';subst hj hv';exact hv
  | succ j=>simp at hj)
 have e:results fn tmps = (do let vs ← fn.results.mapM (V7 tmps);pure (if h:vs.size = 1 then vs[0] else .tuple vs)):=by
  unfold results
  congr
 rw [e,h,List.mapM_toArray]
 simp only [Sem.run_bind,map_eq_pure_bind,hm,Sem.run_pure,Result.andThen_ok]
 rfl
inductive NL:AV → AV → Prop
 | refl (a:AV):NL a a
 | any (a:AV):NL a .any
 | nil (sz:Nat):NL (.v (.slice none 0 0)) (.sl sz [])
 | agg (l m:List AV) (h:l.length = m.length) (hh:∀ (j:Nat) x y,l[j]? = some x → m[j]? = some y → NL x y):NL (.agg l) (.agg m)
 | tup (l m:List AV) (h:l.length = m.length) (hh:∀ (j:Nat) x y,l[j]? = some x → m[j]? = some y → NL x y):NL (.tup l) (.tup m)
 | sl (sz:Nat) (l m:List (List AV)) (h:l.length = m.length) (hl:∀ (i:Nat) e e',l[i]? = some e → m[i]? = some e' → e.length = e'.length) (hh:∀ (i:Nat) e e',l[i]? = some e → m[i]? = some e' → ∀ (j:Nat) x y,e[j]? = some x → e'[j]? = some y → NL x y):NL (.sl sz l) (.sl sz m)
theorem P3 {α β:Type} {l:List α} {m:List β} (h:l.length = m.length) {j:Nat} {y:β} (hy:m[j]? = some y):∃ x,l[j]? = some x:=by
 have:=(List.getElem?_eq_some_iff.1 hy).1
 exact ⟨_,List.getElem?_eq_getElem (by omega)⟩
theorem NL.im {U:Nat → Prop} {w:World} {a b:AV} (h:NL a b):∀ {v:Value},Im U w a v → Im U w b v:=by
 induction h with
 | refl a=>intro v h;exact h
 | any a=>intro v h;exact .any v
 | nil sz=>intro v h;cases h;exact .slnil sz
 | agg l m hl hh ih =>
   intro v h
   cases h with
   | agg l cs hc h =>
     refine .agg m cs (by omega) fun j y c hy hc2=>?_
     obtain ⟨x,hx⟩:=P3 hl hy
     exact ih j x y hx hy (h j x c hx hc2)
 | tup l m hl hh ih =>
   intro v h
   cases h with
   | tup l cs hc h =>
     refine .tup m cs (by omega) fun j y c hy hc2=>?_
     obtain ⟨x,hx⟩:=P3 hl hy
     exact ih j x y hx hy (h j x c hx hc2)
 | sl sz l m hl hlen hh ih =>
   intro v h
   cases h with
   | slnil =>
     have:m = []:=List.eq_nil_of_length_eq_zero (by rw [← hl];rfl)
     subst this
     exact .slnil sz
   | sl sz l a cap f hcap hm hu hsz hc h =>
     rw [hl]
     refine .sl sz m a cap f (by omega) hm (fun hne=>hu (fun e=>hne (List.eq_nil_of_length_eq_zero (by rw [← hl,e];rfl)))) (fun e he=>?_) (fun i hi=>hc i (by omega)) (fun i e' he' j y hy=>?_)
     ·obtain ⟨i,hi,rfl⟩:=List.getElem_of_mem he
      obtain ⟨x,hx⟩:=P3 hl (List.getElem?_eq_getElem hi)
      rw [← hlen i x _ hx (List.getElem?_eq_getElem hi)]
      exact hsz x (List.mem_of_getElem? hx)
     ·obtain ⟨e,he⟩:=P3 hl he'
      obtain ⟨x,hx⟩:=P3 (hlen i e e' he he') hy
      exact ih i e e' he he' j x y hx hy (h i e he j x hx)
theorem Kd {c:Cx} {a b:AV} (h:NL a b):∀ {v:Value},G4 c a v → G4 c b v:=by
 induction h with
 | refl a=>intro v h;exact h
 | any a=>intro v h;exact .any v
 | nil sz=>intro v h;rw [h.val];exact .im (.slnil sz)
 | agg l m hl hh ih =>
   intro v h
   obtain ⟨cs,rfl,hc,hr⟩:=FS h
   refine .agg m cs (by omega) fun j y z hy hz=>?_
   obtain ⟨x,hx⟩:=P3 hl hy
   exact ih j x y hx hy (hr j x z hx hz)
 | tup l m hl hh ih =>
   intro v h
   have:∃ cs:List Value,v = .tuple cs.toArray ∧ l.length = cs.length ∧ ∀ (j:Nat) u z,l[j]? = some u → cs[j]? = some z → G4 c u z:=by
    cases h with
    | im hi=>cases hi with | tup l cs hl hc=>exact ⟨cs,rfl,hl,fun j u z hu hz=>.im (hc j u z hu hz)⟩
    | tup l cs hl hc=>exact ⟨cs,rfl,hl,hc⟩
   obtain ⟨cs,rfl,hc,hr⟩:=this
   refine .tup m cs (by omega) fun j y z hy hz=>?_
   obtain ⟨x,hx⟩:=P3 hl hy
   exact ih j x y hx hy (hr j x z hx hz)
 | sl sz l m hl hlen hh ih =>
   intro v h
   cases h with
   | im hi=>exact .im ((NL.sl sz l m hl hlen hh).im hi)
def Sv (P:Program) (σ:St):ResultVar → AV → Prop
 | .tmp t,a=>∃ a',(look σ.sl t).map (M0 σ.hp []) = some a' ∧ NL a' a
 | .cell t T,a=>∃ i τ l sz,look σ.sl t = some (.ref i 0) ∧ B4 σ.hp i = some (.bx τ l) ∧ J6 P T true sz ∧ l.length = sz ∧ NL (.agg (Br σ.hp [] l)) a
def GI (P:Program) (σ:St):List ResultVar → List AV → Prop
 | [],[]=>True
 | v :: r,a :: s=>Sv P σ v a ∧ GI P σ r s
 | _,_=>False
theorem GI.get {P:Program} {σ:St}:∀ {rvs:List ResultVar} {as:List AV},GI P σ rvs as → rvs.length = as.length ∧ ∀ (j:Nat) rv a,rvs[j]? = some rv → as[j]? = some a → Sv P σ rv a
 | [],[],_=>⟨rfl,fun j rv a h=>by simp at h⟩
 | v :: r,a :: s,h=>by
   obtain ⟨h1,h2⟩:=GI.get h.2
   refine ⟨by simp [h1],fun j rv b hj hb=>?_⟩
   cases j with
   | zero=>simp at hj hb;subst hj hb;exact h.1
   | succ j=>exact h2 j rv b (by simpa using hj) (by simpa using hb)
 | [],_ :: _,h=>h.elim
 | _ :: _,[],h=>h.elim
def cV (P:Program) (rs:Array ResultVar) (r:AV) (σ:St):Prop :=
 (∃ rvs as,rs = rvs.toArray ∧ rvs.length ≠ 1 ∧ GI P σ rvs as ∧ r = .tup as) ∨
 (∃ t,rs = #[.tmp t] ∧ (look σ.sl t).map (M0 σ.hp []) = some r) ∨
 (∃ t sz,rs = #[.tmp t] ∧ look σ.sl t = some (.v (.slice none 0 0)) ∧ r = .sl sz []) ∨
 (∃ t u a b,rs = #[.tmp t, .tmp u] ∧ (look σ.sl t).map (M0 σ.hp []) = some a ∧ (look σ.sl u).map (M0 σ.hp []) = some b ∧ r = .tup [a,b]) ∨
 (∃ t T i τ l,rs = #[.cell t T] ∧ look σ.sl t = some (.ref i 0) ∧ B4 σ.hp i = some (.bx τ l) ∧ r = .agg (Br σ.hp [] l))
def E8 (P:Program) (rs:Array ResultVar) (r:AV):Exit → St → Prop
 | .ret,σ=>cV P rs r σ
 | .normal,σ=>cV P rs r σ
 | _,_=>False
theorem A9 {P:Program} {t:Nat} {r r':AV} {σ:St} (h:(look σ.sl t).map (M0 σ.hp []) = some r') (e:r' = r):E8 P #[.tmp t] r .ret σ:=.inr (.inl ⟨t,rfl,e ▸ h⟩)
theorem Bu {P:Program} {rs:List ResultVar} {vs:List AV} {r:AV} {σ:St} (hn:(Nat.beq rs.length 1) = false) (h:GI P σ rs vs) (e:.tup vs = r):E8 P rs.toArray r .ret σ:=.inl ⟨rs,vs,rfl,(fun h=>by rw [h] at hn;cases hn),h,e.symm⟩
theorem s3 {P:Program} {t T i sz τ:Nat} {l:List AV} {a:AV} {σ:St} [tv:J6 P T true sz] (h:look σ.sl t = some (.ref i 0)) (hb:B4 σ.hp i = some (.bx τ l)) (hl:l.length = sz) (e:NL (.agg (Br σ.hp [] l)) a):Sv P σ (.cell t T) a:=⟨i,τ,l,sz,h,hb,tv,hl,e⟩
theorem Ob {P:Program} {t T i u sz τ:Nat} {l:List AV} {a b b' r:AV} {σ:St} [tv:J6 P T true sz] (h:look σ.sl t = some (.ref i 0)) (hb:B4 σ.hp i = some (.bx τ l)) (hl:Nat.beq l.length sz = true) (na:NL (.agg (Br σ.hp [] l)) a) (h2:(look σ.sl u).map (M0 σ.hp []) = some b') (nb:NL b' b) (e:.tup [a,b] = r):E8 P #[.cell t T, .tmp u] r .ret σ :=
 Bu (rs:=[.cell t T, .tmp u]) (vs:=[a,b]) rfl ⟨⟨i,τ,l,sz,h,hb,tv,Nat.eq_of_beq_eq_true hl,na⟩,⟨b',h2,nb⟩,trivial⟩ e
theorem a7 {P:Program} {t u:Nat} {a b r:AV} {σ:St} (h:(look σ.sl t).map (M0 σ.hp []) = some a) (h2:(look σ.sl u).map (M0 σ.hp []) = some b) (e:.tup [a,b] = r):E8 P #[.tmp t, .tmp u] r .ret σ:=.inr (.inr (.inr (.inl ⟨t,u,a,b,rfl,h,h2,e.symm⟩)))
section rules
variable {P:Program} {E:Env} {n:Nat} {ops:Array Oper} {rest:List Oper} {σ:St} {K:St → Prop} {Q:Exit → St → Prop}
variable {d:Nat} {ty:TypeId} {pos:String} {after:Array Edge} {x y:Operand}
theorem Qq {f : Nat} {fn : Func} {code : Code} {args : List AV} {r : AV} {rs : Array ResultVar} (hf : P.funcs[f]? = some fn) (hname : (fn.name == "runtime.NumGoroutine") = false) (hb : fn.body = some code) (hn : fn.ntmps = n) (hrs : fn.results = rs)
  (hargs:Nat.ble args.length n = true) (hcl:M7 r = true) (hcells:∀ t T,rs = #[.cell t T] → ∃ sz,J6 P T true sz ∧ ∀ l,r = .agg l → l.length = sz)
  (h:(∀ a ∈ args,Rd a) → ∀ E,E.n0 = 0 → E5 P E n code ⟨Dg args 0,0,[]⟩ (E8 P rs r)):B3 P f args r:=by
 subst hn hrs
 have hcl:=m9 hcl
 refine ⟨⟨fn,hf,hname,by rw [hb];rfl⟩,fun X w vs hX htab hl hvs=>?_⟩
 have htb:f9 (fun k=>X k ∨ (fun _=>False) k) w:=htab.mono (fun k _ h=>h.elim id False.elim) fun _ _ _=>rfl
 have hrd:∀ a ∈ args,Rd a:=by
  intro a ha
  obtain ⟨j,hj,rfl⟩:=List.getElem_of_mem ha
  have h2:j < vs.length:=by omega
  exact ⟨X,w,_,hvs j _ _ (List.getElem?_eq_getElem hj) (List.getElem?_eq_getElem h2)⟩
 refine calls_of_wp hf hb ?_
 have hle:args.length ≤ fn.ntmps:=Nat.ble_eq ▸ hargs
 have start:AH ⟨w,X,fun _=>False,fun _=>undef,0,htb⟩ fn.ntmps ⟨Dg args 0,0,[]⟩ { tmps:=vs.toArray ++ Array.replicate (fn.ntmps - vs.toArray.size) undef,defers:=[] } w:=by
  refine ⟨fun _=>undef,?_,rfl,⟨rfl,rfl,rfl,Nat.le_refl _,fun _ _ _=>rfl⟩,fun s x hs=>?_,fun i b hi=>?_,fun i j b b' k hi=>?_,fun i b k hi=>?_,hX,⟨Nat.le_refl _,fun i hi=>?_⟩⟩
  ·simp;omega
  ·obtain ⟨_,hx⟩:=GH args 0 s x hs
   rw [Nat.sub_zero] at hx
   have hlt:s < vs.length:=by rw [← hl];exact (List.getElem?_eq_some_iff.1 hx).1
   have hv:vs[s]? = some vs[s]:=List.getElem?_eq_getElem hlt
   have e:(vs.toArray ++ Array.replicate (fn.ntmps - vs.toArray.size) undef).getD s undef = vs[s]:=by
    rw [Array.getD_eq_getD_getElem?,Array.getElem?_append]
    simp [hlt]
   rw [e]
   refine .im ((hvs s x _ hx hv).mono (fun _ _ _=>rfl) fun k _ hu=>?_)
   rcases hu with hu | ⟨i,b,hi,_⟩
   ·exact hu
   ·cases hi
  ·cases hi
  ·cases hi
  ·cases hi
  ·exact absurd hi (Nat.not_lt_zero _)
 refine wp_mono (h hrd ⟨w,X,fun _=>False,fun _=>undef,0,htb⟩ rfl _ w start) ?_
 rintro e a w' ⟨σ',hq,θ,hs⟩
 have hbel:Below w.heap.size w w':=⟨hs.fr.os,hs.fr.tape,hs.fr.output,hs.fr.size,fun k hk=>hs.fr.block k hk (fun h=>h)⟩
 have hcv:=hs.cv (σ':=⟨AK (M0 σ'.hp []) σ'.sl,σ'.nx,[]⟩) (Nat.zero_le _) (fun s x' hx=>by
  rw [Bs,Option.map_eq_some_iff] at hx
  obtain ⟨x,h1,h2⟩:=hx
  exact ⟨x,h1,h2, .inl (Nat.le_refl _)⟩) (fun i b' hi=>by cases hi)
 have toX:∀ {a:AV} {v:Value},S5 a → G4 (cx ⟨w,X,fun _=>False,fun _=>undef,0,htb⟩ θ ⟨AK (M0 σ'.hp []) σ'.sl,σ'.nx,[]⟩ w') a v → Im X w' a v:=fun hc hi=>(hc.im hi).mono (fun _ _ _=>rfl) fun k _ hu=>.inl hu
 have slot:∀ {t:Nat} {r:AV},(look σ'.sl t).map (M0 σ'.hp []) = some r → look (AK (M0 σ'.hp []) σ'.sl) t = some r:=fun h=>by rw [Bs];exact h
 have fin:cV P fn.results r σ' → bodyPost P fn (fun e w''=>∃ v,e = .returned v ∧ Im X w'' r v ∧ Below w.heap.size w w'') .ret a w':=by
  intro hret
  rcases hret with ⟨rvs,as,h1,hn1,hrv,rfl⟩ | ⟨t,h1,h2⟩ | ⟨t,sz,h1,h2,rfl⟩ | ⟨t,u,a1,b1,h1,h2,h3,rfl⟩ | ⟨t,T,i,τ,l,h1,h2,h3,rfl⟩
  ·obtain ⟨hlen,hget⟩:=GI.get hrv
   have hcls:∀ a ∈ as,S5 a:=by cases hcl with | tup hk=>exact hk
   have one:∀ (rv:ResultVar) (b:AV),S5 b → Sv P σ' rv b → ∃ v,(V7 a.tmps rv).run P w' = .ok v w' ∧ Im X w' b v:=by
    intro rv b hb hv
    cases rv with
    | tmp t =>
      obtain ⟨a',h1,h2⟩:=hv
      exact ⟨_,by simp [V7,Sem.run_pure],toX hb (Kd h2 (hcv.slots t a' (slot h1)))⟩
    | cell t T =>
      obtain ⟨i,τ,l,sz,h2,h3,tv,hlsz,hnl⟩:=hv
      obtain ⟨b1,hθ,hv,_⟩:=R8 (hs.slots t _ h2)
      obtain ⟨b',arr,T',hθ',hh,hsz,hr⟩:=(hs.owns i _ h3).2
      have hbb:θ i = .pointer (some ⟨b1,0,none⟩):=hθ
      have hbb':θ i = .pointer (some ⟨b',0,none⟩):=hθ'
      rw [hbb] at hbb'
      cases hbb'
      have hh':w'.heap[b1]? = some (.cells arr T' (0,0)):=hh
      have sub:(cx ⟨w,X,fun _=>False,fun _=>undef,0,htb⟩ θ σ' w').sub (cx ⟨w,X,fun _=>False,fun _=>undef,0,htb⟩ θ ⟨AK (M0 σ'.hp []) σ'.sl,σ'.nx,[]⟩ w'):=⟨rfl,rfl,fun _ h=>h,(fun i b' hi=>by cases hi),hs.apart,fun i b k hi hk=>(hs.mine i b k hi hk).1,fun i b hi=>(hs.owns i b hi).2⟩
      have hload:=S4 (P:=P) (T:=T) (sz:=sz) (w:=w') (a:=⟨b1,0,none⟩) (cs:=arr.toList) (by rw [Array.length_toList,hsz,hlsz]) (fun j v hj=>by rw [addr_add,Q8 hh'];simpa using hj)
      refine ⟨.agg arr,by simp [V7,hv,Sem.run_bind,Sem.run_pure,asAddr,hload],toX hb (Kd hnl (by
       have:=G4.agg (c:=cx ⟨w,X,fun _=>False,fun _=>undef,0,htb⟩ θ ⟨AK (M0 σ'.hp []) σ'.sl,σ'.nx,[]⟩ w') (Br σ'.hp [] l) arr.toList (by rw [Q2];simp [hsz]) (fun j x y hx hy=>by
        rw [Q2] at hx
        simp only [List.getElem?_map,Option.map_eq_some_iff] at hx
        obtain ⟨u0,hu0,rfl⟩:=hx
        exact HG sub (hr j u0 y hu0 (by simpa using hy)) (.inl (Nat.le_refl _)))
       simpa using this))⟩
   have all:∀ (m:Nat),m ≤ rvs.length → ∃ vs:List Value,vs.length = m ∧ ∀ (j:Nat) rv v,rvs[j]? = some rv → vs[j]? = some v → (V7 a.tmps rv).run P w' = .ok v w' ∧ ∀ b,as[j]? = some b → Im X w' b v:=by
    intro m
    induction m with
    | zero=>intro _;exact ⟨[],rfl,fun j rv v _ h=>by simp at h⟩
    | succ m ih =>
      intro hm
      obtain ⟨vs,hl,hvs⟩:=ih (by omega)
      have hrvm:rvs[m]? = some rvs[m]:=List.getElem?_eq_getElem (by omega)
      have ham:as[m]? = some (as[m]'(by omega)):=List.getElem?_eq_getElem (by omega)
      obtain ⟨v,hv1,hv2⟩:=one rvs[m] (as[m]'(by omega)) (hcls _ (List.getElem_mem _)) (hget m _ _ hrvm ham)
      refine ⟨vs ++ [v],by simp [hl],fun j rv u hj hu=>?_⟩
      by_cases e:j < m
      ·rw [List.getElem?_append_left (by omega)] at hu
       exact hvs j rv u hj hu
      ·rw [List.getElem?_append_right (by omega),hl] at hu
       have ej:j = m:=by
        have:=(List.getElem?_eq_some_iff.1 hu).1
        simp at this;omega
       subst ej
       simp at hu
       subst hu
       rw [hrvm] at hj
       cases hj
       exact ⟨hv1,fun b hb=>by rw [ham] at hb;cases hb;exact hv2⟩
   obtain ⟨vs,hvl,hvs⟩:=all rvs.length (Nat.le_refl _)
   refine ⟨hs.defers,_,JA h1 hn1 hvl.symm (fun j rv v hj hv=>(hvs j rv v hj hv).1),_,rfl, .tup as vs (by omega) fun j b v hb hv=>?_,hbel⟩
   obtain ⟨rv,hrv2⟩:=P3 hlen hb
   exact (hvs j rv v hrv2 hv).2 b hb
  ·exact ⟨hs.defers,_,results_tmp h1 _ _ _,_,rfl,toX hcl (hcv.slots t r (slot h2)),hbel⟩
  ·exact ⟨hs.defers,_,results_tmp h1 _ _ _,_,rfl,by rw [(hs.slots t _ h2).val];exact .slnil sz,hbel⟩
  ·refine ⟨hs.defers,_,results_tmp2 h1 _ _ _,_,rfl,?_,hbel⟩
   refine toX hcl (.tup [a1,b1] [_,_] rfl fun j x y hx hy=>?_)
   match j,hx,hy with
   | 0,hx,hy=>cases hx;cases hy;exact hcv.slots t _ (slot h2)
   | 1,hx,hy=>cases hx;cases hy;exact hcv.slots u _ (slot h3)
  ·obtain ⟨b,hθ,hv,_⟩:=R8 (hs.slots t _ h2)
   obtain ⟨b',arr,T',hθ',hh,hsz,hr⟩:=(hs.owns i _ h3).2
   have hbb:θ i = .pointer (some ⟨b,0,none⟩):=hθ
   have hbb':θ i = .pointer (some ⟨b',0,none⟩):=hθ'
   rw [hbb] at hbb'
   cases hbb'
   obtain ⟨sz,tv,hlen⟩:=hcells t T h1
   have hlsz:=hlen _ rfl
   rw [Q2,List.length_map] at hlsz
   have hh':w'.heap[b]? = some (.cells arr T' (0,0)):=hh
   have sub:(cx ⟨w,X,fun _=>False,fun _=>undef,0,htb⟩ θ σ' w').sub (cx ⟨w,X,fun _=>False,fun _=>undef,0,htb⟩ θ ⟨AK (M0 σ'.hp []) σ'.sl,σ'.nx,[]⟩ w'):=⟨rfl,rfl,fun _ h=>h,(fun i b' hi=>by cases hi),hs.apart,fun i b k hi hk=>(hs.mine i b k hi hk).1,fun i b hi=>(hs.owns i b hi).2⟩
   refine ⟨hs.defers, .agg arr,?_,_,rfl,toX hcl (by
    have:=G4.agg (c:=cx ⟨w,X,fun _=>False,fun _=>undef,0,htb⟩ θ ⟨AK (M0 σ'.hp []) σ'.sl,σ'.nx,[]⟩ w') (Br σ'.hp [] l) arr.toList (by rw [Q2];simp [hsz]) (fun j x y hx hy=>by
     rw [Q2] at hx
     simp only [List.getElem?_map,Option.map_eq_some_iff] at hx
     obtain ⟨u0,hu0,rfl⟩:=hx
     exact HG sub (hr j u0 y hu0 (by simpa using hy)) (.inl (Nat.le_refl _)))
    simpa using this),hbel⟩
   have hload:=S4 (P:=P) (T:=T) (sz:=sz) (w:=w') (a:=⟨b,0,none⟩) (cs:=arr.toList) (by rw [Array.length_toList,hsz,hlsz]) (fun j v hj=>by rw [addr_add,Q8 hh'];simpa using hj)
   rw [Array.getD_eq_getD_getElem?] at hv
   simp [results,h1,hv,Sem.run_bind,Sem.run_pure,asAddr,hload]
 cases e with
 | normal=>exact fin hq
 | ret=>exact fin hq
 | exit id=>exact hq.elim
 | goto l=>exact hq.elim
 | panic c=>exact hq.elim
 | outgrown=>exact hq.elim
theorem B3.congr {f:Nat} {args:List AV} {r r':AV} (h:B3 P f args r) (e:r = r'):B3 P f args r':=e ▸ h
theorem Cf {l:List Oper} {σ':St} (h:St.le E n σ σ') (k:B7 P E n ops l σ' K):B7 P E n ops l σ K:=fun a w hs=>k a w (h a w hs)
theorem EF {d e sz:Nat} (hd:look σ.sl d = some (.v (.slice none 0 0))):St.le E n σ ((σ.new (.row e sz 0 [])).put d (.row σ.nx 0 0)):=by
 rintro a w ⟨θ,h⟩
 have h2:=h.grow (w':=w) (Below.refl _ _) (.slice none 0 0) (.row e sz 0 []) (fun k hk=>by cases hk) fun le=>⟨[],⟨by simp, .inl ⟨by simp [cx,F5],rfl⟩⟩,(fun el hel=>by cases hel),fun k el hk=>by simp at hk⟩
 refine ⟨_,h2.size,h2.defers,h2.fr,fun s x hs=>?_,h2.owns,h2.apart,h2.mine,h2.X,h2.base⟩
 simp only [St.put,H5] at hs
 by_cases ed:d = s
 ·subst ed
  rw [if_pos rfl] at hs
  cases hs
  have hv:=(h.slots d _ hd).val
  rw [hv]
  refine .row _ _ _ _ (by simp [cx,St.new,St.put]) fun e' sz' v' l' hl=>?_
  simp only [cx,St.new,St.put,I6,if_pos] at hl
  cases hl
  exact ⟨Nat.le_refl _,fun _=>⟨rfl,by simp [cx,F5]⟩⟩
 ·rw [if_neg ed] at hs
  exact h2.slots s x hs
structure X4 (P:Program) (E:Env) (n:Nat) (ops:Array Oper) (o:Oper) (rest:List Oper) (l:List AV) (σ:St) (K:St → Prop):Prop where
 h:B7 P E n ops (o :: rest) σ K
mutual
def Wo:AV → Option Nat
 | .ref i _ | .row i _ _ | .elt i _ _ _=>some i
 | .agg l | .tup l | .fo _ l=>Mk l
 | _=>none
def Mk:List AV → Option Nat
 | []=>none
 | x :: r=>match Wo x with
   | some i=>some i
   | none=>Mk r
end
theorem Y8 {o:Oper} {l:List AV} (i:Nat) (h:B7 P E n ops (o :: rest) (σ.frz i) K):X4 P E n ops o rest l σ K:=⟨Cf (OT i) h⟩
def lits:List Nat:=[0,1,2,3,4,5,6,7,8,9,10,11,12,13,14,15,16,17,18,19,20,21,22,23,24,25,26,27,28,29,30,31,32,33,34,35,36,37,38,39,40,41,42,43,44,45,46,47,48,49,50,51,52,53,54,55,56,57,58,59,60,61,62,63]
def HN:List Nat → Nat → Option Nat
 | [],_=>none
 | x :: _,0=>some x
 | _ :: r,k + 1=>HN r k
theorem RY:∀ (l:List Nat) (m:Nat),HN l m = l[m]?
 | [],m=>by simp [HN]
 | x :: r,0=>by simp [HN]
 | x :: r,k + 1=>by simp [HN,RY r k]
theorem Ui {m k:Nat} (h:HN lits m = some k):k = m:=by
 by_cases hm:m < 64
 ·have h2:∀ j,j < 64 → HN lits j = some j:=by decide
  rw [h2 m hm] at h
  exact (Option.some.inj h).symm
 ·rw [RY,List.getElem?_eq_none (by simp [lits];omega)] at h
  cases h
def J0 (m:Nat) (F:Nat → Prop):Prop :=
 match HN lits m with
 | some k=>F k
 | none=>F m
theorem F9 {m:Nat} {F:Nat → Prop} (h:J0 m F):F m:=by
 unfold J0 at h
 split at h
 ·rename_i hk;rw [Ui hk] at h;exact h
 ·exact h
def Oc (P:Program) (E:Env) (n:Nat) (ops:Array Oper) (o:Oper) (T:Nat) (x y:Option AV) (rest:List Oper) (σ:St) (K:St → Prop):Prop :=
 match x,y with
 | some (.ref i off),some av=>match B4 σ.hp i with
   | some (.bx τ l)=>JZ P T fun _ sz=>cond (Nat.beq (I7 av).length sz && Nat.ble (off + sz) l.length) (OV σ.hp av (Ss σ.hp (I7 av) (B7 P E n ops rest (σ.set i (.bx τ (f0 l off (I7 av)))) K))) False
   | _=>False
 | some (.elt i ver k off),some av=>match B4 σ.hp i with
   | some (.row e sz ver' l)=>H9 (ver = ver' ∧ off < sz) (JZ P T fun ag szT=>cond (cond ag false (Nat.beq szT 1)) (cond (M7 av) (OU σ.hp av (R0 l (k:Int) fun el=>B7 P E n ops rest (σ.set i (.row e sz ver (l.set k (el.set off av)))) K)) (X4 P E n ops o rest [av] σ K)) False)
   | _=>False
 | _,_=>False
def ZS (P:Program) (E:Env) (n:Nat) (ops:Array Oper) (d T:Nat) (x y:Option AV) (rest:List Oper) (σ:St) (K:St → Prop):Prop :=
 match x,y with
 | some (.v (.int .i64 m)),some (.v (.int .i64 m'))=>EE P T fun e sz bs z=>cond (Nat.blt e M6) (H9 (m = m' ∧ 0 ≤ m ∧ bs * m.toNat ≤ 281474976710656 ∧ m ≤ 9223372036854775807) (J0 σ.nx fun nx=>B7 P E n ops rest ((σ.new (.row e sz 0 (List.replicate m.toNat z))).put d (.row nx 0 m.toNat)) K)) False
 | _,_=>False
def RZ (P:Program) (E:Env) (n:Nat) (ops:Array Oper) (d T:Nat) (x y:Option AV) (rest:List Oper) (σ:St) (K:St → Prop):Prop :=
 match x,y with
 | some (.row i ver len),some (.sl sz' m)=>match B4 σ.hp i with
   | some (.row e sz ver' l)=>H9 (ver = ver') (EE P T fun e' sz2 bs _=>cond (Nat.beq e e' && Nat.beq sz sz2 && Nat.beq sz sz' && Nat.blt 0 sz && Nat.blt e U5) (H9 (∀ el ∈ m,∀ u ∈ el,X7 u) (H9 ((len + m.length) * bs ≤ 140737488355328 ∧ len + m.length ≤ 9223372036854775807)
     (B7 P E n ops rest ((σ.set i (.row e sz (ver + 1) (l ++ m))).put d (.row i (ver + 1) (len + m.length))) K))) False)
   | _=>False
 | some (.row i ver len),some (.row j ver2 len2)=>match B4 σ.hp i,B4 σ.hp j with
   | some (.row e sz ver' l),some (.row _ sz' ver2' m)=>H9 (ver = ver' ∧ ver2 = ver2') (EE P T fun e' sz2 bs _=>cond (Nat.beq e e' && Nat.beq sz sz2 && Nat.beq sz sz' && Nat.blt 0 sz && Nat.blt e U5) (H9 (∀ el ∈ m,∀ u ∈ el,X7 u) (H9 ((len + m.length) * bs ≤ 140737488355328 ∧ len + m.length ≤ 9223372036854775807)
     (B7 P E n ops rest ((σ.set i (.row e sz (ver + 1) (l ++ m))).put d (.row i (ver + 1) (len + m.length))) K))) False)
   | _,_=>False
 | some (.v (.slice none 0 0)),some (.sl sz' m)=>EE P T fun e sz bs _=>cond (Nat.beq sz sz' && Nat.blt 0 sz && Nat.blt e U5) (H9 (∀ el ∈ m,∀ u ∈ el,X7 u) (H9 ((0 + m.length) * bs ≤ 140737488355328 ∧ 0 + m.length ≤ 9223372036854775807)
   (J0 σ.nx fun nx=>B7 P E n ops rest (((σ.new (.row e sz 0 [])).set nx (.row e sz 1 ([] ++ m))).put d (.row nx 1 (0 + m.length))) K))) False
 | _,_=>False
def Ra (P:Program) (E:Env) (n:Nat) (ops:Array Oper) (d T T2:Nat) (x:Option AV) (s:List UInt8) (rest:List Oper) (σ:St) (K:St → Prop):Prop :=
 match x with
 | some (.row i ver len)=>match B4 σ.hp i with
   | some (.row e sz ver' l)=>H9 (ver = ver') (EE P T fun e' sz2 bs _=>Cy P T2 (cond (Nat.beq e e' && Nat.beq sz 1 && Nat.beq sz2 1 && Nat.beq bs 1 && Nat.blt e U5) (ZQ P e (H9 (len + s.length ≤ 140737488355328) (B7 P E n ops rest ((σ.set i (.row e 1 (ver + 1) (l ++ O5 s))).put d (.row i (ver + 1) (len + s.length))) K))) False))
   | _=>False
 | some (.v (.slice none 0 0))=>EE P T fun e sz bs _=>Cy P T2 (cond (Nat.beq sz 1 && Nat.beq bs 1 && Nat.blt e U5) (ZQ P e (H9 (0 + s.length ≤ 140737488355328) (J0 σ.nx fun nx=>B7 P E n ops rest (((σ.new (.row e 1 0 [])).set nx (.row e 1 1 ([] ++ O5 s))).put d (.row nx 1 (0 + s.length))) K))) False)
 | _=>False
def Uj (P:Program) (E:Env) (n:Nat) (ops:Array Oper) (T:Nat) (x y z:Option AV) (rest:List Oper) (σ:St) (K:St → Prop):Prop :=
 match x,y,z with
 | some (.mp i),some kav,some av=>match B4 σ.hp i,keyOf kav with
   | some (.map m),some k=>Sp P T fun t _=>cond (Dd t k && M7 av) (H9 (Be t m) (B7 P E n ops rest (σ.set i (.map (Cc m k av))) K)) False
   | _,_=>False
 | _,_,_=>False
def cW (P:Program) (E:Env) (n:Nat) (ops:Array Oper) (o:Oper) (rest:List Oper) (σ:St) (K:St → Prop):Prop :=
 match o.dst,o.op with
 | some d, .box T x=>cond (Nat.blt d n) (W3 (G6 σ x) fun av=>OV σ.hp av (J0 σ.nx fun nx=>B7 P E n ops rest ((σ.new (.box (I7 av))).put d (.ref nx 0)) K)) False
 | some d, .alloc T=>cond (Nat.blt d n) (So P T fun l=>J0 σ.nx fun nx=>B7 P E n ops rest ((σ.new (.box l)).put d (.ref nx 0)) K) False
 | none, .store T x y=>Oc P E n ops ⟨o.dst,o.op,o.type,o.pos,o.after,none⟩ T (G6 σ x) (G6 σ y) rest σ K
 | some d, .makeSlice T x y=>cond (Nat.blt d n) (ZS P E n ops d T (G6 σ x) (G6 σ y) rest σ K) False
 | some d, .makeMap T none=>cond (Nat.blt d n) (J0 σ.nx fun nx=>B7 P E n ops rest ((σ.new (.map [])).put d (.mp nx)) K) False
 | none, .mapUpdate T x y z=>Uj P E n ops T (G6 σ x) (G6 σ y) (G6 σ z) rest σ K
 | some d, .call ⟨.builtin .append,⟨[x,y]⟩,⟨[T,T']⟩⟩=>match G6 σ y with
   | some (.str s)=>cond (Nat.blt d n) (Ra P E n ops d T T' (G6 σ x) s rest σ K) False
   | _=>cond (Nat.blt d n && Nat.beq T T') (RZ P E n ops d T (G6 σ x) (G6 σ y) rest σ K) False
 | some d, .call ⟨.builtin .unsafeSliceData,⟨[x]⟩,ts⟩=>X4 P E n ops ⟨o.dst,o.op,o.type,o.pos,o.after,none⟩ rest [] σ K
 | some d, .call ⟨.builtin .unsafeString,⟨[x,y]⟩,ts⟩=>X4 P E n ops ⟨o.dst,o.op,o.type,o.pos,o.after,none⟩ rest [] σ K
 | some d, .call ⟨.value (.func f),⟨args⟩,_⟩=>cond (Nat.blt d n) (match c8 (G6 σ) args with
   | some l=>cond (K9 l) (Nr P f (l ++ []) fun av=>B7 P E n ops rest (σ.put d av) K) (X4 P E n ops ⟨o.dst,o.op,o.type,o.pos,o.after,none⟩ rest l σ K)
   | none=>False) False
 | some d, .call ⟨.value (.tmp t),⟨args⟩,ts⟩=>match G6 σ (.tmp t),c8 (G6 σ) args with
   | some (.fo _ caps),some l=>X4 P E n ops ⟨o.dst,o.op,o.type,o.pos,o.after,none⟩ rest (l ++ caps) σ K
   | _,_=>cond (Nat.blt d n) (Eh P (.call ⟨.value (.tmp t),⟨args⟩,ts⟩) (G6 σ) σ.hp fun av=>B7 P E n ops rest (σ.put d av) K) False
 | some d, .buildSlice T len ⟨parts⟩=>match Az (G6 σ) parts with
   | some ps=>cond (ps.all fun p=>M7 p.2) (cond (Nat.blt d n) (Eh P (.buildSlice T len ⟨parts⟩) (G6 σ) σ.hp fun av=>B7 P E n ops rest (σ.put d av) K) False) (X4 P E n ops ⟨o.dst,o.op,o.type,o.pos,o.after,none⟩ rest (ps.map (·.2)) σ K)
   | none=>False
 | some d, .slice T x lo hi none=>match G6 σ x with
   | some (.row i v len)=>X4 P E n ops ⟨o.dst,o.op,o.type,o.pos,o.after,none⟩ rest [.row i v len] σ K
   | _=>cond (Nat.blt d n) (Eh P (.slice T x lo hi none) (G6 σ) σ.hp fun av=>B7 P E n ops rest (σ.put d av) K) False
 | some d, .makeFunc f ⟨x :: xs⟩ ⟨[]⟩=>X4 P E n ops ⟨o.dst,o.op,o.type,o.pos,o.after,none⟩ rest [] σ K
 | some d, .makeFunc f ⟨[]⟩ ⟨xs⟩=>cond (Nat.blt d n) (match c8 (G6 σ) xs with
   | some l=>cond (K9 l) (Eh P (.makeFunc f ⟨[]⟩ ⟨xs⟩) (G6 σ) σ.hp fun av=>B7 P E n ops rest (σ.put d av) K) (X4 P E n ops ⟨o.dst,o.op,o.type,o.pos,o.after,none⟩ rest l σ K)
   | none=>False) False
 | some d,op=>cond (Nat.blt d n) (Eh P op (G6 σ) σ.hp fun av=>B7 P E n ops rest (σ.put d av) K) False
 | _,_=>False
theorem Od {T:Nat} (h:Oc P E n ops ⟨none, .store T x y,ty,pos,after,none⟩ T (G6 σ x) (G6 σ y) rest σ K):B7 P E n ops (⟨none, .store T x y,ty,pos,after,none⟩ :: rest) σ K:=by
 unfold Oc at h
 split at h
 ·rename_i hx hy
  split at h
  ·rename_i hb
   obtain ⟨⟨ag,sz,tv,h⟩⟩:=h
   obtain ⟨hs,h⟩:=cond_false h
   simp only [Bool.and_eq_true,Nat.beq_eq,Nat.ble_eq] at hs
   obtain ⟨hf,h⟩:=HL h
   obtain ⟨ho,h⟩:=KY h
   exact Lb (ag:=ag) (sz:=sz) hx hy hb hf ho hs.1 hs.2 h
  ·exact h.elim
 ·rename_i hx hy
  split at h
  ·rename_i e sz ver' l hb
   obtain ⟨⟨rfl,hoff⟩,h⟩:=h
   obtain ⟨⟨ag,szT,tv,h⟩⟩:=h
   obtain ⟨hs,h3⟩:=cond_false h
   clear h
   cases ag with
   | true=>cases hs
   | false =>
    have h4:=h3
    clear h3
    cases hcl:M7 _ with
    | false =>
     rw [hcl] at h4
     exact h4.h
    | true =>
     rw [hcl] at h4
     obtain ⟨ho,h⟩:=HK h4
     obtain ⟨h0,h1,hk⟩:=h
     rename_i k _ _ _
     have hlt:k < l.length:=by omega
     have hel:l[k]? = some l[k]:=List.getElem?_eq_getElem hlt
     exact Lc (szT:=szT) hx hy hb hel hoff (Nat.eq_of_beq_eq_true hs) hcl ho (hk _ (by rw [Int.toNat_natCast];exact hel))
  ·exact h.elim
 ·exact h.elim
theorem Uk {o:Oper} (hg:o.guard = none) (h:cW P E n ops o rest σ K):B7 P E n ops (o :: rest) σ K:=by
 obtain ⟨dst,op,ty,pos,after,guard⟩:=o
 simp only at hg
 subst hg
 have quiet:∀ {d:Nat} {op:Op},Nat.blt d n = true → Eh P op (G6 σ) σ.hp (fun av=>B7 P E n ops rest (σ.put d av) K) → B7 P E n ops (⟨some d,op,ty,pos,after,none⟩ :: rest) σ K:=by
  intro d op hd h
  obtain ⟨av,hq,h⟩:=ZR (E:=E) (nx:=σ.nx) (ty:=ty) h
  exact FP hq hd h
 unfold cW at h
 simp only at h
 split at h
 ·rename_i ho
  obtain ⟨hd,h⟩:=cond_false h
  obtain ⟨av,hx,h⟩:=K5 h
  obtain ⟨hf,h⟩:=HL h
  exact WY hx hf hd (F9 h)
 ·obtain ⟨hd,h⟩:=cond_false h
  obtain ⟨⟨l,tz,h⟩⟩:=h
  exact Sk (l:=l) hd (F9 h)
 ·exact Od h
 ·obtain ⟨hd,h⟩:=cond_false h
  unfold ZS at h
  split at h
  ·rename_i hx hy
   obtain ⟨⟨e,sz,bs,z,ts,tz,tb,hz,h⟩⟩:=h
   obtain ⟨hek,hq⟩:=cond_false h
   clear h
   obtain ⟨⟨rfl,h0,h1,h2⟩,hq⟩:=hq
   exact Ub (e:=e) (z:=z) (by_:=bs) hx hy h0 h1 h2 hz (Nat.blt_eq ▸ hek) hd (F9 hq)
  ·exact h.elim
 ·obtain ⟨hd,h⟩:=cond_false h
  exact OP hd (F9 h)
 ·unfold Uj at h
  split at h
  ·rename_i hx hy hz
   split at h
   ·rename_i hb hk
    obtain ⟨⟨k,e,t,z,tm,h⟩⟩:=h
    obtain ⟨hc,h⟩:=cond_false h
    simp only [Bool.and_eq_true] at hc
    exact Ld (T:=_) hx hb hy hk hc.1 h.h hz hc.2 h.k
   ·exact h.elim
  ·exact h.elim
 ·split at h
  ·rename_i hys
   obtain ⟨hd,h3⟩:=cond_false h
   clear h
   unfold Ra at h3
   split at h3
   ·rename_i hx
    split at h3
    ·rename_i hb
     obtain ⟨rfl,h⟩:=h3
     obtain ⟨⟨e,sz,bs,z,ts,tz,tb,hz,h⟩⟩:=h
     obtain ⟨tu,h⟩:=h
     obtain ⟨hc,h5⟩:=cond_false h
     clear h
     simp only [Bool.and_eq_true,Nat.beq_eq,Nat.blt_eq] at hc
     obtain ⟨⟨⟨⟨rfl,rfl⟩,rfl⟩,rfl⟩,hbe⟩:=hc
     obtain ⟨⟨hlen,h⟩⟩:=h5
     exact KL hx hb hys hbe hlen hd h
    ·exact h3.elim
   ·rename_i hx
    obtain ⟨⟨e,sz,bs,z,ts,tz,tb,hz,h⟩⟩:=h3
    obtain ⟨tu,h⟩:=h
    obtain ⟨hc,h5⟩:=cond_false h
    clear h
    simp only [Bool.and_eq_true,Nat.beq_eq,Nat.blt_eq] at hc
    obtain ⟨⟨rfl,rfl⟩,hbe⟩:=hc
    obtain ⟨⟨hlen,h⟩⟩:=h5
    exact HE hx hys hbe hlen hd (F9 h)
   ·exact h3.elim
  rename_i hys
  clear hys
  obtain ⟨hd,h3⟩:=cond_false h
  clear h
  have h:=h3
  clear h3
  simp only [Bool.and_eq_true,Nat.beq_eq] at hd
  obtain ⟨hd,rfl⟩:=hd
  unfold RZ at h
  split at h
  ·rename_i hx hy
   split at h
   ·rename_i hb
    obtain ⟨rfl,h⟩:=h
    obtain ⟨⟨e,sz,bs,z,ts,tz,tb,hz,h⟩⟩:=h
    obtain ⟨hc,h3⟩:=cond_false h
    clear h
    simp only [Bool.and_eq_true,Nat.beq_eq,Nat.blt_eq] at hc
    obtain ⟨⟨⟨⟨rfl,rfl⟩,rfl⟩,hpos⟩,hbe⟩:=hc
    obtain ⟨him,h⟩:=h3
    obtain ⟨hlen,h⟩:=h
    exact KM (z:=z) (by_:=bs) hx hb hy him hz hpos hbe hlen.1 hlen.2 hd h
   ·exact h.elim
  ·rename_i hx hy
   split at h
   ·rename_i hb hb2
    obtain ⟨⟨rfl,rfl⟩,h⟩:=h
    obtain ⟨⟨e,sz,bs,z,ts,tz,tb,hz,h⟩⟩:=h
    obtain ⟨hc,h3⟩:=cond_false h
    clear h
    simp only [Bool.and_eq_true,Nat.beq_eq,Nat.blt_eq] at hc
    obtain ⟨⟨⟨⟨rfl,rfl⟩,rfl⟩,hpos⟩,hbe⟩:=hc
    obtain ⟨him,h⟩:=h3
    obtain ⟨hlen,h⟩:=h
    exact JX (z:=z) (by_:=bs) hx hb hy hb2 him hz hpos hbe hlen.1 hlen.2 hd h
   ·exact h.elim
  ·rename_i hx hy
   obtain ⟨⟨e,sz,bs,z,ts,tz,tb,hz,h⟩⟩:=h
   obtain ⟨hc,h3⟩:=cond_false h
   clear h
   simp only [Bool.and_eq_true,Nat.beq_eq,Nat.blt_eq] at hc
   obtain ⟨⟨rfl,hpos⟩,hbe⟩:=hc
   obtain ⟨him,h⟩:=h3
   obtain ⟨hlen,h⟩:=h
   exact KN (z:=z) (by_:=bs) hx hy him hz hpos hbe hlen.1 hlen.2 hd (F9 h)
  ·exact h.elim
 ·exact h.h
 ·exact h.h
 ·obtain ⟨hd,h⟩:=cond_false h
  split at h
  ·rename_i l hl
   cases hc:K9 l with
   | true =>
     rw [hc] at h
     obtain ⟨⟨r,hr,h⟩⟩:=h
     rw [List.append_nil] at hr
     exact FP (OK hr hl hc) hd h
   | false =>
     rw [hc] at h
     exact h.h
  ·exact h.elim
 ·split at h
  ·exact h.h
  ·obtain ⟨hd,h⟩:=cond_false h
   exact quiet hd h
 ·split at h
  ·rename_i ps hps
   cases hc:ps.all fun p=>M7 p.2 with
   | true =>
     rw [hc] at h
     obtain ⟨hd,h⟩:=cond_false h
     exact quiet hd h
   | false =>
     rw [hc] at h
     exact h.h
  ·exact h.elim
 ·split at h
  ·exact h.h
  ·obtain ⟨hd,h⟩:=cond_false h
   exact quiet hd h
 ·exact h.h
 ·obtain ⟨hd,h⟩:=cond_false h
  split at h
  ·rename_i l hl
   cases hc:K9 l with
   | true =>
     rw [hc] at h
     exact quiet hd h
   | false =>
     rw [hc] at h
     exact h.h
  ·exact h.elim
 ·obtain ⟨hd,h⟩:=cond_false h
  exact quiet hd h
 ·exact h.elim
structure P7 (b g:Bool) (A B:Prop):Prop where
 t:b = g → A
 f:b = (!g) → B
theorem Wp {A B:Prop} (k:A):P7 true true A B:=⟨fun _=>k,fun h=>by cases h⟩
theorem Wq {A B:Prop} (k:A):P7 false false A B:=⟨fun _=>k,fun h=>by cases h⟩
theorem Wr {A B:Prop} (k:B):P7 true false A B:=⟨(fun h=>by cases h),fun _=>k⟩
theorem Ws {A B:Prop} (k:B):P7 false true A B:=⟨(fun h=>by cases h),fun _=>k⟩
theorem Wt {p A B:Prop} [Decidable p] (h1:p → A) (h2:¬ p → B):P7 (decide p) true A B:=⟨fun h=>h1 (of_decide_eq_true h),fun h=>h2 (of_decide_eq_false h)⟩
theorem Wu {p A B:Prop} [Decidable p] (h1:¬ p → A) (h2:p → B):P7 (decide p) false A B:=⟨fun h=>h1 (of_decide_eq_false h),fun h=>h2 (of_decide_eq_true h)⟩
theorem Wv {b:Bool} {A B:Prop} (h1:b = true → A) (h2:b = false → B):P7 b true A B:=⟨h1,h2⟩
theorem Ww {b:Bool} {A B:Prop} (h1:b = false → A) (h2:b = true → B):P7 b false A B:=⟨h1,h2⟩
theorem Ul {p A B:Prop} [Decidable p] (h1:¬ p → A) (h2:p → B):P7 (!decide p) true A B:=⟨fun h=>h1 (by simpa using h),fun h=>h2 (by simpa using h)⟩
theorem Um {p A B:Prop} [Decidable p] (h1:p → A) (h2:¬ p → B):P7 (!decide p) false A B:=⟨fun h=>h1 (by simpa using h),fun h=>h2 (by simpa using h)⟩
theorem Un {b:Bool} {A B:Prop} (h1:b = false → A) (h2:b = true → B):P7 (!b) true A B:=⟨fun h=>h1 (by simpa using h),fun h=>h2 (by simpa using h)⟩
theorem Uo {b:Bool} {A B:Prop} (h1:b = true → A) (h2:b = false → B):P7 (!b) false A B:=⟨fun h=>h1 (by simpa using h),fun h=>h2 (by simpa using h)⟩
def cX (P:Program) (E:Env) (n:Nat) (ops:Array Oper) (l:List Oper) (σ:St) (K:St → Prop):Prop :=
 match l with
 | []=>K σ
 | ⟨dst,op,ty,pos,after,none⟩ :: rest=>cW P E n ops ⟨dst,op,ty,pos,after,none⟩ rest σ K
 | ⟨some dd,op,ty,pos,after,some (j,g)⟩ :: rest=>match (ops[j]?).bind (·.dst) with
   | some dj=>cond (Nat.blt dd n) (match look σ.sl dj with
     | some (.v (.bool b))=>P7 b g (B7 P E n ops (⟨some dd,op,ty,pos,after,none⟩ :: rest) (σ.put dj (.v (.bool g))) K)
       (B7 P E n ops rest ((σ.put dj (.v (.bool !g))).put dd (.v undef)) K)
     | some (.v (.tuple t))=>B7 P E n ops rest (σ.put dd (.v undef)) K
     | _=>False) False
   | none=>False
 | ⟨none,_,_,_,_,some _⟩ :: _=>False
theorem A1 {l:List Oper} (h:cX P E n ops l σ K):B7 P E n ops l σ K:=by
 unfold cX at h
 split at h
 ·exact WR h
 ·exact Uk rfl h
 ·split at h
  ·rename_i dj hj
   obtain ⟨hdd,h⟩:=cond_false h
   split at h
   ·rename_i b hb
    exact Nz hj hb hdd h.t h.f
   ·rename_i t hb
    exact Gw hj hb rfl hdd h
   ·exact h.elim
  ·exact h.elim
 ·exact h.elim
structure Ke (P:Program) (E:Env) (n:Nat) (c:Code) (σ:St) (Q:Exit → St → Prop):Prop where
 h:E5 P E n (.loop c) σ Q
structure Cz (P:Program) (E:Env) (n:Nat) (id:Nat) (ops:Array Oper) (σ:St) (Q:Exit → St → Prop):Prop where
 h:E5 P E n (.region id ops true) σ Q
def Sw (P:Program) (E:Env) (n:Nat) (c:Code) (σ:St) (Q:Exit → St → Prop):Prop :=
 match c with
 | .seq a b=>E5 P E n a σ (Nn (fun σ'=>E5 P E n b σ' Q) Q)
 | .region _ ops false=>B7 P E n ops ops.toList σ (fun σ'=>Q .normal σ')
 | .region id ops true=>Cz P E n id ops σ Q
 | .skip=>Q .normal σ
 | .ret=>Q .ret σ
 | .exit i=>Q (.exit i) σ
 | .block id c=>E5 P E n c σ (KA id Q)
 | .cond (.tmp t) a b=>match look σ.sl t with
   | some (.v (.bool c))=>BH c (E5 P E n a (σ.put t (.v (.bool true))) Q) (E5 P E n b (σ.put t (.v (.bool false))) Q)
   | _=>False
 | .cond (.const (.bool true)) a b=>E5 P E n a σ Q
 | .cond (.const (.bool false)) a b=>E5 P E n b σ Q
 | .loop c=>Ke P E n c σ Q
 | _=>False
theorem Up {c:Code} (h:Sw P E n c σ Q):E5 P E n c σ Q:=by
 unfold Sw at h
 split at h
 ·exact Zp h
 ·exact SY rfl h
 ·exact h.h
 ·exact WS h
 ·exact Zq h
 ·exact WT h
 ·exact UO h
 ·split at h
  ·rename_i hc;exact Sb hc h.t h.f
  ·exact h.elim
 ·exact SZ rfl h
 ·exact Sa rfl h
 ·exact h.h
 ·exact h.elim
theorem D8 {ι:Type} {c:Code} (S:ι → St) (I:ι → Prop) (m:ι → Nat) (x0:ι) (hI:I x0) (h0:St.le E n σ (S x0))
  (h:∀ x,I x → E5 P E n c (S x) (Nn (fun σ'=>∃ y,I y ∧ m y < m x ∧ St.le E n σ' (S y)) Q)):Ke P E n c σ Q:=⟨WU S I m x0 hI h0 h⟩
end rules
end Go.Av
