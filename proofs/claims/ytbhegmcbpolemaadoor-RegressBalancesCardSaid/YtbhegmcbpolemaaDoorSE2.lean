/- Maps, tuples, closures, parts of strings and of rows. States that say less; freezing; what a function does. One rule for every operation: what is left to prove is reckoned by unfolding. The walk: operations that make or write memory, code, and what a function does. -/
import Derived.Test.YtbhegmcbpolemaaDoorSE1
set_option linter.unusedSimpArgs false
set_option linter.unusedVariables false
set_option linter.unnecessarySimpa false
namespace Go.Av
open Go Go.RowKit
class Ay (P:Program) (T:Nat) (k e:outParam Nat) (t:outParam TypeDesc) (z:outParam Value):Prop where
 out:P.underlying T = some (.map k e) ∧ P.underlying k = some t ∧ (P.info? e).bind (·.zero) = some z
section rules
variable {P:Program} {E:Env} {n nx:Nat} {hp:Hp} {ev:Operand → Option AV} {ops:Array Oper} {rest:List Oper} {σ:St} {K:St → Prop} {Q:Exit → St → Prop}
variable {d:Nat} {ty:TypeId} {pos:String} {after:Array Edge} {x y z:Operand}
def s7 (t:TypeDesc) (m:List (Key × AV)):Prop:=∀ p ∈ m,o8 t p.1 = true
theorem P8.map {θ:Th} {a:Act} {w:World} (h:P8 E θ nx hp ev a w) {i:Nat} {m:List (Key × AV)} (hb:A5 hp i = some (.map m)) :
  ∃ r es clock,θ i = .map (some r) ∧ w.heap[r]? = some (.map es clock) ∧ es.size = m.length ∧
   ∀ (j:Nat) (q:Key × AV) e,m[j]? = some q → es[j]? = some e → e.key = q.1.val ∧ Im (kx E θ nx hp w).U w q.2 e.val:=(h.owns i _ hb).2
theorem run_findKey {kt:TypeId} {t:TypeDesc} {k:Key} (ht:P.underlying kt = some t) {es:List MapEntry} {q:Option (Nat × Value)} (hq:Instr.findNow t k.val es 0 = some q) (w:World):(Instr.findKey kt k.val es).run P w = .ok q w:=by
 simp [Instr.findKey,Sem.run_bind,run_underlying ht,hq,Sem.run_pure]
def Az (m:List (Key × AV)) (k:Key) (d:AV):AV:=match n6 m k with
 | some v=>v
 | none=>d
theorem ED {T kt e:Nat} {t:TypeDesc} {zv:Value} [tm:Ay P T kt e t zv] {θ:Th} {a:Act} {w:World} (h:P8 E θ nx hp ev a w) {i:Nat} {m:List (Key × AV)} {kav:AV} {k:Key} (hx:ev x = some (.mp i)) (hb:A5 hp i = some (.map m)) (hy:ev y = some kav) (hk:keyOf kav = some k) (hkk:o8 t k = true) (hm:s7 t m) (ok:Bool) :
  ∃ v,(Instr.lookup T (a.eval x) (a.eval y) ok).run P w = .ok (if ok then .tuple #[v, .bool (n6 m k).isSome] else v) w ∧ C7 (kx E θ nx hp w) (Az m k (Q9 zv)) v:=by
 obtain ⟨hu,ht,hz⟩:=tm.out
 obtain ⟨r,es,clock,hθ,hr,hsz,hes⟩:=h.map hb
 obtain ⟨hv,hnx⟩:=Kj (h.rel hx)
 have hv':a.eval x = .map (some r):=by rw [hv];exact hθ
 have hky:=FW hk (h.rel hy)
 have hkind:=o9 hkk
 obtain ⟨q,hq,hspec⟩:=findNow_spec (t:=t) hkind m es.toList 0 (by simpa using hsz) (fun p hp=>o9 (hm p hp)) (fun j p e hj he=>(hes j p e hj (by simpa using he)).1)
 have hidx:=MO (m:=m) (k:=k)
 simp only [Instr.lookup,Sem.run_bind,run_underlying hu,Result.andThen_ok,hv',hky,MapKept.run_getObj_map hr,Sem.run_pure,W9 ht hkind,run_findKey ht hq]
 cases hf:m.findIdx? (fun p=>decide (p.1 = k)) with
 | none =>
   rw [hf] at hspec hidx
   subst hspec
   simp only at hidx
   cases hi:P.info? e with
   | none=>rw [hi] at hz;simp at hz
   | some inf =>
     rw [hi] at hz
     simp only [Sem.run_bind,R6 hi (by simpa using hz),Result.andThen_ok,Sem.run_pure,hidx]
     refine ⟨zv,by cases ok <;> rfl,?_⟩
     simp only [Az,hidx]
     exact .im (Bn zv)
 | some j =>
   rw [hf] at hspec hidx
   obtain ⟨e,he,rfl⟩:=hspec
   obtain ⟨p,hp1,hp2,hp3⟩:=hidx
   simp only [Sem.run_pure,Result.andThen_ok,hp3]
   refine ⟨e.val,by cases ok <;> rfl,?_⟩
   simp only [Az,hp3]
   exact .im (hes j p e hp1 (by simpa using he)).2
theorem MP {T kt e:Nat} {t:TypeDesc} {zv:Value} [tm:Ay P T kt e t zv] {i:Nat} {m:List (Key × AV)} {kav:AV} {k:Key} (hx:ev x = some (.mp i)) (hb:A5 hp i = some (.map m)) (hy:ev y = some kav) (hk:keyOf kav = some k) (hkk:o8 t k = true) (hm:s7 t m) :
  D7 P E nx hp ev (.lookup T x y false) ty (Az m k (Q9 zv)) :=
 C6 fun _ _ _ θ a w h=>by
  obtain ⟨v,h1,h2⟩:=ED (P:=P) (T:=T) h hx hb hy hk hkk hm false
  exact ⟨v,by simp only [execOp,Sem.run_bind,h1,Result.andThen_ok,Sem.run_pure];rfl,h2⟩
theorem Hz {T kt e:Nat} {t:TypeDesc} {zv:Value} [tm:Ay P T kt e t zv] {i:Nat} {m:List (Key × AV)} {kav:AV} {k:Key} (hx:ev x = some (.mp i)) (hb:A5 hp i = some (.map m)) (hy:ev y = some kav) (hk:keyOf kav = some k) (hkk:o8 t k = true) (hm:s7 t m) :
  D7 P E nx hp ev (.lookup T x y true) ty (.tup [Az m k (Q9 zv), .b (n6 m k).isSome]) :=
 C6 fun _ _ _ θ a w h=>by
  obtain ⟨v,h1,h2⟩:=ED (P:=P) (T:=T) h hx hb hy hk hkk hm true
  refine ⟨.tuple #[v, .bool (n6 m k).isSome],by simp only [execOp,Sem.run_bind,h1,Result.andThen_ok,Sem.run_pure];rfl,?_⟩
  exact .tup [_,_] [v, .bool (n6 m k).isSome] rfl fun j u z hu hz=>by
   match j,hu,hz with
   | 0,hu,hz=>cases hu;cases hz;exact h2
   | 1,hu,hz=>cases hu;cases hz;exact .im (.v _)
theorem Gw (k:Key) (m:Nat):Instr.sameBits m k.val k.val = true:=by
 cases k with
 | s l =>
   simp only [Key.val,Instr.sameBits]
   show (l.toArray == l.toArray) = true
   simp
 | i k n=>simp [Key.val,Instr.sameBits]
theorem FX {k:Key} {v:AV}:∀ (m:List (Key × AV)),(match m.findIdx? (fun p=>decide (p.1 = k)) with
   | none=>AY m k v = m ++ [(k,v)]
   | some j=>AY m k v = m.set j (k,v))
 | []=>rfl
 | (k',v') :: r=>by
   rw [List.findIdx?_cons]
   by_cases e:k' = k
   ·simp only [e,decide_true,if_true]
    simp [AY]
   ·simp only [e,decide_false]
    have ih:=FX (k:=k) (v:=v) r
    cases hf:r.findIdx? (fun p=>decide (p.1 = k)) with
    | none=>rw [hf] at ih;simp [AY,e];exact ih
    | some j=>rw [hf] at ih;simp [AY,e];exact ih
theorem Et {T kt e:Nat} {t:TypeDesc} {zv:Value} [tm:Ay P T kt e t zv] {i:Nat} {m:List (Key × AV)} {kav av:AV} {k:Key} (hx:D4 σ x = some (.mp i)) (hb:A5 σ.hp i = some (.map m)) (hy:D4 σ y = some kav) (hk:keyOf kav = some k) (hkk:o8 t k = true) (hm:s7 t m) (hz:D4 σ z = some av) (hcl:H4 av = true)
  (kk:B5 P E n ops rest (σ.set i (.map (AY m k av))) K):B5 P E n ops (⟨none, .mapUpdate T x y z,ty,pos,after,none⟩ :: rest) σ K :=
 z6 hb (fun θ a w h=>by
  obtain ⟨hu,ht,_⟩:=tm.out
  obtain ⟨r,es,clock,hθ,hr,hsz,hes⟩:=h.map hb
  obtain ⟨hv,hnx⟩:=Kj (h.rel hx)
  have hv':a.eval x = .map (some r):=by rw [hv];exact hθ
  have hky:=FW hk (h.rel hy)
  have hkind:=o9 hkk
  obtain ⟨q,hq,hspec⟩:=findNow_spec (t:=t) hkind m es.toList 0 (by simpa using hsz) (fun p hp=>o9 (hm p hp)) (fun j p e hj he=>(hes j p e hj (by simpa using he)).1)
  have hset:=FX (k:=k) (v:=av) m
  have hlt:r < w.heap.size:=(Array.getElem?_eq_some_iff.1 hr).1
  have hfin:∃ es' clock',(Instr.mapUpdate T (a.eval x) (a.eval y) (a.eval z)).run P w = .ok () { w with heap:=w.heap.setIfInBounds r (.map es' clock') } ∧ es'.size = (AY m k av).length ∧
    ∀ (j:Nat) (q:Key × AV) e,(AY m k av)[j]? = some q → es'[j]? = some e → e.key = q.1.val ∧ Im (kx E θ σ.nx σ.hp w).U w q.2 e.val:=by
   have himv:=(Q0 hcl).im (h.rel hz)
   cases hf:m.findIdx? (fun p=>decide (p.1 = k)) with
   | none =>
     rw [hf] at hspec hset
     subst hspec
     refine ⟨es.push { key:=k.val,val:=a.eval z,born:=clock },clock + 1,?_,by simp only [hset];simp [hsz],fun j q e hj he=>?_⟩
     ·simp only [Instr.mapUpdate,Sem.run_bind,run_underlying hu,Result.andThen_ok,hv',hky,MapKept.run_getObj_map hr,Sem.run_pure,W9 ht hkind,run_findKey ht hq,MapKept.run_setObj_map _ hr]
     ·simp only [hset] at hj
      rw [Array.getElem?_push] at he
      rw [List.getElem?_append] at hj
      split at hj
      ·rename_i hlt2
       rw [if_neg (by omega)] at he
       exact hes j q e hj he
      ·rename_i hge
       have:j = m.length:=by
        rcases Nat.lt_or_ge m.length j with h1 | h1
        ·rw [List.getElem?_eq_none (by simp;omega)] at hj;cases hj
        ·omega
       subst this
       rw [if_pos (by omega)] at he
       cases he
       simp at hj
       subst hj
       exact ⟨rfl,himv⟩
   | some j0 =>
     rw [hf] at hspec hset
     obtain ⟨e0,he0,rfl⟩:=hspec
     have hj0:j0 < m.length:=by
      have:=(List.getElem?_eq_some_iff.1 he0).1
      simp at this
      omega
     have hmj:m[j0]? = some m[j0]:=List.getElem?_eq_getElem hj0
     have hkeq:m[j0].1 = k:=by
      have:=List.findIdx?_eq_some_iff_getElem.1 hf
      exact of_decide_eq_true this.2.1
     have hek:e0.key = k.val:=by rw [(hes j0 _ e0 hmj (by simpa using he0)).1,hkeq]
     refine ⟨es.modify j0 fun e=>{ e with key:=k.val,val:=a.eval z },clock,?_,by simp only [hset];simp [hsz],fun j q e hj he=>?_⟩
     ·have he0':es[j0]? = some e0:=by simpa using he0
      simp only [Instr.mapUpdate,Sem.run_bind,run_underlying hu,Result.andThen_ok,hv',hky,MapKept.run_getObj_map hr,Sem.run_pure,W9 ht hkind,run_findKey ht hq,Nat.zero_add,he0',Option.map_some,Option.getD_some,Instr.keyThatStays,hek,Gw,if_true,MapKept.run_setObj_map _ hr]
     ·simp only [hset] at hj
      rw [Array.getElem?_modify] at he
      rw [List.getElem?_set] at hj
      by_cases ej:j0 = j
      ·subst ej
       rw [if_pos rfl] at he hj
       rw [if_pos hj0] at hj
       cases hj
       cases hh:es[j0]? with
       | none=>rw [hh] at he;simp at he
       | some e1=>rw [hh] at he;simp at he;subst he;exact ⟨rfl,himv⟩
      ·rw [if_neg ej] at he hj
       exact hes j q e hj he
  obtain ⟨es',clock',hrun,hsz',hes'⟩:=hfin
  refine ⟨{ w with heap:=w.heap.setIfInBounds r (.map es' clock') },by simp only [execOp,Sem.run_bind,hrun,Result.andThen_ok,Sem.run_pure],rfl,rfl,rfl,by simp,fun k hk=>?_,rfl,fun le=>?_⟩
  ·have:k ≠ r:=by intro e;subst e;exact hk (by rw [hθ];rfl)
   simp [Array.getElem?_setIfInBounds_ne (Ne.symm this)]
  ·refine ⟨r,es',clock',by simp [cx,D1,hθ],by simp [cx,hlt],hsz',fun j q e hj he=>⟨(hes' j q e hj he).1,((hes' j q e hj he).2.mono le.heap le.U)⟩⟩) kk
theorem FY {l:List AV} {av:AV} {k:Nat} (hx:ev x = some (.tup l)) (hk:l[k]? = some av):D7 P E nx hp ev (.extract x k) ty av :=
 C6 fun _ _ _ θ a w h=>by
  have:∃ cs:List Value,a.eval x = .tuple cs.toArray ∧ l.length = cs.length ∧ ∀ (j:Nat) u z,l[j]? = some u → cs[j]? = some z → C7 (kx E θ nx hp w) u z:=by
   have r:=h.rel hx
   generalize a.eval x = v at r
   cases r with
   | im hi=>cases hi with | tup l cs hl hc=>exact ⟨cs,rfl,hl,fun j u z hu hz=>.im (hc j u z hu hz)⟩
   | tup l cs hl hc=>exact ⟨cs,rfl,hl,hc⟩
  obtain ⟨cs,hv,hl,hr⟩:=this
  have hlt:k < cs.length:=by rw [← hl];exact (List.getElem?_eq_some_iff.1 hk).1
  have hc:cs[k]? = some cs[k]:=List.getElem?_eq_getElem hlt
  refine ⟨cs[k],?_,hr k av _ hk hc⟩
  simp only [execOp,hv,Instr.extract]
  simp [hc,Sem.run_bind,Sem.run_pure]
theorem Gx {f:Nat} {xs:List Operand} {caps:List AV} (ha:P5 ev xs = some caps) (hf:f < Bm):D7 P E nx hp ev (.makeFunc (.func f) #[] xs.toArray) ty (.fo f caps) :=
 C6 fun _ _ _ θ a w h=>by
  obtain ⟨hl,hr⟩:=W7 h xs caps ha
  exact ⟨.func (.func f) #[] (xs.map a.eval).toArray,by simp [execOp,Instr.makeFunc,Sem.run_bind,Sem.run_pure],by
   have:=C7.fo (c:=kx E θ nx hp w) f caps (xs.map a.eval) (by simp [hl]) fun j u z hu hz=>hr j u z hu hz
   unfold IY at this
   rwa [if_pos hf] at this⟩
theorem JW {f:Nat} {xs:List Operand} {caps:List AV} (ha:P5 ev xs = some caps) (hcl:G3 caps = true):D7 P E nx hp ev (.makeFunc (.func f) #[] xs.toArray) ty (.fn f caps) :=
 C6 fun _ _ _ θ a w h=>by
  obtain ⟨hl,hr⟩:=W7 h xs caps ha
  refine ⟨.func (.func f) #[] (xs.map a.eval).toArray,by simp [execOp,Instr.makeFunc,Sem.run_bind,Sem.run_pure], .im (.fn f caps _ (by simp [hl]) fun j u z hu hz=>?_)⟩
  exact (J6 hcl u (List.mem_of_getElem? hu)).im (hr j u z hu hz)
theorem IA (l:List UInt8) (i j:Nat):((⟨l.toArray⟩:ByteArray).extract i j) = ⟨((l.take j).drop i).toArray⟩:=by
 apply ByteArray.ext
 simp [ByteArray.data_extract]
 rw [List.drop_take]
def V5 (ev:Operand → Option AV) (dflt:Nat):Option Operand → Option Int
 | none=>some dflt
 | some x=>match ev x with
   | some (.v (.int _ i))=>some i
   | _=>none
theorem z8 {k:IntKind} {i:Int} {m:Nat} (h0:0 ≤ i) (h1:i ≤ m) (c:BoundsCode) (w:World):(Instr.sliceBound (.int k i) m c).run P w = .ok i.toNat w:=by
 simp [Instr.sliceBound,asIntOf,Sem.run_bind,Sem.run_pure,h0,h1]
theorem BA {isS:Bool} {len cap:Nat} {lo hi:Option Operand} {l h:Int} {θ:Th} {a:Act} {w:World} (hev:P8 E θ nx hp ev a w) (hl:V5 ev 0 lo = some l) (hh:V5 ev len hi = some h) (h0:0 ≤ l) (h1:l ≤ h) (h2:h ≤ cap) :
  (Instr.sliceBounds isS len cap (lo.map a.eval) (hi.map a.eval) none).run P w = .ok (l.toNat,h.toNat,cap) w:=by
 have hb:∀ (o:Option Operand) (df:Nat) (i:Int),V5 ev df o = some i → (o = none ∧ i = df) ∨ ∃ y k,o = some y ∧ a.eval y = .int k i:=by
  intro o df i ho
  cases o with
  | none=>exact .inl ⟨rfl,by simp [V5] at ho;exact ho.symm⟩
  | some y =>
    simp only [V5] at ho
    split at ho
    ·rename_i k j hj
     cases ho
     exact .inr ⟨y,k,rfl,(hev.rel hj).val⟩
    ·cases ho
 have h3:0 ≤ h:=by omega
 rcases hb lo 0 l hl with ⟨rfl,rfl⟩ | ⟨yl,kl,rfl,hyl⟩ <;> rcases hb hi len h hh with ⟨rfl,rfl⟩ | ⟨yh,kh,rfl,hyh⟩
 ·simp [Instr.sliceBounds,Sem.run_bind,Sem.run_pure]
 ·simp only [Instr.sliceBounds,Option.map_none,Option.map_some,Sem.run_bind,Sem.run_pure,Result.andThen_ok,hyh,z8 h3 h2]
  rfl
 ·simp only [Instr.sliceBounds,Option.map_none,Option.map_some,Sem.run_bind,Sem.run_pure,Result.andThen_ok,hyl,z8 h0 h1]
  rfl
 ·have h4:l ≤ (h.toNat:Int):=by omega
  simp only [Instr.sliceBounds,Option.map_some,Sem.run_bind,Sem.run_pure,Result.andThen_ok,hyl,hyh,z8 h3 h2,z8 h0 h4]
theorem DC {T:Nat} [ts:N7 P T] {s:List UInt8} {lo hi:Option Operand} {l h:Int} (hx:ev x = some (.str s)) (hl:V5 ev 0 lo = some l) (hh:V5 ev s.length hi = some h) (h0:0 ≤ l) (h1:l ≤ h) (h2:h ≤ s.length) :
  D7 P E nx hp ev (.slice T x lo hi none) ty (.str ((s.take h.toNat).drop l.toNat)) :=
 C6 fun _ _ _ θ a w hs=>by
  have hv:=(hs.rel hx).sval
  refine ⟨.string ⟨((s.take h.toNat).drop l.toNat).toArray⟩,?_, .im (.str _)⟩
  have hb:=BA (P:=P) (isS:=false) (cap:=s.length) hs hl hh h0 h1 h2
  have hsz:(ByteArray.mk s.toArray).size = s.length:=rfl
  simp only [execOp,hv,Instr.sliceAt,Instr.slice,Sem.run_bind,run_underlying ts.out,Result.andThen_ok,Option.isSome_none,Option.map_none,hsz,Bool.false_eq_true,if_false,hb,IA,Sem.run_pure]
theorem JX {T e sz:Nat} [ts:J2 P T e sz] {s:List (List AV)} {lo hi:Option Operand} {l h:Int} (hx:ev x = some (.sl sz s)) (hl:V5 ev 0 lo = some l) (hh:V5 ev s.length hi = some h) (h0:0 ≤ l) (h1:l ≤ h) (h2:h ≤ s.length) :
  D7 P E nx hp ev (.slice T x lo hi none) ty (.sl sz ((s.take h.toNat).drop l.toNat)) :=
 C6 fun _ _ _ θ a w hs=>by
  obtain ⟨hu,inf,hi2,hsz⟩:=ts.out
  have hlen:((s.take h.toNat).drop l.toNat).length = h.toNat - l.toNat:=by rw [List.length_drop,List.length_take];omega
  rcases u7 (hs.rel hx) with ⟨hv,e⟩ | ⟨p,cap,f,hv,h3,h4,h5,h6,h7,h8⟩
  ·subst e
   have hb:=BA (P:=P) (isS:=true) (cap:=0) hs hl hh h0 h1 (by simpa using h2)
   have e1:h = 0:=by simp at h2;omega
   have e2:l = 0:=by omega
   subst e1;subst e2
   refine ⟨.slice none 0 0,?_, .im (.slnil sz)⟩
   simp only [List.length_nil] at hb
   simp only [execOp,hv,Instr.sliceAt,Instr.slice,Sem.run_bind,run_underlying hu,Result.andThen_ok,Option.map_none,hb,Sem.run_pure,sizeOf,typeInfo,program,Sem.run,hi2]
   rfl
  ·have hb:=BA (P:=P) (isS:=true) (cap:=cap) hs hl hh h0 h1 (by omega)
   refine ⟨.slice (some (if cap = l.toNat then p else p.add (l.toNat * sz))) (h.toNat - l.toNat) (cap - l.toNat),?_,?_⟩
   ·simp only [execOp,hv,Instr.sliceAt,Instr.slice,Sem.run_bind,run_underlying hu,Result.andThen_ok,Option.map_none,hb,Sem.run_pure,sizeOf,typeInfo,program,Sem.run,hi2,hsz]
    split <;> rfl
   ·rw [← hlen]
    have hget:∀ (i:Nat) el,((s.take h.toNat).drop l.toNat)[i]? = some el → s[l.toNat + i]? = some el ∧ l.toNat + i < s.length ∧ l.toNat ≠ cap:=by
     intro i el hi
     rw [List.getElem?_drop,List.getElem?_take] at hi
     split at hi
     ·have:=(List.getElem?_eq_some_iff.1 hi).1
      exact ⟨hi,this,by omega⟩
     ·cases hi
    refine .im (.sl sz _ _ _ (fun i j=>f (l.toNat + i) j) (by rw [hlen];omega) (by omega) (fun hne hs0=>?_) (fun el hel=>?_) (fun i hi j hj=>?_) (fun i el hi j u hu=>?_))
    ·have:s ≠ []:=by intro e;subst e;simp at hne
     split
     ·exact h5 this hs0
     ·rw [N0];exact h5 this hs0
    ·exact h6 el (List.mem_of_mem_take (List.mem_of_mem_drop hel))
    ·have hg:=hget i _ (List.getElem?_eq_getElem hi)
     rw [if_neg (fun e=>hg.2.2 e.symm),c9]
     have:=h7 (l.toNat + i) hg.2.1 j hj
     rw [Nat.add_mul,Nat.add_assoc] at this
     exact this
    ·have hg:=hget i _ hi
     exact h8 _ _ hg.1 j u hu
end rules
def Cb (h h':Hp) (i v len:Nat):AV :=
 match A5 h i with
 | some (.row _ sz v1 l)=>cond (Nat.beq v v1) (match A5 h' i with
   | some (.row _ _ v2 _)=>.row i v2 len
   | _=>.sl sz l) .any
 | _=>.any
def Cc (h h':Hp) (i v k off:Nat):AV :=
 match A5 h i with
 | some (.row _ sz v1 l)=>cond (Nat.beq v v1) (match A5 h' i with
   | some (.row _ _ v2 _)=>.elt i v2 k off
   | _=>match l[k]? with
     | some el=>.iptr (el.drop off)
     | none=>.any) .any
 | _=>.any
def Cd (h h':Hp) (i v lo len:Nat):AV :=
 match A5 h i with
 | some (.row _ sz v1 l)=>cond (Nat.beq v v1) (match A5 h' i with
   | some (.row _ _ v2 _)=>.sub i v2 lo len
   | _=>.sl sz ((l.take (lo + len)).drop lo)) .any
 | _=>.any
def EE (h h':Hp) (i off:Nat):AV :=
 match A5 h i with
 | some (.bx _ l)=>match A5 h' i with
   | some _=>.ref i off
   | none=>cond (G3 l) (.iptr (l.drop off)) (.ref i off)
 | _=>.ref i off
mutual
def F7 (h h':Hp):AV → AV
 | .row i v len=>Cb h h' i v len
 | .elt i v k off=>Cc h h' i v k off
 | .sub i v lo len=>Cd h h' i v lo len
 | .ref i off=>EE h h' i off
 | .agg l=>.agg (V8 h h' l)
 | .tup l=>.tup (V8 h h' l)
 | .fo f l=>.fo f (V8 h h' l)
 | x=>x
def V8 (h h':Hp):List AV → List AV
 | []=>[]
 | x :: r=>F7 h h' x :: V8 h h' r
end
theorem J1 (h h':Hp):∀ l,V8 h h' l = l.map (F7 h h')
 | []=>by simp [V8]
 | x :: r=>by simp [V8,J1 h h' r]
def AA (h h':Hp):E0 → E0 → Prop
 | .bx τ l,b=>b = .bx τ (V8 h h' l)
 | .row e sz _ l,b=>∃ v,b = .row e sz v l
 | .map m,b=>b = .map m
 | .it s p,b=>b = .it s p
mutual
def M4 (m:Nat):AV → Bool
 | .ref i _=>Nat.blt i m
 | .row i _ _=>Nat.blt i m
 | .mp i=>Nat.blt i m
 | .elt i _ _ _=>Nat.blt i m
 | .sub i _ _ _=>Nat.blt i m
 | .agg l=>M9 m l
 | .tup l=>M9 m l
 | .fo _ l=>M9 m l
 | _=>true
def M9 (m:Nat):List AV → Bool
 | []=>true
 | x :: r=>M4 m x && M9 m r
end
theorem T9 {m:Nat}:∀ {l:List AV},M9 m l = true → ∀ x ∈ l,M4 m x = true
 | [],_,x,hx=>by cases hx
 | y :: r,h,x,hx=>by
   simp only [M9,Bool.and_eq_true] at h
   rcases List.mem_cons.1 hx with rfl | hx
   ·exact h.1
   ·exact T9 h.2 x hx
structure Cx.sub (c c':Cx):Prop where
 θ:c'.θ = c.θ
 w:c'.w = c.w
 X:∀ k,c'.X k → c.X k
 blk:∀ i b',A5 c'.hp i = some b' → ∃ b,A5 c.hp i = some b ∧ AA c.hp c'.hp b b'
 apart:∀ i j b b' k,A5 c.hp i = some b → A5 c.hp j = some b' → FP c.θ i b k → FP c.θ j b' k → i = j
 fresh:∀ i b k,A5 c.hp i = some b → FP c.θ i b k → ¬ c.X k
 owns:∀ i b,A5 c.hp i = some b → J5 c i b
theorem MQ {h h':Hp} {b b':E0} (e:AA h h' b b'):L4 b' = L4 b:=by
 cases b with
 | bx τ l=>simp only [AA] at e;subst e;rfl
 | row e1 sz v l=>obtain ⟨v2,rfl⟩:=e;rfl
 | map m=>simp only [AA] at e;subst e;rfl
 | it s p=>simp only [AA] at e;subst e;rfl
theorem FP.cv {θ:Th} {i k:Nat} {h h':Hp} {b b':E0} (e:AA h h' b b') (f:FP θ i b' k):FP θ i b k:=by
 unfold FP at f ⊢
 rwa [MQ e] at f
theorem Cx.sub.U {c c':Cx} (h:c.sub c'):∀ k,c'.U k → c.U k:=by
 rintro k (hk | ⟨i,b,hi,hk⟩)
 ·exact .inl (h.X k hk)
 ·obtain ⟨b0,hb0,hcv⟩:=h.blk i b hi
  exact .inr ⟨i,b0,hb0,FP.cv hcv (by rw [← h.θ];exact hk)⟩
theorem Cx.sub.notU {c c':Cx} (h:c.sub c') {i:Nat} {b:E0} (hi:A5 c.hp i = some b) (hn:A5 c'.hp i = none) {k:Nat} (hk:FP c.θ i b k):¬ c'.U k:=by
 rintro (hx | ⟨j,b',hj,hk'⟩)
 ·exact h.fresh i b k hi hk (h.X k hx)
 ·obtain ⟨b0,hb0,hcv⟩:=h.blk j b' hj
  have:=h.apart i j b b0 k hi hb0 hk (FP.cv hcv (by rw [← h.θ];exact hk'))
  subst this
  rw [hn] at hj
  cases hj
theorem Cx.sub.im {c c':Cx} (h:c.sub c') {a:AV} {x:Value} (hi:Im c.U c.w a x):Im c'.U c'.w a x:=hi.mono (fun k _ _=>by rw [h.w]) fun k _ hu=>h.U k hu
theorem BB {c c':Cx} (h:c.sub c') {i e sz v:Nat} {l:List (List AV)} (hi:A5 c.hp i = some (.row e sz v l)) (hn:A5 c'.hp i = none):Im c'.U c'.w (.sl sz l) (c.θ i):=by
 obtain ⟨xs,hown,hsz,hr,_⟩:=h.owns i _ hi
 rcases hown.2 with ⟨hv,hn0⟩ | ⟨g,cap,cur,hv,_,hg,hc,hm,hlen,hx⟩
 ·have:l = []:=List.eq_nil_of_length_eq_zero hn0
  subst this
  rw [hv]
  exact .slnil sz
 ·have hown':=hown
  rw [hv] at hown'
  rw [hv]
  have hnu:¬ c'.U g:=h.notU hi hn (.inl (by rw [hv];rfl))
  have hget:∀ i,i < l.length → ∀ j,j < sz → ∃ y,xs[i * sz + j]? = some y:=by
   intro i hi j hj
   have h1:(i + 1) * sz ≤ l.length * sz:=Nat.mul_le_mul_right _ hi
   rw [Nat.add_mul,Nat.one_mul] at h1
   have h2:i * sz + j < xs.length:=by rw [hown.1];omega
   exact ⟨_,List.getElem?_eq_getElem h2⟩
  refine .sl sz l ⟨g,0,none⟩ cap (fun i j=>xs.getD (i * sz + j) undef) hc hm (fun _ _=>hnu) hsz (fun i hi j hj=>?_) (fun k el hk j x hx=>?_)
  ·obtain ⟨y,hy⟩:=hget i hi j hj
   have:=hown'.cells (g:=g) rfl _ _ hy
   rw [E9,h.w]
   have e:xs.getD (i * sz + j) undef = y:=by rw [List.getD,hy];rfl
   rw [e]
   simpa [E9] using this
  ·obtain ⟨y,hy,him⟩:=hr k el hk j x hx
   have e:xs.getD (k * sz + j) undef = y:=by rw [List.getD,hy];rfl
   rw [e]
   exact h.im him
theorem Px {U:Nat → Prop} {w:World} {sz lo len:Nat} {l:List (List AV)} {v x:Value} (h:Im U w (.sl sz l) v) (hs:Ps v sz lo len x) (hl:lo + len ≤ l.length):Im U w (.sl sz ((l.take (lo + len)).drop lo)) x:=by
 have hlen:((l.take (lo + len)).drop lo).length = len:=by rw [List.length_drop,List.length_take];omega
 rcases hs with ⟨rfl,rfl,rfl,rfl⟩ | ⟨g,n,cap,rfl,rfl⟩
 ·have:(l.take (0 + 0)).drop 0 = []:=by simp
  rw [this];exact .slnil sz
 ·cases h with
  | sl sz l a cap f hcap hm hu hsz hc h =>
    have hget:∀ (i:Nat) el,((l.take (lo + len)).drop lo)[i]? = some el → l[lo + i]? = some el ∧ lo + i < l.length ∧ cap ≠ lo:=by
     intro i el hi
     rw [List.getElem?_drop,List.getElem?_take] at hi
     split at hi
     ·have:=(List.getElem?_eq_some_iff.1 hi).1
      exact ⟨hi,this,by omega⟩
     ·cases hi
    have key:∀ p:Addr,p = (if cap = lo then ⟨g,0,none⟩ else ⟨g,lo * sz,none⟩) → Im U w (.sl sz ((l.take (lo + len)).drop lo)) (.slice (some p) ((l.take (lo + len)).drop lo).length (cap - lo)):=fun p hp=>by
     refine .sl sz _ p _ (fun i j=>f (lo + i) j) (by rw [hlen];omega) (by omega) (fun hne hs0=>?_) (fun el hel=>?_) (fun i hi j hj=>?_) (fun i el hi j u hu=>?_)
     ·have:l ≠ []:=by intro e;subst e;simp at hne
      have h5:=hu this hs0
      rw [hp];split <;> exact h5
     ·exact hsz el (List.mem_of_mem_take (List.mem_of_mem_drop hel))
     ·have hg:=hget i _ (List.getElem?_eq_getElem hi)
      rw [hp,if_neg hg.2.2,E9]
      have:=hc (lo + i) hg.2.1 j hj
      rw [E9,Nat.zero_add,Nat.add_mul,Nat.add_assoc] at this
      exact this
     ·have hg:=hget i _ hi
      exact h _ _ hg.1 j u hu
    have:=key _ rfl
    rwa [hlen] at this
theorem RA {c c':Cx} (h:c.sub c') {a:AV} {x:Value} (hi:Im c.U c.w a x):F7 c.hp c'.hp a = a ∨ C7 c' (F7 c.hp c'.hp a) x:=by
 induction hi with
 | v x=>exact .inl rfl
 | str l=>exact .inl rfl
 | fn f l cs hl hc ih=>exact .inl rfl
 | iptr l a f hu hc hh ih=>exact .inl rfl
 | err t p=>exact .inl rfl
 | any x=>exact .inl rfl
 | own e sz l x=>exact .inl rfl
 | slnil sz=>exact .inl rfl
 | sl sz l a cap f hcap hm hu hsz hc hh ih=>exact .inl rfl
 | agg l cs hl hc ih =>
   refine .inr ?_
   simp only [F7,J1]
   refine .agg _ cs (by simp [hl]) fun j u z hu hz=>?_
   simp only [List.getElem?_map,Option.map_eq_some_iff] at hu
   obtain ⟨u0,hu0,rfl⟩:=hu
   rcases ih j u0 z hu0 hz with e | e
   ·rw [e];exact .im (h.im (hc j u0 z hu0 hz))
   ·exact e
 | tup l cs hl hc ih =>
   refine .inr ?_
   simp only [F7,J1]
   refine .tup _ cs (by simp [hl]) fun j u z hu hz=>?_
   simp only [List.getElem?_map,Option.map_eq_some_iff] at hu
   obtain ⟨u0,hu0,rfl⟩:=hu
   rcases ih j u0 z hu0 hz with e | e
   ·rw [e];exact .im (h.im (hc j u0 z hu0 hz))
   ·exact e
theorem Bv {c c':Cx} (h:c.sub c') {a:AV} {x:Value} (r:C7 c a x):c.nx ≤ c'.nx ∨ M4 c'.nx (F7 c.hp c'.hp a) = true → C7 c' (F7 c.hp c'.hp a) x:=by
 induction r with
 | any x=>intro _;exact .any x
 | im hi =>
   intro _
   rcases RA h hi with e | e
   ·rw [e];exact .im (h.im hi)
   ·exact e
 | agg l cs hl _ ih =>
   intro hlt
   simp only [F7,J1] at hlt ⊢
   refine .agg _ cs (by simp [hl]) fun j u z hu hz=>?_
   have hmem:=List.mem_of_getElem? hu
   simp only [List.getElem?_map,Option.map_eq_some_iff] at hu
   obtain ⟨u0,hu0,rfl⟩:=hu
   exact ih j u0 z hu0 hz (hlt.imp id fun h=>T9 (by simpa only [M4] using h) _ hmem)
 | tup l cs hl _ ih =>
   intro hlt
   simp only [F7,J1] at hlt ⊢
   refine .tup _ cs (by simp [hl]) fun j u z hu hz=>?_
   have hmem:=List.mem_of_getElem? hu
   simp only [List.getElem?_map,Option.map_eq_some_iff] at hu
   obtain ⟨u0,hu0,rfl⟩:=hu
   exact ih j u0 z hu0 hz (hlt.imp id fun h=>T9 (by simpa only [M4] using h) _ hmem)
 | fo f l cs hl _ ih =>
   intro hlt
   simp only [F7,J1] at hlt ⊢
   refine .fo f _ cs (by simp [hl]) fun j u z hu hz=>?_
   have hmem:=List.mem_of_getElem? hu
   simp only [List.getElem?_map,Option.map_eq_some_iff] at hu
   obtain ⟨u0,hu0,rfl⟩:=hu
   exact ih j u0 z hu0 hz (hlt.imp id fun h=>T9 (by simpa only [M4] using h) _ hmem)
 | ref i off b hi hθ =>
   intro hlt
   simp only [F7,EE] at hlt ⊢
   have keep:(c.nx ≤ c'.nx ∨ M4 c'.nx (.ref i off) = true) → C7 c' (.ref i off) (.pointer (some ⟨b,off,none⟩)):=fun hlt=>by
    refine .ref i off b ?_ (by rw [h.θ];exact hθ)
    rcases hlt with h1 | h1
    ·omega
    ·simpa only [M4,Nat.blt_eq] using h1
   split at hlt
   ·rename_i l hb
    split at hlt
    ·exact keep hlt
    ·rename_i hn
     cases hcl:G3 l with
     | false=>rw [hcl] at hlt;exact keep hlt
     | true =>
       obtain ⟨b',arr,T,hθ',hh,hsz,hr⟩:=h.owns i _ hb
       have e:b' = b:=by rw [hθ] at hθ';injection hθ' with e;injection e with e;injection e with e;exact e.symm
       subst e
       have hnu:¬ c'.U b':=h.notU hb hn (.inl (by rw [hθ];rfl))
       refine .im (.iptr _ _ (fun j=>arr.getD (off + j) undef) (fun _=>hnu) (fun j hj=>?_) (fun j u hu=>?_))
       ·have hlt':off + j < arr.size:=by rw [List.length_drop] at hj;omega
        rw [E9,h.w,G5 hh]
        simp [Array.getD,hlt']
       ·rw [List.getElem?_drop] at hu
        have hlt':off + j < arr.size:=by have:=(List.getElem?_eq_some_iff.1 hu).1;omega
        have hget:arr[off + j]? = some (arr.getD (off + j) undef):=by simp [Array.getD,hlt']
        have:=hr _ u _ hu hget
        exact h.im ((J6 hcl u (List.mem_of_getElem? hu)).im this)
   ·exact keep hlt
 | row i ver len x hi hr =>
   intro hlt
   simp only [F7,Cb]
   split
   ·rename_i e sz v1 l hb
    cases hv:Nat.beq ver v1 with
    | false=>exact .any x
    | true =>
      have hv':=Nat.eq_of_beq_eq_true hv
      subst hv'
      obtain ⟨_,hcur⟩:=hr e sz ver l hb
      obtain ⟨hlen,hx⟩:=hcur rfl
      simp only [cond_true]
      split
      ·rename_i e2 sz2 v2 l2 hb2
       have hnx:i < c'.nx:=by
        simp only [F7,Cb,hb,hv,cond_true,hb2,M4,Nat.blt_eq] at hlt
        omega
       refine .row i v2 len x hnx fun e3 sz3 v3 l3 hb3=>?_
       rw [hb2] at hb3
       cases hb3
       refine ⟨Nat.le_refl _,fun _=>?_⟩
       obtain ⟨b,hb',hrow⟩:=h.blk i _ hb2
       rw [hb] at hb'
       cases hb'
       obtain ⟨v,hrow⟩:=hrow
       cases hrow
       exact ⟨hlen,by rw [h.θ];exact hx⟩
      ·rename_i hb2
       rw [hx]
       refine .im (BB h hb ?_)
       cases hq:A5 c'.hp i with
       | none=>rfl
       | some b' =>
         obtain ⟨b,hb',hrow⟩:=h.blk i _ hq
         rw [hb] at hb'
         cases hb'
         obtain ⟨v,rfl⟩:=hrow
         exact absurd hq (hb2 _ _ _ _)
   ·exact .any x
 | mp i r hi hθ =>
   intro hlt
   refine .mp i r ?_ (by rw [h.θ];exact hθ)
   simp only [F7,M4,Nat.blt_eq] at hlt
   omega
 | sub i ver lo len x hi hr =>
   intro hlt
   simp only [F7,Cd]
   split
   ·rename_i e sz v1 l hb
    cases hv:Nat.beq ver v1 with
    | false=>exact .any x
    | true =>
      have hv':=Nat.eq_of_beq_eq_true hv
      subst hv'
      obtain ⟨_,hcur⟩:=hr e sz ver l hb
      obtain ⟨hlen,hx⟩:=hcur rfl
      simp only [cond_true]
      split
      ·rename_i e2 sz2 v2 l2 hb2
       have hnx:i < c'.nx:=by
        simp only [F7,Cd,hb,hv,cond_true,hb2,M4,Nat.blt_eq] at hlt
        omega
       refine .sub i v2 lo len x hnx fun e3 sz3 v3 l3 hb3=>?_
       rw [hb2] at hb3
       cases hb3
       refine ⟨Nat.le_refl _,fun _=>?_⟩
       obtain ⟨b,hb',hrow⟩:=h.blk i _ hb2
       rw [hb] at hb'
       cases hb'
       obtain ⟨v,hrow⟩:=hrow
       cases hrow
       exact ⟨hlen,by rw [h.θ];exact hx⟩
      ·rename_i hb2
       refine .im (Px (BB h hb ?_) hx hlen)
       cases hq:A5 c'.hp i with
       | none=>rfl
       | some b' =>
         obtain ⟨b,hb',hrow⟩:=h.blk i _ hq
         rw [hb] at hb'
         cases hb'
         obtain ⟨v,rfl⟩:=hrow
         exact absurd hq (hb2 _ _ _ _)
   ·exact .any x
 | elt i ver k off x hi hr =>
   intro hlt
   simp only [F7,Cc]
   split
   ·rename_i e sz v1 l hb
    cases hv:Nat.beq ver v1 with
    | false=>exact .any x
    | true =>
      have hv':=Nat.eq_of_beq_eq_true hv
      subst hv'
      obtain ⟨_,hcur⟩:=hr e sz ver l hb
      obtain ⟨g,m,cap,hθ,hx⟩:=hcur rfl
      simp only [cond_true]
      split
      ·rename_i e2 sz2 v2 l2 hb2
       have hnx:i < c'.nx:=by
        simp only [F7,Cc,hb,hv,cond_true,hb2,M4,Nat.blt_eq] at hlt
        omega
       refine .elt i v2 k off x hnx fun e3 sz3 v3 l3 hb3=>?_
       rw [hb2] at hb3
       cases hb3
       refine ⟨Nat.le_refl _,fun _=>?_⟩
       obtain ⟨b,hb',hrow⟩:=h.blk i _ hb2
       rw [hb] at hb'
       cases hb'
       obtain ⟨v,hrow⟩:=hrow
       cases hrow
       exact ⟨g,m,cap,by rw [h.θ];exact hθ,hx⟩
      ·rename_i hb2
       split
       ·rename_i el hel
        have hn:A5 c'.hp i = none:=by
         cases hq:A5 c'.hp i with
         | none=>rfl
         | some b' =>
           obtain ⟨b,hb',hrow⟩:=h.blk i _ hq
           rw [hb] at hb'
           cases hb'
           obtain ⟨v,rfl⟩:=hrow
           exact absurd hq (hb2 _ _ _ _)
        have him:=BB h hb hn
        rw [hθ] at him
        cases him with
        | sl sz l a cap' f hcap hm hu hsz hc hh =>
          have hlt2:k < l.length:=(List.getElem?_eq_some_iff.1 hel).1
          have hes:=hsz el (List.mem_of_getElem? hel)
          rw [hx]
          refine .im (.iptr _ _ (fun j=>f k (off + j)) (fun hne=>?_) (fun j hj=>?_) (fun j u hu'=>?_))
          ·have h1:=List.length_pos_iff.2 hne
           rw [List.length_drop] at h1
           exact hu (by intro e;subst e;simp at hlt2) (by omega)
          ·rw [List.length_drop] at hj
           have:=hc k hlt2 (off + j) (by omega)
           rw [E9] at this ⊢
           rw [← this]
           congr 2
           omega
          ·rw [List.getElem?_drop] at hu'
           exact hh k el hel (off + j) u hu'
       ·exact .any x
   ·exact .any x
theorem H6.cv {E:Env} {n:Nat} {θ:Th} {σ σ':St} {a:Act} {w:World} (h:H6 E n θ σ a w) (h0:E.n0 ≤ σ'.nx)
  (hs:∀ s x',look σ'.sl s = some x' → ∃ x,look σ.sl s = some x ∧ F7 σ.hp σ'.hp x = x' ∧ (σ.nx ≤ σ'.nx ∨ M4 σ'.nx x' = true))
  (hb:∀ i b',A5 σ'.hp i = some b' → (σ.nx ≤ σ'.nx ∨ i < σ'.nx) ∧ ∃ b,A5 σ.hp i = some b ∧ AA σ.hp σ'.hp b b' ∧ (σ.nx ≤ σ'.nx ∨ ∀ τ l,b' = .bx τ l → M9 σ'.nx l = true))
  (hv:∀ i e sz v l,A5 σ'.hp i = some (.row e sz v l) → W6 e = true → σ.nx ≤ σ'.nx ∧ ∀ j e1 sz1 v1 l1 v2,A5 σ'.hp j = some (.row e1 sz1 v1 l1) → A5 σ.hp j = some (.row e1 sz1 v2 l1) → v1 = v2):H6 E n θ σ' a w:=by
 have sub:(cx E θ σ w).sub (cx E θ σ' w):=⟨rfl,rfl,fun _ h=>h,fun i b' hi=>by
  obtain ⟨_,b,h1,h2,_⟩:=hb i b' hi
  exact ⟨b,h1,h2⟩,h.apart,fun i b k hi hk=>(h.mine i b k hi hk).1,fun i b hi=>(h.owns i b hi).2⟩
 refine ⟨h.size,h.defers,h.fr,fun s x' hx=>?_,fun i b' hi=>?_,fun i j b1 b2 k hi hj=>?_,fun i b' k hi=>?_,h.X,⟨h0,fun i hi=>(h.base.2 i hi).imp id fun ⟨h1,h2⟩=>⟨h1,fun ⟨e',sz,v,l,hl,hk⟩=>h2 (by
  obtain ⟨_,b,g1,g2,_⟩:=hb i _ hl
  cases b with
  | bx _ _=>cases g2
  | map _=>cases g2
  | it _ _=>cases g2
  | row e1 sz1 v1 l1 =>
    obtain ⟨v2,g3⟩:=g2
    cases g3
    exact ⟨_,_,_,_,g1,hk⟩)⟩⟩⟩
 ·obtain ⟨x,h1,rfl,h2⟩:=hs s x' hx
  exact Bv sub (h.slots s x h1) h2
 ·obtain ⟨h0,b,h1,h2,h3⟩:=hb i b' hi
  obtain ⟨h4,h5⟩:=h.owns i b h1
  refine ⟨h0.elim (fun h=>by omega) id,?_⟩
  cases b with
  | bx τ l =>
    simp only [AA] at h2
    subst h2
    obtain ⟨b',arr,T,e1,e2,e3,e4⟩:=h5
    refine ⟨b',arr,T,e1,e2,by rw [J1,List.length_map];exact e3,fun j u z hu hz=>?_⟩
    rw [J1] at hu h3
    have hmem:=List.mem_of_getElem? hu
    simp only [List.getElem?_map,Option.map_eq_some_iff] at hu
    obtain ⟨u0,hu0,rfl⟩:=hu
    exact Bv sub (e4 j u0 z hu0 hz) (h3.imp id fun h=>T9 (h _ _ rfl) _ hmem)
  | row e sz v l =>
    obtain ⟨v2,rfl⟩:=h2
    obtain ⟨xs,e1,e2,e3,e4⟩:=h5
    exact ⟨xs,e1,e2,(fun k el hk j x hx=>by
     obtain ⟨y,hy,hi⟩:=e3 k el hk j x hx
     exact ⟨y,hy,sub.im hi⟩),fun hne=>⟨(e4 hne).1,fun k el hk j e' sz' l' hj=>by
     rcases (e4 hne).2 k el hk j e' sz' l' hj with ⟨q0,q1,g,m,cap,y,q2,q3,q4⟩ | ⟨g,m,cap,y,ys,q1,q2,q3,q4,q5,q6,q7⟩
     ·obtain ⟨hv1,hv2⟩:=hv i e sz v2 l hi q0
      refine .inl ⟨q0,q1,g,m,cap,y,q2,q3,?_⟩
      generalize e' - C4 = mm at q4 ⊢
      cases q4 with
      | im h=>cases h
      | row _ _ _ _ hm hr =>
        refine .row _ _ _ _ (Nat.lt_of_lt_of_le hm hv1) fun e1 sz1 v1 l1 hl1=>?_
        obtain ⟨_,b1,g1,g2,_⟩:=hb _ _ hl1
        cases b1 with
        | bx _ _=>cases g2
        | map _=>cases g2
        | it _ _=>cases g2
        | row e3 sz3 v3 l3 =>
          obtain ⟨v4,g3⟩:=g2
          cases g3
          have:=hv2 _ _ _ _ _ _ hl1 g1
          subst this
          exact hr _ _ _ _ g1
     exact .inr ⟨g,m,cap,y,ys,q1,q2,q3,q4,q5,fun q el' hq j' x hx=>by
      obtain ⟨z,hz,hi⟩:=q6 q el' hq j' x hx
      exact ⟨z,hz,sub.im hi⟩,q7⟩⟩⟩
  | map m =>
    simp only [AA] at h2
    subst h2
    obtain ⟨r,es,clock,e1,e2,e3,e4⟩:=h5
    exact ⟨r,es,clock,e1,e2,e3,fun j q e hj he=>⟨(e4 j q e hj he).1,sub.im (e4 j q e hj he).2⟩⟩
  | it t p =>
    simp only [AA] at h2
    subst h2
    exact h5
 ·intro hk1 hk2
  obtain ⟨_,b1',h1,g1,_⟩:=hb i b1 hi
  obtain ⟨_,b2',h2,g2,_⟩:=hb j b2 hj
  exact h.apart i j _ _ k h1 h2 (FP.cv g1 hk1) (FP.cv g2 hk2)
 ·intro hk
  obtain ⟨_,b1',h1,g1,_⟩:=hb i b' hi
  exact h.mine i _ k h1 (FP.cv g1 hk)
def Gy (m:Nat):List (Nat × AV) → Bool
 | []=>true
 | (_,x) :: r=>M4 m x && Gy m r
def G4 (m:Nat):Hp → Bool
 | []=>true
 | (i,some (.bx _ l)) :: r=>Nat.blt i m && M9 m l && G4 m r
 | (i,some (.row e _ _ _)) :: r=>Nat.blt i m && (!(W6 e) && G4 m r)
 | (i,_) :: r=>Nat.blt i m && G4 m r
theorem FZ {m:Nat}:∀ {l:List (Nat × AV)} {s:Nat} {x:AV},Gy m l = true → look l s = some x → M4 m x = true
 | [],s,x,_,h=>by cases h
 | (s0,x0) :: r,s,x,hs,h=>by
   simp only [Gy,Bool.and_eq_true] at hs
   rw [D9] at h
   by_cases e:s0 = s
   ·subst e;rw [if_pos rfl] at h;cases h;exact hs.1
   ·rw [if_neg e] at h;exact FZ hs.2 h
theorem X2 {m:Nat}:∀ {l:Hp} {i:Nat} {b:E0},G4 m l = true → A5 l i = some b → i < m ∧ ∀ τ c,b = .bx τ c → M9 m c = true
 | [],i,b,_,h=>by cases h
 | (i0,b0) :: r,i,b,hs,h=>by
   rw [D5] at h
   have hs':Nat.blt i0 m = true ∧ (∀ τ c,b0 = some (.bx τ c) → M9 m c = true) ∧ G4 m r = true:=by
    match b0,hs with
    | some (.bx τ c),hs=>simp only [G4,Bool.and_eq_true] at hs;exact ⟨hs.1.1,(fun _ c' e=>by cases e;exact hs.1.2),hs.2⟩
    | some (.row ..),hs=>simp only [G4,Bool.and_eq_true] at hs;exact ⟨hs.1,(fun _ c' e=>by cases e),hs.2.2⟩
    | some (.map ..),hs=>simp only [G4,Bool.and_eq_true] at hs;exact ⟨hs.1,(fun _ c' e=>by cases e),hs.2⟩
    | some (.it ..),hs=>simp only [G4,Bool.and_eq_true] at hs;exact ⟨hs.1,(fun _ c' e=>by cases e),hs.2⟩
    | none,hs=>simp only [G4,Bool.and_eq_true] at hs;exact ⟨hs.1,(fun _ c' e=>by cases e),hs.2⟩
   by_cases e:i0 = i
   ·subst e
    rw [if_pos rfl] at h
    subst h
    exact ⟨Nat.blt_eq ▸ hs'.1,fun τ c hc=>hs'.2.1 τ c (by rw [hc])⟩
   ·rw [if_neg e] at h;exact X2 hs'.2.2 h
theorem Ce {m:Nat}:∀ {l:Hp} {i e sz v:Nat} {c:List (List AV)},G4 m l = true → A5 l i = some (.row e sz v c) → W6 e = false
 | [],i,e,sz,v,c,_,h=>by cases h
 | (i0,b0) :: r,i,e,sz,v,c,hs,h=>by
   rw [D5] at h
   by_cases e0:i0 = i
   ·subst e0
    rw [if_pos rfl] at h
    subst h
    simp only [G4,Bool.and_eq_true,Bool.not_eq_true'] at hs
    exact hs.2.1
   ·rw [if_neg e0] at h
    have hs':G4 m r = true:=by
     match b0,hs with
     | some (.row ..),hs=>simp only [G4,Bool.and_eq_true] at hs;exact hs.2.2
     | some (.bx ..),hs=>simp only [G4,Bool.and_eq_true] at hs;exact hs.2
     | some (.map ..),hs=>simp only [G4,Bool.and_eq_true] at hs;exact hs.2
     | some (.it ..),hs=>simp only [G4,Bool.and_eq_true] at hs;exact hs.2
     | none,hs=>simp only [G4,Bool.and_eq_true] at hs;exact hs.2
    exact Ce hs' h
def AB (σ:St) (h':Hp):List (Nat × AV) → Prop
 | []=>True
 | (s,x) :: r=>(look σ.sl s).map (F7 σ.hp h') = some x ∧ AB σ h' r
def k8 (σ:St) (h':Hp):Hp → Prop
 | []=>True
 | (_,none) :: r=>k8 σ h' r
 | (i,some b) :: r=>(match A5 σ.hp i with
   | some b0=>AA σ.hp h' b0 b
   | none=>False) ∧ k8 σ h' r
theorem AB.look {σ:St} {h':Hp}:∀ {l:List (Nat × AV)} {s:Nat} {x:AV},AB σ h' l → look l s = some x → (look σ.sl s).map (F7 σ.hp h') = some x
 | [],s,x,_,h=>by cases h
 | (s0,x0) :: r,s,x,hs,h=>by
   rw [D9] at h
   by_cases e:s0 = s
   ·subst e;rw [if_pos rfl] at h;cases h;exact hs.1
   ·rw [if_neg e] at h;exact AB.look hs.2 h
theorem k8.look {σ:St} {h':Hp}:∀ {l:Hp} {i:Nat} {b:E0},k8 σ h' l → A5 l i = some b → ∃ b0,A5 σ.hp i = some b0 ∧ AA σ.hp h' b0 b
 | [],i,b,_,h=>by cases h
 | (i0,none) :: r,i,b,hs,h=>by
   rw [D5] at h
   by_cases e:i0 = i
   ·subst e;rw [if_pos rfl] at h;cases h
   ·rw [if_neg e] at h;exact k8.look (l:=r) hs h
 | (i0,some b0) :: r,i,b,hs,h=>by
   rw [D5] at h
   by_cases e:i0 = i
   ·subst e
    rw [if_pos rfl] at h
    cases h
    have h1:=hs.1
    split at h1
    ·rename_i b1 hb1;exact ⟨b1,hb1,h1⟩
    ·exact h1.elim
   ·rw [if_neg e] at h;exact k8.look hs.2 h
theorem B3 {E:Env} {n m:Nat} {σ σ':St} (h0:E.n0 = m) (hm:Nat.ble m σ'.nx = true) (hs:AB σ σ'.hp σ'.sl) (hh:k8 σ σ'.hp σ'.hp) (hn:Nat.ble σ'.nx σ.nx = true) (hl:Gy σ'.nx σ'.sl = true) (hb:G4 σ'.nx σ'.hp = true):St.le E n σ σ':=by
 rintro a w ⟨θ,h⟩
 refine ⟨θ,h.cv (h0 ▸ Nat.ble_eq ▸ hm) (fun s x' hx=>?_) (fun i b' hi=>?_) (fun i e sz v l hi hln=>?_)⟩
 ·have:=AB.look hs hx
  rw [Option.map_eq_some_iff] at this
  obtain ⟨x,h1,h2⟩:=this
  exact ⟨x,h1,h2, .inr (FZ hl hx)⟩
 ·obtain ⟨b0,h1,h2⟩:=k8.look hh hi
  obtain ⟨h3,h4⟩:=X2 hb hi
  exact ⟨.inr h3,b0,h1,h2, .inr h4⟩
 ·rw [Ce hb hi] at hln;cases hln
def e9 (hp:Hp):Hp → Bool
 | []=>true
 | (i,some (.row _ _ v _)) :: r=>(match A5 hp i with
   | some (.row _ _ v' _)=>Nat.beq v v'
   | _=>true) && e9 hp r
 | _ :: r=>e9 hp r
theorem Bw {hp:Hp}:∀ {h:Hp},e9 hp h = true → ∀ j e1 sz1 v1 l1 e2 sz2 v2 l2,A5 h j = some (.row e1 sz1 v1 l1) → A5 hp j = some (.row e2 sz2 v2 l2) → v1 = v2
 | [],_,j,_,_,_,_,_,_,_,_,h,_=>by cases h
 | (i0,b0) :: r,hs,j,e1,sz1,v1,l1,e2,sz2,v2,l2,h,h2=>by
   rw [D5] at h
   by_cases e:i0 = j
   ·subst e
    rw [if_pos rfl] at h
    subst h
    simp only [e9,h2,Bool.and_eq_true] at hs
    exact Nat.eq_of_beq_eq_true hs.1
   ·rw [if_neg e] at h
    have hs':e9 hp r = true:=by
     match b0,hs with
     | some (.row ..),hs=>simp only [e9,Bool.and_eq_true] at hs;exact hs.2
     | some (.bx ..),hs=>exact hs
     | some (.map ..),hs=>exact hs
     | some (.it ..),hs=>exact hs
     | none,hs=>exact hs
    exact Bw hs' j e1 sz1 v1 l1 e2 sz2 v2 l2 h h2
theorem EF {E:Env} {n m:Nat} {σ σ':St} (h0:E.n0 = m) (hm:Nat.ble m σ'.nx = true) (hs:AB σ σ'.hp σ'.sl) (hh:k8 σ σ'.hp σ'.hp) (hn:Nat.beq σ'.nx σ.nx = true) (hl:Gy σ'.nx σ'.sl = true) (hvs:e9 σ.hp σ'.hp = true):St.le E n σ σ':=by
 rintro a w ⟨θ,h⟩
 have hnx:=Nat.eq_of_beq_eq_true hn
 refine ⟨θ,h.cv (h0 ▸ Nat.ble_eq ▸ hm) (fun s x' hx=>?_) (fun i b' hi=>?_) (fun i e sz v l _ _=>⟨by omega,fun j e1 sz1 v1 l1 v2 h1 h2=>Bw hvs _ _ _ _ _ _ _ _ _ h1 h2⟩)⟩
 ·have:=AB.look hs hx
  rw [Option.map_eq_some_iff] at this
  obtain ⟨x,h1,h2⟩:=this
  exact ⟨x,h1,h2, .inl (by omega)⟩
 ·obtain ⟨b0,h1,h2⟩:=k8.look hh hi
  exact ⟨.inl (by omega),b0,h1,h2, .inl (by omega)⟩
def Y0 (f:AV → AV):List (Nat × AV) → List (Nat × AV)
 | []=>[]
 | (s,x) :: r=>(s,f x) :: Y0 f r
def U0 (i:Nat):Hp → Hp
 | []=>[]
 | (k,b) :: r=>cond (Nat.beq k i) (U0 i r) ((k,b) :: U0 i r)
def AC (f:AV → AV):Hp → Hp
 | []=>[]
 | (k,some (.bx τ l)) :: r=>(k,some (.bx τ (l.map f))) :: AC f r
 | (k,b) :: r=>(k,b) :: AC f r
theorem p0 (f:AV → AV):∀ (l:List (Nat × AV)) (s:Nat),look (Y0 f l) s = (look l s).map f
 | [],s=>rfl
 | (k,x) :: r,s=>by
   simp only [Y0,D9]
   by_cases e:k = s
   ·simp [e]
   ·simp [e,p0 f r s]
theorem U1 (i:Nat):∀ (l:Hp) (j:Nat),A5 (U0 i l) j = if i = j then none else A5 l j
 | [],j=>by simp [U0,A5,look]
 | (k,b) :: r,j=>by
   simp only [U0]
   cases h:Nat.beq k i with
   | true =>
     have:=Nat.eq_of_beq_eq_true h
     subst this
     rw [cond_true,U1 k r j,D5]
     by_cases e:k = j <;> simp [e]
   | false =>
     have hne:k ≠ i:=by intro e;subst e;simp at h
     rw [cond_false,D5,D5,U1 i r j]
     by_cases e:k = j
     ·subst e;simp [Ne.symm hne]
     ·simp [e]
def n7 (f:AV → AV):E0 → E0
 | .bx τ l=>.bx τ (l.map f)
 | b=>b
theorem AZ (f:AV → AV):∀ (l:Hp) (j:Nat),A5 (AC f l) j = (A5 l j).map (n7 f)
 | [],j=>by simp [AC,A5,look]
 | (k,b) :: r,j=>by
   have:AC f ((k,b) :: r) = (k,b.map (n7 f)) :: AC f r:=by
    cases b with
    | none=>rfl
    | some b=>cases b <;> rfl
   rw [this,D5,D5,AZ f r j]
   by_cases e:k = j <;> simp [e]
def St.frz (σ:St) (i:Nat):St :=
 let h':=U0 i σ.hp
 { sl:=Y0 (F7 σ.hp h') σ.sl,nx:=σ.nx,hp:=AC (F7 σ.hp h') h' }
theorem IB {h h1 h2:Hp} (e:∀ j,(A5 h2 j) = (A5 h1 j).map (n7 (F7 h h1))) (i v len:Nat):Cb h h2 i v len = Cb h h1 i v len:=by
 unfold Cb
 rw [e i]
 cases A5 h1 i with
 | none=>rfl
 | some b=>cases b <;> rfl
theorem IC {h h1 h2:Hp} (e:∀ j,(A5 h2 j) = (A5 h1 j).map (n7 (F7 h h1))) (i v k off:Nat):Cc h h2 i v k off = Cc h h1 i v k off:=by
 unfold Cc
 rw [e i]
 cases A5 h1 i with
 | none=>rfl
 | some b=>cases b <;> rfl
theorem ID {h h1 h2:Hp} (e:∀ j,(A5 h2 j) = (A5 h1 j).map (n7 (F7 h h1))) (i v k off:Nat):Cd h h2 i v k off = Cd h h1 i v k off:=by
 unfold Cd
 rw [e i]
 cases A5 h1 i with
 | none=>rfl
 | some b=>cases b <;> rfl
theorem IE {h h1 h2:Hp} (e:∀ j,(A5 h2 j) = (A5 h1 j).map (n7 (F7 h h1))) (i off:Nat):EE h h2 i off = EE h h1 i off:=by
 unfold EE
 rw [e i]
 cases A5 h1 i with
 | none=>rfl
 | some b=>cases b <;> rfl
mutual
theorem Bx {h h1 h2:Hp} (e:∀ j,(A5 h2 j) = (A5 h1 j).map (n7 (F7 h h1))):∀ a,F7 h h2 a = F7 h h1 a
 | .row i v len=>by simp only [F7];exact IB e i v len
 | .elt i v k off=>by simp only [F7];exact IC e i v k off
 | .sub i v k off=>by simp only [F7];exact ID e i v k off
 | .ref i off=>by simp only [F7];exact IE e i off
 | .agg l=>by simp only [F7];rw [X3 e l]
 | .tup l=>by simp only [F7];rw [X3 e l]
 | .fo f l=>by simp only [F7];rw [X3 e l]
 | .any=>rfl
 | .v _=>rfl
 | .str _=>rfl
 | .iptr _=>rfl
 | .sl _ _=>rfl
 | .mp _=>rfl
 | .fn _ _=>rfl
 | .err=>rfl
 | .own _ _ _=>rfl
theorem X3 {h h1 h2:Hp} (e:∀ j,(A5 h2 j) = (A5 h1 j).map (n7 (F7 h h1))):∀ l,V8 h h2 l = V8 h h1 l
 | []=>rfl
 | x :: r=>by simp only [V8];rw [Bx e x,X3 e r]
end
theorem Gz {E:Env} {n:Nat} {σ:St} (i:Nat):St.le E n σ (σ.frz i):=by
 rintro a w ⟨θ,h⟩
 have e:∀ j,A5 (σ.frz i).hp j = (A5 (U0 i σ.hp) j).map (n7 (F7 σ.hp (U0 i σ.hp))):=fun j=>AZ _ _ _
 refine ⟨θ,h.cv h.base.1 (fun s x' hx=>?_) (fun j b' hj=>?_) (fun _ _ _ _ _ _ _=>⟨Nat.le_refl _,fun j e1 sz1 v1 l1 v2 h1 h2=>?_⟩)⟩
 ·have hx':(look σ.sl s).map (F7 σ.hp (U0 i σ.hp)) = some x':=by rw [← p0];exact hx
  rw [Option.map_eq_some_iff] at hx'
  obtain ⟨x,h1,h2⟩:=hx'
  exact ⟨x,h1,by rw [Bx e];exact h2, .inl (Nat.le_refl _)⟩
 ·refine ⟨.inl (Nat.le_refl _),?_⟩
  rw [e j,Option.map_eq_some_iff] at hj
  obtain ⟨b,hb,rfl⟩:=hj
  rw [U1] at hb
  split at hb
  ·cases hb
  ·refine ⟨b,hb,?_, .inl (Nat.le_refl _)⟩
   cases b with
   | bx τ l=>simp only [AA,n7,X3 e,J1]
   | row e sz v l=>exact ⟨v,rfl⟩
   | map m=>rfl
   | it _ _=>rfl
 ·rw [e j,Option.map_eq_some_iff] at h1
  obtain ⟨b,hb,hbe⟩:=h1
  rw [U1] at hb
  split at hb
  ·cases hb
  ·rw [hb] at h2
   cases h2
   cases hbe;rfl
def k9:List Nat → Hp → Hp
 | [],h=>h
 | i :: r,h=>k9 r (U0 i h)
theorem DD:∀ (is:List Nat) (h:Hp) (j:Nat),A5 (k9 is h) j = none ∨ A5 (k9 is h) j = A5 h j
 | [],h,j=>.inr rfl
 | i :: r,h,j=>by
   rcases DD r (U0 i h) j with e | e
   ·exact .inl e
   ·rw [k9,e,U1]
    by_cases hij:i = j
    ·exact .inl (by rw [if_pos hij])
    ·exact .inr (by rw [if_neg hij])
mutual
def BC:AV → Bool
 | .v _ | .str _ | .err=>true
 | .agg l | .tup l=>EG l
 | .sl _ []=>true
 | _=>false
def EG:List AV → Bool
 | []=>true
 | x :: r=>BC x && EG r
end
theorem BD:∀ {l:List AV},EG l = true → ∀ x ∈ l,BC x = true
 | [],_,x,hx=>by cases hx
 | y :: r,h,x,hx=>by
   simp only [EG,Bool.and_eq_true] at h
   rcases List.mem_cons.1 hx with rfl | hx
   ·exact h.1
   ·exact BD h.2 x hx
theorem Oh {U U':Nat → Prop} {w:World} {a:AV} {v:Value} (h:Im U w a v):BC a = true → Im U' w a v:=by
 induction h with
 | v x=>intro _;exact .v x
 | str l=>intro _;exact .str l
 | agg l cs hl h ih=>intro hf;exact .agg l cs hl fun j x c hx hc=>ih j x c hx hc (BD (by simpa [BC] using hf) x (List.mem_of_getElem? hx))
 | tup l cs hl h ih=>intro hf;exact .tup l cs hl fun j x c hx hc=>ih j x c hx hc (BD (by simpa [BC] using hf) x (List.mem_of_getElem? hx))
 | fn f l cs hl h ih=>intro hf;cases hf
 | iptr l a f hu hc h ih=>intro hf;cases hf
 | err t p=>intro _;exact .err t p
 | any x=>intro _;exact .any x
 | own e sz l x=>intro _;exact .own e sz l x
 | slnil sz=>intro _;exact .slnil sz
 | sl sz l a cap f hcap hm hu hsz hc h ih =>
   intro hf
   cases l with
   | nil=>exact .sl sz [] a cap f hcap hm (fun h=>absurd rfl h) hsz hc (fun i e he=>by simp at he)
   | cons x r=>cases hf
theorem Kk {P:Program} {E:Env} {nx:Nat} {hp:Hp} {ev:Operand → Option AV} {ty:TypeId} {f:Nat} {xs:List Operand} {args caps L:List AV} {r:AV} {ts:Array TypeId} {g:Operand} (is:List Nat) (hc:B6 P f (L ++ caps) r) (ha:P5 ev xs = some args)
  (hL:V8 hp (k9 is hp) args = L) (hcl:G3 L = true) (hfl:BC r = true)
  (hg:∀ θ a w,P8 E θ nx hp ev a w → ∃ cs:List Value,a.eval g = .func (.func f) #[] cs.toArray ∧ caps.length = cs.length ∧ ∀ (j:Nat) x c,caps[j]? = some x → cs[j]? = some c → Im (kx E θ nx hp w).U w x c) :
  D7 P E nx hp ev (.call ⟨.value g,xs.toArray,ts⟩) ty r:=by
 intro d pos after θ a w K hs hk
 obtain ⟨hl,hr⟩:=W7 hs xs args ha
 obtain ⟨cs,hge,hcl2,hcr⟩:=hg θ a w hs
 unfold Be
 rw [Gn hc.1 hge]
 let h':=k9 is hp
 let H:=AC (F7 hp h') h'
 have e:∀ j,A5 H j = (A5 h' j).map (n7 (F7 hp h')):=fun j=>AZ _ _ _
 have sub:(kx E θ nx hp w).sub (kx E θ nx H w):=⟨rfl,rfl,fun _ h=>h,fun j b' hj=>by
  have hj':A5 H j = some b':=hj
  rw [e j,Option.map_eq_some_iff] at hj'
  obtain ⟨b,hb,rfl⟩:=hj'
  rcases DD is hp j with h | h
  ·have hb':A5 (k9 is hp) j = some b:=hb
   rw [h] at hb';cases hb'
  ·have hb':A5 (k9 is hp) j = some b:=hb
   rw [h] at hb'
   refine ⟨b,hb',?_⟩
   cases b with
   | bx τ l=>simp only [AA,n7,kx,X3 e,J1]
   | row e sz v l=>exact ⟨v,rfl⟩
   | map m=>rfl
   | it _ _=>rfl,hs.apart,hs.fresh,fun i b hi=>(hs.owns i b hi).2⟩
 have hX:=hc.2 (kx E θ nx H w).U w (xs.map a.eval ++ cs) (fun k hk=>hs.Ult k (sub.U k hk)) (hs.tab.mono (fun k _ hk=>sub.U k hk) fun _ _ _=>rfl) (by simp only [List.length_append, ← hL,J1,List.length_map,hl,hcl2]) fun j av v hj hv=>by
  have hLl:L.length = xs.length:=by rw [← hL,J1,List.length_map,hl]
  rw [List.getElem?_append] at hj hv
  have e1:(xs.map a.eval).length = L.length:=by simp [hLl]
  rw [e1] at hv
  split at hj
  ·rename_i hlt
   rw [if_pos hlt] at hv
   have hcv:=J6 hcl av (List.mem_of_getElem? hj)
   rw [← hL,J1,List.getElem?_map,Option.map_eq_some_iff] at hj
   obtain ⟨a0,ha0,rfl⟩:=hj
   have h1:=Bv sub (hr j a0 v ha0 hv) (.inl (Nat.le_refl _))
   have h2:F7 (kx E θ nx hp w).hp (kx E θ nx H w).hp a0 = F7 hp (k9 is hp) a0:=Bx (h:=hp) (h1:=h') (h2:=H) e a0
   rw [h2] at h1
   exact hcv.im h1
  ·rename_i hlt
   rw [if_neg hlt] at hv
   exact sub.im (hcr _ av v hj hv)
 rw [← List.append_toArray] at hX
 refine Calls.mono hX ?_
 rintro e w' ⟨v,rfl,hv,hb⟩
 exact ⟨v,rfl,hk v w' hb (.im (Oh hv hfl))⟩
structure D6 (p A:Prop):Prop where
 h:p
 k:A
structure J0 {α:Type} (l:List α) (i:Int) (F:α → Prop):Prop where
 h0:0 ≤ i
 h:i < l.length
 k:∀ el,l[i.toNat]? = some el → F el
structure RY (a:AV) (F:AV → Prop):Prop where
 h:F a
structure Eu {α:Type} (l:List α) (F:Nat → Prop):Prop where
 k:F l.length
structure W4 (b:Bool) (A B:Prop):Prop where
 t:b = true → A
 f:b = false → B
structure EH (P:Program) (f:Nat) (args:List AV) (F:AV → Prop):Prop where
 h:∃ r,GS P f args r ∧ F r
structure RB (P:Program) (f:Nat) (hp:Hp) (l caps:List AV) (F:AV → Prop):Prop where
 h:∃ (is:List Nat) (L:List AV) (r:AV),V8 hp (k9 is hp) l = L ∧ G3 L = true ∧ B6 P f (L ++ caps) r ∧ BC r = true ∧ F r
structure Bz (P:Program) (T:Nat) (F:Bool → Nat → Prop):Prop where
 h:∃ ag sz,G2 P T ag sz ∧ F ag sz
structure JY (P:Program) (T:Nat) (F:List AV → Prop):Prop where
 h:∃ l,H7 P T l ∧ F (l.map Q9)
structure Ev (P:Program) (S f:Nat) (F:Nat → Nat → Prop):Prop where
 h:∃ off sz,L8 P S f off sz ∧ F off sz
structure Bi (P:Program) (T:Nat) (F:Nat → Nat → Prop):Prop where
 h:∃ e sz,J2 P T e sz ∧ F e sz
structure JZ (P:Program) (T:Nat) (F:Nat → Nat → Prop):Prop where
 h:∃ len e sz,As P T len e sz ∧ F len sz
structure OT (P:Program) (T:Nat) (A:Prop):Prop where
 [h:KT P T]
 k:A
structure l4 (P:Program) (T:Nat) (A:Prop):Prop where
 h:N7 P T
 k:A
structure Ae (P:Program) (T:Nat) (A:Prop):Prop where
 h:u6 P T
 k:A
structure EI (P:Program) (T:Nat) (k1 k2:IntKind) (A:Prop):Prop where
 h:y7 P T k1 k2
 k:A
structure BE (P:Program) (T:Nat) (k:IntKind) (A:Prop):Prop where
 h:r8 P T k
 k:A
structure EJ (P:Program) (T:Nat) (k1 k2 k3:IntKind) (A:Prop):Prop where
 h:Ca P T k1 k2 k3
 k:A
structure EK (P:Program) (T:Nat) (A:Prop):Prop where
 h:CZ P T
 k:A
structure CA (P:Program) (T:Nat) (F:List AV → List (Nat × Nat) → Prop):Prop where
 h:∃ zs pl,H7 P T zs ∧ Q2 P T pl ∧ F (zs.map Q9) pl
structure w3 (P:Program) (T:Nat) (F:Nat → Nat → Nat → List AV → Prop):Prop where
 h:∃ e sz bs z,J2 P T e sz ∧ H7 P e z ∧ M7 P e bs ∧ z.length = sz ∧ F e sz bs (z.map Q9)
structure Ja (P:Program) (T:Nat) (F:TypeDesc → AV → Prop):Prop where
 h:∃ k e t z,Ay P T k e t z ∧ F t (Q9 z)
inductive EL (P:Program) (S T:Nat):AV → AV → Prop
 | bytes {e sz:Nat} (l:List UInt8) [N7 P S] [J2 P T e sz] [K3 P e .u8] (h:l.length ≤ 9223372036854775807):EL P S T (.str l) (.sl 1 (l.map fun b=>[.v (.int .u8 b.toNat)]))
 | back {e sz:Nat} (l:List UInt8) [J2 P S e sz] [K3 P e .u8] [N7 P T]:EL P S T (.sl 1 (l.map fun b=>[.v (.int .u8 b.toNat)])) (.str l)
 | int {k k':IntKind} (m:Int) [K3 P T k] [K3 P S k']:EL P S T (.v (.int k' m)) (.v (.int k (k.wrap m)))
 | rune {k:IntKind} (m:Int) [K3 P S k] [N7 P T]:EL P S T (.v (.int k m)) (.str (Utf8.encode m).data.toList)
structure V0 (P:Program) (S T:Nat) (a:AV) (F:AV → Prop):Prop where
 h:∃ r,EL P S T a r ∧ F r
theorem Py {p A:Prop} (h:p) (k:A):D6 p A:=⟨h,k⟩
theorem Fa {α β:Type} {l:List β} {f:β → α} {k:Nat} {F:α → Prop} (h:k < l.length) (kk:∀ x,l[k]? = some x → F (f x)):J0 (l.map f) (k:Int) F :=
 ⟨by omega,by simpa using h,fun el hel=>by
  simp at hel
  obtain ⟨u,hu,rfl⟩:=hel
  exact kk u hu⟩
theorem HA {α β:Type} {l:List β} {f:β → α} {i:Int} {F:α → Prop} (h0:0 ≤ i) (h:i < l.length) (kk:∀ x,l[i.toNat]? = some x → F (f x)):J0 (l.map f) i F :=
 ⟨h0,by simpa using h,fun el hel=>by
  simp at hel
  obtain ⟨u,hu,rfl⟩:=hel
  exact kk u hu⟩
theorem Kl {α:Type} {l:List α} {i:Int} {F:α → Prop} (h0:0 ≤ i) (h:i < l.length) (kk:∀ x,l[i.toNat]? = some x → F x):J0 l i F:=⟨h0,h,kk⟩
theorem I2 {α:Type} {l:List α} {i:Int} {x:α} {F:α → Prop} (h:l[i.toNat]? = some x) (h0:0 ≤ i) (kk:F x):J0 l i F:=by
 have h1:=(List.getElem?_eq_some_iff.1 h).1
 exact ⟨h0,by omega,fun el hel=>by rw [h] at hel;cases hel;exact kk⟩
theorem B4 {α β:Type} {l:List β} {f:β → α} {i:Int} {x:β} {F:α → Prop} (h:l[i.toNat]? = some x) (h0:0 ≤ i) (kk:F (f x)):J0 (l.map f) i F :=
 I2 (by simp [h]) h0 kk
theorem Oi {α β:Type} {l:List β} {f:β → α} {F:Nat → Prop} (k:F l.length):Eu (l.map f) F:=⟨by rw [List.length_map];exact k⟩
theorem RC {α:Type} {l:List α} {F:Nat → Prop} (k:F l.length):Eu l F:=⟨k⟩
theorem Pz {A B:Prop} (k:A):W4 true A B:=⟨fun _=>k,fun h=>by cases h⟩
theorem QA {A B:Prop} (k:B):W4 false A B:=⟨(fun h=>by cases h),fun _=>k⟩
theorem QB {p A B:Prop} [Decidable p] (h1:p → A) (h2:¬ p → B):W4 (decide p) A B:=⟨fun h=>h1 (of_decide_eq_true h),fun h=>h2 (of_decide_eq_false h)⟩
theorem Oj {p A B:Prop} [Decidable p] (h1:¬ p → A) (h2:p → B):W4 (!decide p) A B:=⟨fun h=>h1 (by simpa using h),fun h=>h2 (by simpa using h)⟩
theorem QC {b:Bool} {A B:Prop} (h1:b = true → A) (h2:b = false → B):W4 b A B:=⟨h1,h2⟩
theorem Ok {b:Bool} {A B:Prop} (h1:b = false → A) (h2:b = true → B):W4 (!b) A B:=⟨(fun h=>h1 (by simpa using h)),fun h=>h2 (by simpa using h)⟩
theorem A4 {P:Program} {f:Nat} {args:List AV} {r:AV} {F:AV → Prop} (h:B6 P f args r) (k:F r):EH P f args F:=⟨⟨r, .inl h,k⟩⟩
theorem Ew {P:Program} {f:Nat} {args:List AV} {r:AV} {F:AV → Prop} (h:JU P f args r) (k:F r):EH P f args F:=⟨⟨r, .inr h,k⟩⟩
theorem RD {P:Program} {T:Nat} {ag:Bool} {sz:Nat} {F:Bool → Nat → Prop} [h:G2 P T ag sz] (k:F ag sz):Bz P T F:=⟨⟨ag,sz,h,k⟩⟩
theorem QD {P:Program} {T:Nat} {l:List Value} {F:List AV → Prop} [h:H7 P T l] (k:F (l.map Q9)):JY P T F:=⟨⟨l,h,k⟩⟩
theorem RE {P:Program} {S f off sz:Nat} {F:Nat → Nat → Prop} [h:L8 P S f off sz] (k:F off sz):Ev P S f F:=⟨⟨off,sz,h,k⟩⟩
theorem Rc {P:Program} {T e sz:Nat} {F:Nat → Nat → Prop} [h:J2 P T e sz] (k:F e sz):Bi P T F:=⟨⟨e,sz,h,k⟩⟩
theorem RF {P:Program} {T len e sz:Nat} {F:Nat → Nat → Prop} [h:As P T len e sz] (k:F len sz):JZ P T F:=⟨⟨len,e,sz,h,k⟩⟩
theorem Re {P:Program} {T:Nat} {A:Prop} [h:KT P T] (k:A):OT P T A:=⟨k⟩
theorem QE {P:Program} {T:Nat} {A:Prop} [h:N7 P T] (k:A):l4 P T A:=⟨h,k⟩
theorem Ol {P:Program} {T:Nat} {A:Prop} [h:u6 P T] (k:A):Ae P T A:=⟨h,k⟩
theorem RG {P:Program} {T:Nat} {k:IntKind} {A:Prop} [h:r8 P T k] (kk:A):BE P T k A:=⟨h,kk⟩
theorem Om {P:Program} {T:Nat} {k1 k2 k3:IntKind} {A:Prop} [h:Ca P T k1 k2 k3] (k:A):EJ P T k1 k2 k3 A:=⟨h,k⟩
theorem On {P:Program} {T:Nat} {k1 k2:IntKind} {A:Prop} [h:y7 P T k1 k2] (k:A):EI P T k1 k2 A:=⟨h,k⟩
theorem Oo {P:Program} {T:Nat} {A:Prop} [h:CZ P T] (k:A):EK P T A:=⟨h,k⟩
theorem Oq {P:Program} {T:Nat} {zs:List Value} {pl:List (Nat × Nat)} {F:List AV → List (Nat × Nat) → Prop} [h:H7 P T zs] [h2:Q2 P T pl] (k:F (zs.map Q9) pl):CA P T F:=⟨⟨zs,pl,h,h2,k⟩⟩
theorem RH {P:Program} {T e sz bs:Nat} {z:List Value} {F:Nat → Nat → Nat → List AV → Prop} [h:J2 P T e sz] [h2:H7 P e z] [h3:M7 P e bs] (hz:z.length = sz) (k:F e sz bs (z.map Q9)):w3 P T F:=⟨⟨e,sz,bs,z,h,h2,h3,hz,k⟩⟩
theorem RI {P:Program} {T k e:Nat} {t:TypeDesc} {z:Value} {F:TypeDesc → AV → Prop} [h:Ay P T k e t z] (kk:F t (Q9 z)):Ja P T F:=⟨⟨k,e,t,z,h,kk⟩⟩
theorem Jb {P:Program} {S T e sz:Nat} {l:List UInt8} {F:AV → Prop} [N7 P S] [J2 P T e sz] [K3 P e .u8] (h:l.length ≤ 9223372036854775807) (k:F (.sl 1 (l.map fun b=>[.v (.int .u8 b.toNat)]))):V0 P S T (.str l) F:=⟨⟨_, .bytes (e:=e) (sz:=sz) l h,k⟩⟩
theorem Km {P:Program} {S T e sz:Nat} {l:List UInt8} {F:AV → Prop} [J2 P S e sz] [K3 P e .u8] [N7 P T] (k:F (.str l)):V0 P S T (.sl 1 (l.map fun b=>[.v (.int .u8 b.toNat)])) F:=⟨_, .back (e:=e) (sz:=sz) l,k⟩
theorem Ot {P:Program} {S T:Nat} {k k':IntKind} {m:Int} {F:AV → Prop} [K3 P T k] [K3 P S k'] (h:k.wrap m = m) (kk:F (.v (.int k m))):V0 P S T (.v (.int k' m)) F:=⟨⟨_, .int (k:=k) m,by rw [h];exact kk⟩⟩
theorem MR {P:Program} {S T:Nat} {k k':IntKind} {m:Int} {F:AV → Prop} [K3 P T k] [K3 P S k'] (kk:F (.v (.int k (k.wrap m)))):V0 P S T (.v (.int k' m)) F:=⟨⟨_, .int (k:=k) m,kk⟩⟩
theorem Kn {P:Program} {S T:Nat} {k:IntKind} {m:Int} {F:AV → Prop} [K3 P S k] [N7 P T] (kk:F (.str (Utf8.encode m).data.toList)):V0 P S T (.v (.int k m)) F:=⟨⟨_, .rune (k:=k) m,kk⟩⟩
theorem cond_false {c:Bool} {A:Prop} (h:cond c A False):c = true ∧ A:=by
 cases c
 ·exact h.elim
 ·exact ⟨rfl,h⟩
def Jc:Value → Bool
 | .agg _ | .tuple _=>false
 | _=>true
theorem CB {v:Value} (h:Jc v = true):v.oneCell' = true:=by cases v <;> first | rfl | cases h
def HB (hp:Hp) (a:AV) (A:Prop):Prop :=
 match a with
 | .v x=>cond (Jc x) A False
 | .str _ | .sl _ _ | .iptr _ | .ref _ _ | .mp _ | .fn _ _ | .fo _ _=>A
 | .row i ver _=>match A5 hp i with
   | some (.row _ _ v' _)=>D6 (ver = v') A
   | _=>False
 | _=>False
theorem CC {hp:Hp} {a:AV} {A:Prop} (h:HB hp a A):One hp a ∧ A:=by
 unfold HB at h
 split at h
 ·rename_i x
  obtain ⟨h1,h2⟩:=cond_false h
  exact ⟨One.v (CB h1),h2⟩
 ·exact ⟨.str _,h⟩
 ·exact ⟨.sl _ _,h⟩
 ·exact ⟨.iptr _,h⟩
 ·exact ⟨.ref _ _,h⟩
 ·exact ⟨.mp _,h⟩
 ·exact ⟨.fn _ _,h⟩
 ·exact ⟨.fo _ _,h⟩
 ·split at h
  ·rename_i hl
   obtain ⟨rfl,h⟩:=h
   exact ⟨.row hl,h⟩
  ·exact h.elim
 ·exact h.elim
def Jd (hp:Hp):List AV → Prop → Prop
 | [],A=>A
 | x :: r,A=>HB hp x (Jd hp r A)
theorem EM {hp:Hp}:∀ {l:List AV} {A:Prop},Jd hp l A → X8 hp l ∧ A
 | [],A,h=>⟨trivial,h⟩
 | x :: r,A,h=>by
   obtain ⟨h1,h2⟩:=CC h
   obtain ⟨h3,h4⟩:=EM h2
   exact ⟨⟨h1,h3⟩,h4⟩
def HC (hp:Hp) (a:AV) (A:Prop):Prop :=
 match a with
 | .agg _=>A
 | a=>HB hp a A
theorem CD {hp:Hp} {a:AV} {A:Prop} (h:HC hp a A):Fits hp a ∧ A:=by
 unfold HC at h
 split at h
 ·exact ⟨trivial,h⟩
 ·rename_i hn
  obtain ⟨h1,h2⟩:=CC h
  refine ⟨?_,h2⟩
  cases a <;> first | exact h1 | exact trivial
def m6 (hp:Hp):List (Nat × AV) → Prop → Prop
 | [],A=>A
 | (_,a) :: r,A=>HC hp a (m6 hp r A)
theorem O7 {hp:Hp}:∀ {l:List (Nat × AV)} {A:Prop},m6 hp l A → k6 hp l ∧ A
 | [],A,h=>⟨trivial,h⟩
 | (_,x) :: r,A,h=>by
   obtain ⟨h1,h2⟩:=CD h
   obtain ⟨h3,h4⟩:=O7 h2
   exact ⟨⟨h1,h3⟩,h4⟩
def QF (a:AV) (A:Prop):Prop :=
 match a with
 | .v x=>cond (Jc x) A False
 | .str _ | .sl _ _ | .iptr _ | .fn _ _=>A
 | _=>False
theorem MS {a:AV} {A:Prop} (h:QF a A):M8 a ∧ A:=by
 unfold QF at h
 split at h
 ·obtain ⟨h1,h2⟩:=cond_false h
  exact ⟨CB h1,h2⟩
 ·exact ⟨trivial,h⟩
 ·exact ⟨trivial,h⟩
 ·exact ⟨trivial,h⟩
 ·exact ⟨trivial,h⟩
 ·exact h.elim
def MT:List AV → Prop → Prop
 | [],A=>A
 | x :: r,A=>QF x (MT r A)
def EN:List (List AV) → Prop → Prop
 | [],A=>A
 | x :: r,A=>MT x (EN r A)
theorem Fb:∀ {l:List AV} {A:Prop},MT l A → (∀ u ∈ l,M8 u) ∧ A
 | [],A,h=>⟨fun u hu=>by (cases hu),h⟩
 | x :: r,A,h=>by
   obtain ⟨h1,h2⟩:=MS h
   obtain ⟨h3,h4⟩:=Fb h2
   refine ⟨fun u hu=>?_,h4⟩
   rcases List.mem_cons.1 hu with rfl | hu
   ·exact h1
   ·exact h3 u hu
theorem p4:∀ {l:List (List AV)} {A:Prop},EN l A → W8 l ∧ A
 | [],A,h=>⟨trivial,h⟩
 | x :: r,A,h=>by
   obtain ⟨h1,h2⟩:=Fb h
   obtain ⟨h3,h4⟩:=p4 h2
   exact ⟨⟨h1,h3⟩,h4⟩
def L7 (x:Option AV) (F:AV → Prop):Prop :=
 match x with
 | some a=>F a
 | none=>False
theorem F3 {x:Option AV} {F:AV → Prop} (h:L7 x F):∃ a,x = some a ∧ F a:=by
 unfold L7 at h
 split at h
 ·exact ⟨_,rfl,h⟩
 ·exact h.elim
def HD (op:BinOp) (k:IntKind) (a b:Int) (F:AV → Prop):Prop :=
 match op,k with
 | .add, .i64=>D6 (-9223372036854775808 ≤ a + b ∧ a + b ≤ 9223372036854775807) (F (.v (.int .i64 (a + b))))
 | .sub, .i64=>D6 (-9223372036854775808 ≤ a - b ∧ a - b ≤ 9223372036854775807) (F (.v (.int .i64 (a - b))))
 | .mul, .i64=>D6 (-9223372036854775808 ≤ a * b ∧ a * b ≤ 9223372036854775807) (F (.v (.int .i64 (a * b))))
 | .quo, .i64=>D6 (b ≠ 0 ∧ -9223372036854775808 ≤ a.tdiv b ∧ a.tdiv b ≤ 9223372036854775807) (F (.v (.int .i64 (a.tdiv b))))
 | .quo,k=>D6 (b ≠ 0) (F (.v (.int k (k.wrap (a.tdiv b)))))
 | .rem,k=>D6 (b ≠ 0) (F (.v (.int k (a.tmod b))))
 | op,k=>match X7 op k a b with
   | some r=>F (.v r)
   | none=>False
def MU (op:BinOp) (a b:List UInt8) (F:AV → Prop):Prop :=
 match op with
 | .add=>D6 (a.length + b.length ≤ 9223372036854775807) (F (.str (a ++ b)))
 | op=>match JP op a b with
   | some r=>F (.v r)
   | none=>False
def Je (P:Program) (T:Nat) (op:BinOp) (a b:Bool) (F:AV → Prop):Prop :=
 match op with
 | .eql=>EK P T (F (.v (.bool (decide (a = b)))))
 | .neq=>EK P T (F (.v (.bool (decide (a ≠ b)))))
 | _=>False
def Jf (P:Program) (T:Nat) (op:BinOp) (l m:List AV) (F:AV → Prop):Prop :=
 match op,l,m with
 | .eql,[.v (.int k1 a1), .v (.int k2 a2)],[.v (.int k3 b1), .v (.int k4 b2)]=>cond (decide (k1 = k3 ∧ k2 = k4)) (EI P T k1 k2 (F (.v (.bool (decide (a1 = b1 ∧ a2 = b2)))))) False
 | .neq,[.v (.int k1 a1), .v (.int k2 a2)],[.v (.int k3 b1), .v (.int k4 b2)]=>cond (decide (k1 = k3 ∧ k2 = k4)) (EI P T k1 k2 (F (.v (.bool (!decide (a1 = b1 ∧ a2 = b2)))))) False
 | .eql,[.v (.int k1 a1), .v (.int k2 a2), .v (.int k3 a3)],[.v (.int l1 b1), .v (.int l2 b2), .v (.int l3 b3)]=>cond (decide (k1 = l1 ∧ k2 = l2 ∧ k3 = l3)) (EJ P T k1 k2 k3 (F (.v (.bool (decide (a1 = b1 ∧ a2 = b2 ∧ a3 = b3)))))) False
 | .neq,[.v (.int k1 a1), .v (.int k2 a2), .v (.int k3 a3)],[.v (.int l1 b1), .v (.int l2 b2), .v (.int l3 b3)]=>cond (decide (k1 = l1 ∧ k2 = l2 ∧ k3 = l3)) (EJ P T k1 k2 k3 (F (.v (.bool (!decide (a1 = b1 ∧ a2 = b2 ∧ a3 = b3)))))) False
 | .eql,[.str a1, .v (.int k2 a2)],[.str b1, .v (.int k4 b2)]=>cond (decide (k2 = k4)) (BE P T k2 (F (.v (.bool (decide (a1 = b1 ∧ a2 = b2)))))) False
 | .neq,[.str a1, .v (.int k2 a2)],[.str b1, .v (.int k4 b2)]=>cond (decide (k2 = k4)) (BE P T k2 (F (.v (.bool (!decide (a1 = b1 ∧ a2 = b2)))))) False
 | _,_,_=>False
def EO:Operand → Bool
 | .const .nilIface=>true
 | _=>false
def HE (P:Program) (T:Nat) (op:BinOp) (x:Option AV) (F:AV → Prop):Prop :=
 match op,x with
 | .eql,some .err=>Ae P T (F (.v (.bool false)))
 | .neq,some .err=>Ae P T (F (.v (.bool true)))
 | .eql,some (.v .nilIface)=>Ae P T (F (.v (.bool true)))
 | .neq,some (.v .nilIface)=>Ae P T (F (.v (.bool false)))
 | _,_=>False
def HF (P:Program) (T:Nat) (op:BinOp) (x y:Option AV) (F:AV → Prop):Prop :=
 match op,x,y with
 | .shl,some (.v (.int k a)),some (.v (.int _ b))=>D6 (0 ≤ b) (F (.v (.int k (k.wrap (a * 2 ^ (min b.toNat k.bits))))))
 | .shr,some (.v (.int k a)),some (.v (.int _ b))=>D6 (0 ≤ b) (F (.v (.int k (a.fdiv (2 ^ (min b.toNat k.bits))))))
 | op,some (.v (.int k a)),some (.v (.int k' b))=>cond (decide (k = k')) (HD op k a b F) False
 | op,some (.str s),some (.str t)=>MU op s t F
 | op,some (.v (.bool a)),some (.v (.bool b))=>Je P T op a b F
 | op,some (.agg l),some (.agg m)=>Jf P T op l m F
 | _,_,_=>False
def EP (P:Program) (T:Nat) (hp:Hp) (x:Option AV) (F:AV → Prop):Prop :=
 match x with
 | some (.ref i off)=>match A5 hp i with
   | some (.bx τ l)=>Bz P T fun ag sz=>cond ag
     (cond (Nat.beq off 0 && Nat.beq l.length sz) (F (.agg l)) (D6 (((l.drop off).take sz).length = sz) (F (.agg ((l.drop off).take sz)))))
     (L7 (l[off]?) F)
   | _=>False
 | some (.iptr l)=>Bz P T fun ag sz=>cond ag
   (cond (Nat.beq l.length sz) (F (.agg l)) (D6 ((l.take sz).length = sz) (F (.agg (l.take sz)))))
   (match l with | av :: _=>F av | []=>False)
 | some (.elt i ver k off)=>match A5 hp i with
   | some (.row _ sz ver' l)=>D6 (ver = ver') (J0 l (k:Int) fun el=>Bz P T fun ag szT=>cond ag
     (cond (Nat.beq off 0 && Nat.beq szT sz) (F (.agg el)) False) (L7 (el[off]?) F))
   | _=>False
 | _=>False
def HG (hp:Hp) (off:Nat) (x:Option AV) (F:AV → Prop):Prop :=
 match x with
 | some (.ref i o)=>F (.ref i (o + off))
 | some (.iptr l)=>F (.iptr (l.drop off))
 | some (.elt i ver k o)=>match A5 hp i with
   | some (.row _ _ ver' _)=>D6 (ver = ver') (F (.elt i ver k (o + off)))
   | _=>False
 | _=>False
def CE (P:Program) (T:Nat) (hp:Hp) (x y:Option AV) (F:AV → Prop):Prop :=
 match x,y with
 | some (.sl sz l),some (.v (.int _ i))=>Bi P T fun _ sz'=>cond (Nat.beq sz sz') (J0 l i fun el=>F (.iptr el)) False
 | some (.row r ver len),some (.v (.int _ i))=>match A5 hp r with
   | some (.row _ sz ver' _)=>D6 (ver = ver') (Bi P T fun _ sz'=>cond (Nat.beq sz sz') (D6 (0 ≤ i ∧ i < len) (F (.elt r ver i.toNat 0))) False)
   | _=>False
 | some (.ref r o),some (.v (.int _ i))=>JZ P T fun len sz=>D6 (0 ≤ i ∧ i < len) (F (.ref r (o + i.toNat * sz)))
 | some (.iptr l),some (.v (.int _ i))=>JZ P T fun len sz=>cond (Nat.beq sz 1 && Nat.beq l.length len) (J0 l i fun av=>F (.iptr [av])) False
 | _,_=>False
def MW (hp:Hp) (x:Option AV) (F:AV → Prop):Prop :=
 match x with
 | some (.ref i o)=>F (.ref i o)
 | some (.iptr l)=>F (.iptr l)
 | some (.elt i ver k o)=>match A5 hp i with
   | some (.row _ _ ver' _)=>D6 (ver = ver') (F (.elt i ver k o))
   | _=>False
 | _=>False
def BF (P:Program) (T:Nat) (hp:Hp) (x:Option AV) (F:AV → Prop):Prop :=
 match x with
 | some (.sl _ l)=>Bi P T fun _ _=>Eu l fun m=>F (.i m)
 | some (.str s)=>l4 P T (F (.i s.length))
 | some (.row r ver len)=>match A5 hp r with
   | some (.row _ _ ver' _)=>D6 (ver = ver') (Bi P T fun _ _=>F (.i len))
   | _=>False
 | some (.v (.slice none 0 0))=>Bi P T fun _ _=>F (.i 0)
 | _=>False
def GT (P:Program) (f:Nat) (hp:Hp) (l caps:List AV) (F:AV → Prop):Prop:=cond (G3 l) (EH P f (l ++ caps) F) (RB P f hp l caps F)
def EQ (P:Program) (T:Nat) (ev:Operand → Option AV) (x:Option AV) (lo hi:Option Operand) (F:AV → Prop):Prop :=
 match x with
 | some (.str s)=>l4 P T (match V5 ev 0 lo,V5 ev s.length hi with
   | some l,some h=>D6 (0 ≤ l ∧ l ≤ h ∧ h ≤ s.length) (F (.str ((s.take h.toNat).drop l.toNat)))
   | _,_=>False)
 | some (.sl sz s)=>Bi P T fun _ sz'=>cond (Nat.beq sz sz') (match V5 ev 0 lo,V5 ev s.length hi with
   | some l,some h=>D6 (0 ≤ l ∧ l ≤ h ∧ h ≤ s.length) (F (.sl sz ((s.take h.toNat).drop l.toNat)))
   | _,_=>False) False
 | _=>False
def Ex (P:Program) (T:Nat) (hp:Hp) (ok:Bool) (x y:Option AV) (F:AV → Prop):Prop :=
 match x,y with
 | some (.mp i),some kav=>match A5 hp i,keyOf kav with
   | some (.map m),some k=>Ja P T fun t z=>cond (o8 t k) (D6 (s7 t m) (cond ok (RY (.tup [Az m k z, .b (n6 m k).isSome]) F) (RY (Az m k z) F))) False
   | _,_=>False
 | _,_=>False
def AD (P:Program) (op:Op) (ev:Operand → Option AV) (hp:Hp) (F:AV → Prop):Prop :=
 match op with
 | .move x=>L7 (ev x) F
 | .assign x=>L7 (ev x) F
 | .pick c a b=>match ev c with
   | some (.v (.bool t))=>W4 t (L7 (ev a) F) (L7 (ev b) F)
   | _=>False
 | .binOp op T x y _=>cond (EO y) (HE P T op (ev x) F) (HF P T op (ev x) (ev y) F)
 | .unOp .not _ x=>match ev x with
   | some (.v (.bool b))=>F (.v (.bool (!b)))
   | _=>False
 | .unOp .neg _ x=>match ev x with
   | some (.v (.int .i64 a))=>D6 (-9223372036854775807 ≤ a ∧ a ≤ 9223372036854775807) (F (.v (.int .i64 (-a))))
   | some (.v (.int .u64 a))=>F (.v (.int .u64 (IntKind.u64.wrap (-a))))
   | _=>False
 | .unOp .xor _ x=>match ev x with
   | some (.v (.int .u64 a))=>D6 (0 ≤ a ∧ a ≤ 18446744073709551615) (F (.v (.int .u64 (18446744073709551615 - a))))
   | _=>False
 | .load T x=>EP P T hp (ev x) F
 | .fieldAddr S x f=>Ev P S f fun off sz=>cond (Nat.blt 0 sz) (HG hp off (ev x) F) False
 | .indexAddr T x y=>CE P T hp (ev x) (ev y) F
 | .index T x y=>match ev x,ev y with
   | some (.str s),some (.v (.int _ i))=>l4 P T (J0 s i fun b=>F (.v (.int .u8 b.toNat)))
   | _,_=>False
 | .nilCheck x=>MW hp (ev x) F
 | .convert S T x=>L7 (ev x) fun a=>V0 P S T a F
 | .call ⟨.builtin .len,⟨[x]⟩,⟨[T]⟩⟩=>BF P T hp (ev x) F
 | .call ⟨.builtin .min,⟨[x,y]⟩,⟨[_,_]⟩⟩=>match ev x,ev y with
   | some (.v (.int k a)),some (.v (.int k' b))=>cond (decide (k = k')) (F (.v (.int k (min a b)))) False
   | _,_=>False
 | .call ⟨.builtin .max,⟨[x,y]⟩,⟨[_,_]⟩⟩=>match ev x,ev y with
   | some (.v (.int k a)),some (.v (.int k' b))=>cond (decide (k = k')) (F (.v (.int k (max a b)))) False
   | _,_=>False
 | .call ⟨.value (.func f),⟨args⟩,_⟩=>match P5 ev args with
   | some l=>GT P f hp l [] F
   | none=>False
 | .call ⟨.value (.tmp t),⟨args⟩,_⟩=>match ev (.tmp t),P5 ev args with
   | some (.fn f caps),some l=>GT P f hp l caps F
   | _,_=>False
 | .build T ⟨parts⟩=>match V7 ev parts with
   | some ps=>CA P T fun zs pl=>m6 hp ps (L7 ((W3 pl zs ps).map AV.agg) F)
   | none=>False
 | .buildSlice T len ⟨parts⟩=>match V7 ev parts with
   | some ps=>w3 P T fun _ sz _ _=>cond (X9 0 ps && Q3 sz (J4 ps) && Nat.beq ps.length len && Nat.blt 0 sz) (D6 (len * sz ≤ 16777216) (m6 hp ps (EN (J4 ps) (F (.sl sz (J4 ps)))))) False
   | none=>False
 | .lookup T x y ok=>Ex P T hp ok (ev x) (ev y) F
 | .slice T x lo hi none=>EQ P T ev (ev x) lo hi F
 | .extract x k=>match ev x with
   | some (.tup l)=>L7 (l[k]?) F
   | _=>False
 | .makeFunc (.func f) ⟨[]⟩ ⟨xs⟩=>match P5 ev xs with
   | some caps=>cond (G3 caps) (F (.fn f caps)) False
   | none=>False
 | _=>False
section sound
variable {P:Program} {E:Env} {nx:Nat} {hp:Hp} {ev:Operand → Option AV} {ty:TypeId} {x y:Operand} {F:AV → Prop} {T T2:TypeId}
theorem QG {op:BinOp} (h:HF P T op (ev x) (ev y) F):∃ av,D7 P E nx hp ev (.binOp op T x y T2) ty av ∧ F av:=by
 unfold HF at h
 split at h
 ·rename_i hx hy;exact ⟨_,OO hx hy h.h,h.k⟩
 ·rename_i hx hy;exact ⟨_,OP hx hy h.h,h.k⟩
 ·rename_i hx hy
  obtain ⟨hk,hq⟩:=cond_false h
  clear h
  have hk:=of_decide_eq_true hk
  subst hk
  unfold HD at hq
  split at hq
  ·exact ⟨_,l9 hx hy (by simp only [X7,I9 hq.h]),hq.k⟩
  ·exact ⟨_,l9 hx hy (by simp only [X7,I9 hq.h]),hq.k⟩
  ·exact ⟨_,l9 hx hy (by simp only [X7,I9 hq.h]),hq.k⟩
  ·have hq2:=GQ (P:=P) (E:=E) (nx:=nx) (hp:=hp) (ty:=ty) (T:=T) (T2:=T2) hx hy hq.h.1
   rw [I9 hq.h.2] at hq2
   exact ⟨_,hq2,hq.k⟩
  ·exact ⟨_,GQ hx hy hq.h,hq.k⟩
  ·exact ⟨_,ON hx hy hq.h,hq.k⟩
  ·split at hq
   ·rename_i hr;exact ⟨_,l9 hx hy hr,hq⟩
   ·exact hq.elim
 ·rename_i s t hx hy
  unfold MU at h
  split at h
  ·exact ⟨_,KY hx hy h.h,h.k⟩
  ·split at h
   ·rename_i hr;exact ⟨_,KX hx hy hr,h⟩
   ·exact h.elim
 ·rename_i a b hx hy
  unfold Je at h
  split at h
  ·have:=h.h;exact ⟨_,GR (T:=T) false hx hy,h.k⟩
  ·have:=h.h;exact ⟨_,GR (T:=T) true hx hy,h.k⟩
  ·exact h.elim
 ·rename_i l m hx hy
  unfold Jf at h
  split at h
  ·obtain ⟨hk,hq⟩:=cond_false h
   obtain ⟨rfl,rfl⟩:=of_decide_eq_true hk
   have:=hq.h;exact ⟨_,Au (T:=T) false hx hy,hq.k⟩
  ·obtain ⟨hk,hq⟩:=cond_false h
   obtain ⟨rfl,rfl⟩:=of_decide_eq_true hk
   have:=hq.h;exact ⟨_,Au (T:=T) true hx hy,hq.k⟩
  ·obtain ⟨hk,hq⟩:=cond_false h
   obtain ⟨rfl,rfl,rfl⟩:=of_decide_eq_true hk
   have:=hq.h;exact ⟨_,Ax (T:=T) false hx hy,hq.k⟩
  ·obtain ⟨hk,hq⟩:=cond_false h
   obtain ⟨rfl,rfl,rfl⟩:=of_decide_eq_true hk
   have:=hq.h;exact ⟨_,Ax (T:=T) true hx hy,hq.k⟩
  ·obtain ⟨hk,hq⟩:=cond_false h
   obtain rfl:=of_decide_eq_true hk
   have:=hq.h;exact ⟨_,Dw (T:=T) false hx hy,hq.k⟩
  ·obtain ⟨hk,hq⟩:=cond_false h
   obtain rfl:=of_decide_eq_true hk
   have:=hq.h;exact ⟨_,Dw (T:=T) true hx hy,hq.k⟩
  ·exact h.elim
 ·exact h.elim
theorem MX {op:BinOp} (hy:EO y = true) (h:HE P T op (ev x) F):∃ av,D7 P E nx hp ev (.binOp op T x y T2) ty av ∧ F av:=by
 obtain rfl:y = .const .nilIface:=by
  unfold EO at hy
  split at hy
  ·rfl
  ·cases hy
 unfold HE at h
 split at h
 ·rename_i hx;have:=h.h;exact ⟨_,Gj (T:=T) false hx,h.k⟩
 ·rename_i hx;have:=h.h;exact ⟨_,Gj (T:=T) true hx,h.k⟩
 ·rename_i hx;have:=h.h;exact ⟨_,Gk (T:=T) false hx,h.k⟩
 ·rename_i hx;have:=h.h;exact ⟨_,Gk (T:=T) true hx,h.k⟩
 ·exact h.elim
theorem Ou (h:EP P T hp (ev x) F):∃ av,D7 P E nx hp ev (.load T x) ty av ∧ F av:=by
 unfold EP at h
 split at h
 ·rename_i i off hx
  split at h
  ·rename_i l hb
   obtain ⟨⟨ag,sz,tv,h⟩⟩:=h
   cases ag with
   | true =>
     change cond (Nat.beq off 0 && Nat.beq l.length sz) _ _ at h
     cases hc:(Nat.beq off 0 && Nat.beq l.length sz) with
     | true =>
       rw [hc] at h
       simp only [Bool.and_eq_true,Nat.beq_eq] at hc
       obtain ⟨rfl,hs⟩:=hc
       exact ⟨_,Ds (sz:=sz) hx hb hs,h⟩
     | false =>
       rw [hc] at h
       exact ⟨_,b9 (sz:=sz) hx hb rfl h.h,h.k⟩
   | false =>
     obtain ⟨av,hl,h⟩:=F3 h
     exact ⟨_,Dr (sz:=sz) hx hb hl,h⟩
  ·exact h.elim
 ·rename_i l hx
  obtain ⟨⟨ag,sz,tv,h⟩⟩:=h
  cases ag with
  | true =>
    change cond (Nat.beq l.length sz) _ _ at h
    cases hc:Nat.beq l.length sz with
    | true =>
      rw [hc] at h
      exact ⟨_,T7 (sz:=sz) hx (by rw [← Nat.eq_of_beq_eq_true hc,List.take_length]) (Nat.eq_of_beq_eq_true hc),h⟩
    | false =>
      rw [hc] at h
      exact ⟨_,T7 (sz:=sz) hx rfl h.h,h.k⟩
  | false =>
    cases l with
    | nil=>exact h.elim
    | cons av r=>exact ⟨_,Ct (sz:=sz) hx,h⟩
 ·rename_i i ver k off hx
  split at h
  ·rename_i e sz ver' l hb
   obtain ⟨rfl,hq⟩:=h
   obtain ⟨h0,h1,hk⟩:=hq
   have hlt:k < l.length:=by omega
   have hel:l[k]? = some l[k]:=List.getElem?_eq_getElem hlt
   obtain ⟨⟨ag,szT,tv,h⟩⟩:=hk l[k] (by rw [Int.toNat_natCast];exact hel)
   cases ag with
   | true =>
     obtain ⟨hc,h2⟩:=cond_false h
     simp only [Bool.and_eq_true,Nat.beq_eq] at hc
     obtain ⟨rfl,hs⟩:=hc
     exact ⟨_,Em hx hb hel hs,h2⟩
   | false =>
     obtain ⟨av,hl,h⟩:=F3 h
     exact ⟨_,JQ (szT:=szT) hx hb hel hl,h⟩
  ·exact h.elim
 ·exact h.elim
theorem MY {S f off sz:Nat} [tf:L8 P S f off sz] (hz:Nat.blt 0 sz = true) (h:HG hp off (ev x) F):∃ av,D7 P E nx hp ev (.fieldAddr S x f) ty av ∧ F av:=by
 unfold HG at h
 split at h
 ·rename_i hx;exact ⟨_,Cu (off:=off) (sz:=sz) hx hz,h⟩
 ·rename_i hx;exact ⟨_,Bp (off:=off) (sz:=sz) hx hz,h⟩
 ·rename_i hx
  split at h
  ·rename_i hb
   obtain ⟨rfl,h⟩:=h
   exact ⟨_,Hu (off:=off) (sz:=sz) hx hb hz,h⟩
  ·exact h.elim
 ·exact h.elim
theorem MZ (h:CE P T hp (ev x) (ev y) F):∃ av,D7 P E nx hp ev (.indexAddr T x y) ty av ∧ F av:=by
 unfold CE at h
 split at h
 ·rename_i hx hy
  obtain ⟨⟨e,sz',ts,h⟩⟩:=h
  obtain ⟨hz,hq⟩:=cond_false h
  clear h
  have:=Nat.eq_of_beq_eq_true hz
  subst this
  obtain ⟨h0,h1,hk⟩:=hq
  rename_i sz l kk i
  have hlt:i.toNat < l.length:=by omega
  have hel:l[i.toNat]? = some l[i.toNat]:=List.getElem?_eq_getElem hlt
  exact ⟨_,Dt (e:=e) hx hy h0 hel,hk _ hel⟩
 ·rename_i hx hy
  split at h
  ·rename_i hb
   obtain ⟨rfl,h⟩:=h
   obtain ⟨⟨e,sz',ts,h⟩⟩:=h
   obtain ⟨hz,hq⟩:=cond_false h
   clear h
   have:=Nat.eq_of_beq_eq_true hz
   subst this
   exact ⟨_,Hv (e:=e) hx hb hy hq.h.1 hq.h.2,hq.k⟩
  ·exact h.elim
 ·rename_i hx hy
  obtain ⟨⟨len,e,sz,ta,h⟩⟩:=h
  exact ⟨_,Hw (e:=e) (sz:=sz) hx hy h.h.1 h.h.2,h.k⟩
 ·rename_i l kk i hx hy
  obtain ⟨⟨len,e,sz,ta,h⟩⟩:=h
  obtain ⟨hz,hq⟩:=cond_false h
  rw [Bool.and_eq_true] at hz
  have h1:=Nat.eq_of_beq_eq_true hz.1
  have h2:=Nat.eq_of_beq_eq_true hz.2
  subst h1
  obtain ⟨h0,h1,hk⟩:=hq
  have hlt:i.toNat < l.length:=by omega
  have hel:l[i.toNat]? = some l[i.toNat]:=List.getElem?_eq_getElem hlt
  exact ⟨_,Gm (e:=e) hx hy h2 h0 hel,hk _ hel⟩
 ·exact h.elim
theorem QH (h:MW hp (ev x) F):∃ av,D7 P E nx hp ev (.nilCheck x) ty av ∧ F av:=by
 unfold MW at h
 split at h
 ·rename_i hx;exact ⟨_,Kb hx,h⟩
 ·rename_i hx;exact ⟨_,JR hx,h⟩
 ·rename_i hx
  split at h
  ·rename_i hb
   obtain ⟨rfl,h⟩:=h
   exact ⟨_,Kc hx hb,h⟩
  ·exact h.elim
 ·exact h.elim
theorem QI (h:BF P T hp (ev x) F):∃ av,D7 P E nx hp ev (.call ⟨.builtin .len, #[x], #[T]⟩) ty av ∧ F av:=by
 unfold BF at h
 split at h
 ·rename_i hx
  obtain ⟨⟨e,sz,ts,h⟩⟩:=h
  exact ⟨_,Gl (e:=e) (sz:=sz) hx,h.k⟩
 ·rename_i hx
  obtain ⟨ts,h⟩:=h
  exact ⟨_,FT hx,h⟩
 ·rename_i hx
  split at h
  ·rename_i hb
   obtain ⟨rfl,h⟩:=h
   obtain ⟨⟨e,sz,ts,h⟩⟩:=h
   exact ⟨_,Ka (e:=e) (sz:=sz) hx hb,h⟩
  ·exact h.elim
 ·rename_i hx
  obtain ⟨⟨e,sz,ts,h⟩⟩:=h
  exact ⟨_,FU (e:=e) (sz:=sz) hx,h⟩
 ·exact h.elim
theorem Ma {lo hi:Option Operand} (h:EQ P T ev (ev x) lo hi F):∃ av,D7 P E nx hp ev (.slice T x lo hi none) ty av ∧ F av:=by
 unfold EQ at h
 split at h
 ·rename_i hx
  obtain ⟨ts,h⟩:=h
  split at h
  ·rename_i hl hh;exact ⟨_,DC hx hl hh h.h.1 h.h.2.1 h.h.2.2,h.k⟩
  ·exact h.elim
 ·rename_i hx
  obtain ⟨⟨e,sz',ts,h⟩⟩:=h
  obtain ⟨hz,hq⟩:=cond_false h
  clear h
  have:=Nat.eq_of_beq_eq_true hz
  subst this
  split at hq
  ·rename_i hl hh;exact ⟨_,JX (e:=e) hx hl hh hq.h.1 hq.h.2.1 hq.h.2.2,hq.k⟩
  ·exact hq.elim
 ·exact h.elim
theorem Ko {ok:Bool} (h:Ex P T hp ok (ev x) (ev y) F):∃ av,D7 P E nx hp ev (.lookup T x y ok) ty av ∧ F av:=by
 unfold Ex at h
 split at h
 ·rename_i hx hy
  split at h
  ·rename_i hb hk
   obtain ⟨⟨k,e,t,z,tm,h⟩⟩:=h
   obtain ⟨hkb,hq⟩:=cond_false h
   cases ok with
   | true=>exact ⟨_,Hz (T:=T) hx hb hy hk hkb hq.h,hq.k.h⟩
   | false=>exact ⟨_,MP (T:=T) hx hb hy hk hkb hq.h,hq.k.h⟩
  ·exact h.elim
 ·exact h.elim
theorem OU {op:Op} (h:AD P op ev hp F):∃ av,D7 P E nx hp ev op ty av ∧ F av:=by
 unfold AD at h
 split at h
 ·obtain ⟨a,hx,h⟩:=F3 h;exact ⟨a,KW hx,h⟩
 ·obtain ⟨a,hx,h⟩:=F3 h;exact ⟨a,Gg hx,h⟩
 ·split at h
  ·rename_i t hc
   obtain ⟨h1,h2⟩:=h
   cases t with
   | true=>obtain ⟨a,hx,h⟩:=F3 (h1 rfl);exact ⟨a,MG hc hx,h⟩
   | false=>obtain ⟨a,hx,h⟩:=F3 (h2 rfl);exact ⟨a,MH hc hx,h⟩
  ·exact h.elim
 ·rename_i y _
  cases hn:EO y with
  | true=>rw [hn] at h;exact MX hn h
  | false=>rw [hn] at h;exact QG h
 ·split at h
  ·rename_i hx;exact ⟨_,OQ hx,h⟩
  ·exact h.elim
 ·split at h
  ·rename_i a hx
   have h1:=h.h
   refine ⟨_,OR hx,?_⟩
   rw [I9 (by omega)]
   exact h.k
  ·rename_i a hx;exact ⟨_,OR hx,h⟩
  ·exact h.elim
 ·split at h
  ·rename_i hx;exact ⟨_,Og hx h.h,h.k⟩
  ·exact h.elim
 ·exact Ou h
 ·obtain ⟨⟨off,sz,tf,h⟩⟩:=h
  obtain ⟨hz,h⟩:=cond_false h
  exact MY (off:=off) (sz:=sz) hz h
 ·exact MZ h
 ·split at h
  ·rename_i s k i hx hy
   obtain ⟨ts,h0,h1,hk⟩:=h
   have hlt:i.toNat < s.length:=by omega
   have hel:s[i.toNat]? = some s[i.toNat]:=List.getElem?_eq_getElem hlt
   exact ⟨_,Cv hx hy h0 hel,hk _ hel⟩
  ·exact h.elim
 ·exact QH h
 ·obtain ⟨a,hx,h⟩:=F3 h
  obtain ⟨⟨r,hr,h⟩⟩:=h
  cases hr with
  | bytes l hl=>rename_i e sz _ _ _;exact ⟨_,Cy (e:=e) (sz:=sz) hx hl,h⟩
  | back l=>rename_i e sz _ _ _;exact ⟨_,Cz (e:=e) (sz:=sz) hx,h⟩
  | int m=>exact ⟨_,Du hx,h⟩
  | rune m=>exact ⟨_,DA hx,h⟩
 ·exact QI h
 ·split at h
  ·rename_i hx hy
   obtain ⟨hk,h2⟩:=cond_false h
   have:=of_decide_eq_true hk
   subst this
   exact ⟨_,Qy hx hy,h2⟩
  ·exact h.elim
 ·split at h
  ·rename_i hx hy
   obtain ⟨hk,h2⟩:=cond_false h
   have:=of_decide_eq_true hk
   subst this
   exact ⟨_,OS hx hy,h2⟩
  ·exact h.elim
 ·split at h
  ·rename_i l hl
   unfold GT at h
   cases hc:G3 l with
   | true =>
     rw [hc] at h
     obtain ⟨⟨r,hr,h⟩⟩:=h
     rw [List.append_nil] at hr
     exact ⟨_,En hr hl hc,h⟩
   | false =>
     rw [hc] at h
     obtain ⟨⟨is,L,r,hL,hcl,hr,hfl,h⟩⟩:=h
     exact ⟨_,Kk is hr hl hL hcl hfl fun _ _ _ _=>⟨[],rfl,rfl,fun j x c hx=>by simp at hx⟩,h⟩
  ·exact h.elim
 ·split at h
  ·rename_i f caps l hg hl
   unfold GT at h
   cases hc:G3 l with
   | true =>
     rw [hc] at h
     obtain ⟨⟨r,hr,h⟩⟩:=h
     exact ⟨_,MJ hg hr hl hc,h⟩
   | false =>
     rw [hc] at h
     obtain ⟨⟨is,L,r,hL,hcl,hr,hfl,h⟩⟩:=h
     refine ⟨_,Kk is hr hl hL hcl hfl fun θ a w h=>?_,h⟩
     have:=(h.rel hg)
     generalize a.eval _ = v at this
     cases this with
     | im hi=>cases hi with | fn f l cs hl hc=>exact ⟨cs,rfl,hl,hc⟩
  ·exact h.elim
 ·split at h
  ·rename_i ps hps
   obtain ⟨⟨zs,pl,tz,tp,h⟩⟩:=h
   obtain ⟨hf,h⟩:=O7 h
   obtain ⟨a,ha,h⟩:=F3 h
   rw [Option.map_eq_some_iff] at ha
   obtain ⟨l,hl,rfl⟩:=ha
   exact ⟨_,Ic (T:=_) hps hf hl,h⟩
  ·exact h.elim
 ·split at h
  ·rename_i ps hps
   obtain ⟨⟨e,sz,bs,z,ts,tz,tb,hz,h⟩⟩:=h
   obtain ⟨hc,h⟩:=cond_false h
   simp only [Bool.and_eq_true,Nat.beq_eq,Nat.blt_eq] at hc
   obtain ⟨hs,h⟩:=h
   obtain ⟨hf,h⟩:=O7 h
   obtain ⟨hi,h⟩:=p4 h
   exact ⟨_,Bu (e:=e) (z:=z) hps hf hc.1.1.1 hc.1.1.2 hc.1.2 hz hs hc.2 hi,h⟩
  ·exact h.elim
 ·exact Ko h
 ·exact Ma h
 ·split at h
  ·rename_i hx
   obtain ⟨a,ha,h⟩:=F3 h
   exact ⟨a,FY hx ha,h⟩
  ·exact h.elim
 ·split at h
  ·rename_i caps hc
   obtain ⟨hcl,h⟩:=cond_false h
   exact ⟨_,JW hc hcl,h⟩
  ·exact h.elim
 ·exact h.elim
end sound
def Rd (a:AV):Prop:=∃ U w v,Im U w a v
theorem Rd.sl {sz:Nat} {l:List (List AV)} (h:Rd (.sl sz l)):l.length ≤ 9223372036854775807:=by
 obtain ⟨U,w,v,h⟩:=h
 cases h with
 | slnil=>simp
 | sl sz l a cap f hcap hm hu hsz hc h=>unfold maxLen at hm;omega
theorem Rd.agg {l:List AV} (h:Rd (.agg l)):∀ x ∈ l,Rd x:=by
 obtain ⟨U,w,v,h⟩:=h
 cases h with
 | agg l cs hl h =>
   intro x hx
   obtain ⟨j,hj,rfl⟩:=List.getElem_of_mem hx
   have h2:j < cs.length:=by omega
   exact ⟨U,w,_,h j _ _ (List.getElem?_eq_getElem hj) (List.getElem?_eq_getElem h2)⟩
theorem Rd.elem {sz:Nat} {l:List (List AV)} (h:Rd (.sl sz l)):∀ e ∈ l,∀ x ∈ e,Rd x:=by
 obtain ⟨U,w,v,h⟩:=h
 cases h with
 | slnil=>intro e he;cases he
 | sl sz l a cap f hcap hm hu hsz hc h =>
   intro e he x hx
   obtain ⟨i,hi,rfl⟩:=List.getElem_of_mem he
   obtain ⟨j,hj,rfl⟩:=List.getElem_of_mem hx
   exact ⟨U,w,_,h i _ (List.getElem?_eq_getElem hi) j _ (List.getElem?_eq_getElem hj)⟩
def l5:List AV → Nat → List (Nat × AV)
 | [],_=>[]
 | a :: r,k=>(k,a) :: l5 r (k + 1)
theorem BG:∀ (l:List AV) (k s:Nat) (x:AV),look (l5 l k) s = some x → k ≤ s ∧ l[s - k]? = some x
 | [],_,_,_,h=>by cases h
 | a :: r,k,s,x,h=>by
   simp only [l5,D9] at h
   by_cases e:k = s
   ·subst e;simp at h;subst h;simp
   ·rw [if_neg e] at h
    obtain ⟨h1,h2⟩:=BG r (k + 1) s x h
    refine ⟨by omega,?_⟩
    have:s - k = (s - (k + 1)) + 1:=by omega
    rw [this]
    simpa using h2
def L9 (tmps:Array Value):ResultVar → Sem Value
 | .tmp t=>pure (tmps.getD t undef)
 | .cell a t=>do loadVar t (← asAddr (tmps.getD a undef))
theorem DW {P:Program} {w:World} {tmps:Array Value}:∀ {rvs:List ResultVar} {vs:List Value},rvs.length = vs.length → (∀ (j:Nat) rv v,rvs[j]? = some rv → vs[j]? = some v → (L9 tmps rv).run P w = .ok v w) → (rvs.mapM (L9 tmps)).run P w = .ok vs w
 | [],[],_,_=>by simp [Sem.run_pure]
 | rv :: r,v :: s,hl,h=>by
   have h1:=h 0 rv v rfl rfl
   have h2:=DW (rvs:=r) (vs:=s) (by simpa using hl) (fun j rv v hj hv=>h (j + 1) rv v (by simpa using hj) (by simpa using hv))
   simp [List.mapM_cons,Sem.run_bind,h1,h2]
 | [],_ :: _,hl,_=>by simp at hl
 | _ :: _,[],hl,_=>by simp at hl
theorem DE {P:Program} {w:World} {fn:Func} {tmps:Array Value} {rvs:List ResultVar} {vs:List Value} (h:fn.results = rvs.toArray) (hne:rvs.length ≠ 1) (hl:rvs.length = vs.length) (hv:∀ (j:Nat) rv v,rvs[j]? = some rv → vs[j]? = some v → (L9 tmps rv).run P w = .ok v w) :
  (results fn tmps).run P w = .ok (.tuple vs.toArray) w:=by
 have hm:=DW (P:=P) (w:=w) (tmps:=tmps) hl hv
 have e:results fn tmps = (do let vs ← fn.results.mapM (L9 tmps);pure (if h:vs.size = 1 then vs[0] else .tuple vs)):=by
  unfold results
  congr
 rw [e,h,List.mapM_toArray]
 simp only [Sem.run_bind,map_eq_pure_bind,hm,Sem.run_pure,Result.andThen_ok]
 rw [dif_neg (by simp;omega)]
theorem HH {P:Program} {w:World} {fn:Func} {tmps:Array Value} {rv:ResultVar} {v:Value} (h:fn.results = [rv].toArray) (hv:(L9 tmps rv).run P w = .ok v w) :
  (results fn tmps).run P w = .ok v w:=by
 have hm:=DW (P:=P) (w:=w) (tmps:=tmps) (rvs:=[rv]) (vs:=[v]) rfl (fun j rv' v' hj hv'=>by
  cases j with
  | zero=>simp at hj hv';subst hj hv';exact hv
  | succ j=>simp at hj)
 have e:results fn tmps = (do let vs ← fn.results.mapM (L9 tmps);pure (if h:vs.size = 1 then vs[0] else .tuple vs)):=by
  unfold results
  congr
 rw [e,h,List.mapM_toArray]
 simp only [Sem.run_bind,map_eq_pure_bind,hm,Sem.run_pure,Result.andThen_ok]
 rfl
inductive NL:AV → AV → Prop
 | refl (a:AV):NL a a
 | any (a:AV):NL a .any
 | nil (sz:Nat):NL (.v (.slice none 0 0)) (.sl sz [])
 | agg (l m:List AV) (h:l.length = m.length) (hh:∀ (j:Nat) x y,l[j]? = some x → m[j]? = some y → NL x y):NL (.agg l) (.agg m)
 | tup (l m:List AV) (h:l.length = m.length) (hh:∀ (j:Nat) x y,l[j]? = some x → m[j]? = some y → NL x y):NL (.tup l) (.tup m)
 | sl (sz:Nat) (l m:List (List AV)) (h:l.length = m.length) (hl:∀ (i:Nat) e e',l[i]? = some e → m[i]? = some e' → e.length = e'.length) (hh:∀ (i:Nat) e e',l[i]? = some e → m[i]? = some e' → ∀ (j:Nat) x y,e[j]? = some x → e'[j]? = some y → NL x y):NL (.sl sz l) (.sl sz m)
theorem O3 {α β:Type} {l:List α} {m:List β} (h:l.length = m.length) {j:Nat} {y:β} (hy:m[j]? = some y):∃ x,l[j]? = some x:=by
 have:=(List.getElem?_eq_some_iff.1 hy).1
 exact ⟨_,List.getElem?_eq_getElem (by omega)⟩
theorem NL.im {U:Nat → Prop} {w:World} {a b:AV} (h:NL a b):∀ {v:Value},Im U w a v → Im U w b v:=by
 induction h with
 | refl a=>intro v h;exact h
 | any a=>intro v h;exact .any v
 | nil sz=>intro v h;cases h;exact .slnil sz
 | agg l m hl hh ih =>
   intro v h
   cases h with
   | agg l cs hc h =>
     refine .agg m cs (by omega) fun j y c hy hc2=>?_
     obtain ⟨x,hx⟩:=O3 hl hy
     exact ih j x y hx hy (h j x c hx hc2)
 | tup l m hl hh ih =>
   intro v h
   cases h with
   | tup l cs hc h =>
     refine .tup m cs (by omega) fun j y c hy hc2=>?_
     obtain ⟨x,hx⟩:=O3 hl hy
     exact ih j x y hx hy (h j x c hx hc2)
 | sl sz l m hl hlen hh ih =>
   intro v h
   cases h with
   | slnil =>
     have:m = []:=List.eq_nil_of_length_eq_zero (by rw [← hl];rfl)
     subst this
     exact .slnil sz
   | sl sz l a cap f hcap hm hu hsz hc h =>
     rw [hl]
     refine .sl sz m a cap f (by omega) hm (fun hne=>hu (fun e=>hne (List.eq_nil_of_length_eq_zero (by rw [← hl,e];rfl)))) (fun e he=>?_) (fun i hi=>hc i (by omega)) (fun i e' he' j y hy=>?_)
     ·obtain ⟨i,hi,rfl⟩:=List.getElem_of_mem he
      obtain ⟨x,hx⟩:=O3 hl (List.getElem?_eq_getElem hi)
      rw [← hlen i x _ hx (List.getElem?_eq_getElem hi)]
      exact hsz x (List.mem_of_getElem? hx)
     ·obtain ⟨e,he⟩:=O3 hl he'
      obtain ⟨x,hx⟩:=O3 (hlen i e e' he he') hy
      exact ih i e e' he he' j x y hx hy (h i e he j x hx)
theorem Kp {c:Cx} {a b:AV} (h:NL a b):∀ {v:Value},C7 c a v → C7 c b v:=by
 induction h with
 | refl a=>intro v h;exact h
 | any a=>intro v h;exact .any v
 | nil sz=>intro v h;rw [h.val];exact .im (.slnil sz)
 | agg l m hl hh ih =>
   intro v h
   obtain ⟨cs,rfl,hc,hr⟩:=s6 h
   refine .agg m cs (by omega) fun j y z hy hz=>?_
   obtain ⟨x,hx⟩:=O3 hl hy
   exact ih j x y hx hy (hr j x z hx hz)
 | tup l m hl hh ih =>
   intro v h
   have:∃ cs:List Value,v = .tuple cs.toArray ∧ l.length = cs.length ∧ ∀ (j:Nat) u z,l[j]? = some u → cs[j]? = some z → C7 c u z:=by
    cases h with
    | im hi=>cases hi with | tup l cs hl hc=>exact ⟨cs,rfl,hl,fun j u z hu hz=>.im (hc j u z hu hz)⟩
    | tup l cs hl hc=>exact ⟨cs,rfl,hl,hc⟩
   obtain ⟨cs,rfl,hc,hr⟩:=this
   refine .tup m cs (by omega) fun j y z hy hz=>?_
   obtain ⟨x,hx⟩:=O3 hl hy
   exact ih j x y hx hy (hr j x z hx hz)
 | sl sz l m hl hlen hh ih =>
   intro v h
   cases h with
   | im hi=>exact .im ((NL.sl sz l m hl hlen hh).im hi)
def Jg (P:Program) (σ:St):ResultVar → AV → Prop
 | .tmp t,a=>∃ a',(look σ.sl t).map (F7 σ.hp []) = some a' ∧ NL a' a
 | .cell t T,a=>∃ i τ l sz,look σ.sl t = some (.ref i 0) ∧ A5 σ.hp i = some (.bx τ l) ∧ G2 P T true sz ∧ l.length = sz ∧ NL (.agg (V8 σ.hp [] l)) a
def BH (P:Program) (σ:St):List ResultVar → List AV → Prop
 | [],[]=>True
 | v :: r,a :: s=>Jg P σ v a ∧ BH P σ r s
 | _,_=>False
theorem BH.get {P:Program} {σ:St}:∀ {rvs:List ResultVar} {as:List AV},BH P σ rvs as → rvs.length = as.length ∧ ∀ (j:Nat) rv a,rvs[j]? = some rv → as[j]? = some a → Jg P σ rv a
 | [],[],_=>⟨rfl,fun j rv a h=>by simp at h⟩
 | v :: r,a :: s,h=>by
   obtain ⟨h1,h2⟩:=BH.get h.2
   refine ⟨by simp [h1],fun j rv b hj hb=>?_⟩
   cases j with
   | zero=>simp at hj hb;subst hj hb;exact h.1
   | succ j=>exact h2 j rv b (by simpa using hj) (by simpa using hb)
 | [],_ :: _,h=>h.elim
 | _ :: _,[],h=>h.elim
def QJ (P:Program) (rs:Array ResultVar) (r:AV) (σ:St):Prop :=
 (∃ rvs as,rs = rvs.toArray ∧ rvs.length ≠ 1 ∧ BH P σ rvs as ∧ r = .tup as) ∨
 (∃ t,rs = #[.tmp t] ∧ (look σ.sl t).map (F7 σ.hp []) = some r) ∨
 (∃ t sz,rs = #[.tmp t] ∧ look σ.sl t = some (.v (.slice none 0 0)) ∧ r = .sl sz []) ∨
 (∃ t u a b,rs = #[.tmp t, .tmp u] ∧ (look σ.sl t).map (F7 σ.hp []) = some a ∧ (look σ.sl u).map (F7 σ.hp []) = some b ∧ r = .tup [a,b]) ∨
 (∃ t T i τ l,rs = #[.cell t T] ∧ look σ.sl t = some (.ref i 0) ∧ A5 σ.hp i = some (.bx τ l) ∧ r = .agg (V8 σ.hp [] l))
def F5 (P:Program) (rs:Array ResultVar) (r:AV):Exit → St → Prop
 | .ret,σ=>QJ P rs r σ
 | .normal,σ=>QJ P rs r σ
 | _,_=>False
theorem C1 {P:Program} {t:Nat} {r r':AV} {σ:St} (h:(look σ.sl t).map (F7 σ.hp []) = some r') (e:r' = r):F5 P #[.tmp t] r .ret σ:=.inr (.inl ⟨t,rfl,e ▸ h⟩)
theorem w4 {P:Program} {rs:List ResultVar} {vs:List AV} {r:AV} {σ:St} (hn:(Nat.beq rs.length 1) = false) (h:BH P σ rs vs) (e:.tup vs = r):F5 P rs.toArray r .ret σ:=.inl ⟨rs,vs,rfl,(fun h=>by rw [h] at hn;cases hn),h,e.symm⟩
theorem O8 {P:Program} {t:Nat} {a' a:AV} {σ:St} (h:(look σ.sl t).map (F7 σ.hp []) = some a') (e:NL a' a):Jg P σ (.tmp t) a:=⟨a',h,e⟩
theorem F9 {P:Program} {t T i u sz τ:Nat} {l:List AV} {a b b' r:AV} {σ:St} [tv:G2 P T true sz] (h:look σ.sl t = some (.ref i 0)) (hb:A5 σ.hp i = some (.bx τ l)) (hl:Nat.beq l.length sz = true) (na:NL (.agg (V8 σ.hp [] l)) a) (h2:(look σ.sl u).map (F7 σ.hp []) = some b') (nb:NL b' b) (e:.tup [a,b] = r):F5 P #[.cell t T, .tmp u] r .ret σ :=
 w4 (rs:=[.cell t T, .tmp u]) (vs:=[a,b]) rfl ⟨⟨i,τ,l,sz,h,hb,tv,Nat.eq_of_beq_eq_true hl,na⟩,⟨b',h2,nb⟩,trivial⟩ e
theorem BI {P:Program} {t u:Nat} {a b r:AV} {σ:St} (h:(look σ.sl t).map (F7 σ.hp []) = some a) (h2:(look σ.sl u).map (F7 σ.hp []) = some b) (e:.tup [a,b] = r):F5 P #[.tmp t, .tmp u] r .ret σ:=.inr (.inr (.inr (.inl ⟨t,u,a,b,rfl,h,h2,e.symm⟩)))
theorem Ov {P:Program} {t sz:Nat} {r:AV} {σ:St} (h:look σ.sl t = some (.v (.slice none 0 0))) (e:.sl sz [] = r):F5 P #[.tmp t] r .ret σ:=.inr (.inr (.inl ⟨t,sz,rfl,h,e.symm⟩))
theorem K5 {P:Program} {t T i τ:Nat} {l:List AV} {r:AV} {σ:St} (h:look σ.sl t = some (.ref i 0)) (h2:A5 σ.hp i = some (.bx τ l)) (e:.agg (V8 σ.hp [] l) = r):F5 P #[.cell t T] r .ret σ:=.inr (.inr (.inr (.inr ⟨t,T,i,τ,l,rfl,h,h2,e.symm⟩)))
section rules
variable {P:Program} {E:Env} {n:Nat} {ops:Array Oper} {rest:List Oper} {σ:St} {K:St → Prop} {Q:Exit → St → Prop}
variable {d:Nat} {ty:TypeId} {pos:String} {after:Array Edge} {x y:Operand}
theorem Kq {fn:Func} {r:AV} {X:Nat → Prop} {w w':World} {htb:N5 (fun k=>X k ∨ (fun _=>False) k) w} {rf:Bool} {θ:Th} {σ':St} {a:Act} (hs:H6 ⟨w,X,fun _=>False,fun _=>undef,0,htb,rf⟩ n θ σ' a w') (hdf:a.defers = []) (hcl:J3 r)
  (hcells:∀ t T,fn.results = #[.cell t T] → ∃ sz,G2 P T true sz ∧ ∀ l,r = .agg l → l.length = sz) (hret:QJ P fn.results r σ'):bodyPost P fn (fun e w''=>∃ v,e = .returned v ∧ Im X w'' r v ∧ Below w.heap.size w w'') .ret a w':=by
 have hbel:Below w.heap.size w w':=⟨hs.fr.os,hs.fr.tape,hs.fr.output,hs.fr.size,fun k hk=>hs.fr.block k hk (fun h=>h)⟩
 have hcv:=hs.cv (σ':=⟨Y0 (F7 σ'.hp []) σ'.sl,σ'.nx,[]⟩) (Nat.zero_le _) (fun s x' hx=>by
  rw [p0,Option.map_eq_some_iff] at hx
  obtain ⟨x,h1,h2⟩:=hx
  exact ⟨x,h1,h2, .inl (Nat.le_refl _)⟩) (fun i b' hi=>by cases hi) (fun i e sz v l hi=>by cases hi)
 have toX:∀ {a:AV} {v:Value},J3 a → C7 (cx ⟨w,X,fun _=>False,fun _=>undef,0,htb,rf⟩ θ ⟨Y0 (F7 σ'.hp []) σ'.sl,σ'.nx,[]⟩ w') a v → Im X w' a v:=fun hc hi=>(hc.im hi).mono (fun _ _ _=>rfl) fun k _ hu=>.inl hu
 have slot:∀ {t:Nat} {r:AV},(look σ'.sl t).map (F7 σ'.hp []) = some r → look (Y0 (F7 σ'.hp []) σ'.sl) t = some r:=fun h=>by rw [p0];exact h
 rcases hret with ⟨rvs,as,h1,hn1,hrv,rfl⟩ | ⟨t,h1,h2⟩ | ⟨t,sz,h1,h2,rfl⟩ | ⟨t,u,a1,b1,h1,h2,h3,rfl⟩ | ⟨t,T,i,τ,l,h1,h2,h3,rfl⟩
 ·obtain ⟨hlen,hget⟩:=BH.get hrv
  have hcls:∀ a ∈ as,J3 a:=by cases hcl with | tup hk=>exact hk
  have one:∀ (rv:ResultVar) (b:AV),J3 b → Jg P σ' rv b → ∃ v,(L9 a.tmps rv).run P w' = .ok v w' ∧ Im X w' b v:=by
   intro rv b hb hv
   cases rv with
   | tmp t =>
     obtain ⟨a',h1,h2⟩:=hv
     exact ⟨_,by simp [L9,Sem.run_pure],toX hb (Kp h2 (hcv.slots t a' (slot h1)))⟩
   | cell t T =>
     obtain ⟨i,τ,l,sz,h2,h3,tv,hlsz,hnl⟩:=hv
     obtain ⟨b1,hθ,hv,_⟩:=O1 (hs.slots t _ h2)
     obtain ⟨b',arr,T',hθ',hh,hsz,hr⟩:=(hs.owns i _ h3).2
     have hbb:θ i = .pointer (some ⟨b1,0,none⟩):=hθ
     have hbb':θ i = .pointer (some ⟨b',0,none⟩):=hθ'
     rw [hbb] at hbb'
     cases hbb'
     have hh':w'.heap[b1]? = some (.cells arr T' (0,0)):=hh
     have sub:(cx ⟨w,X,fun _=>False,fun _=>undef,0,htb,rf⟩ θ σ' w').sub (cx ⟨w,X,fun _=>False,fun _=>undef,0,htb,rf⟩ θ ⟨Y0 (F7 σ'.hp []) σ'.sl,σ'.nx,[]⟩ w'):=⟨rfl,rfl,fun _ h=>h,(fun i b' hi=>by cases hi),hs.apart,fun i b k hi hk=>(hs.mine i b k hi hk).1,fun i b hi=>(hs.owns i b hi).2⟩
     have hload:=K4 (P:=P) (T:=T) (sz:=sz) (w:=w') (a:=⟨b1,0,none⟩) (cs:=arr.toList) (by rw [Array.length_toList,hsz,hlsz]) (fun j v hj=>by rw [E9,G5 hh'];simpa using hj)
     refine ⟨.agg arr,by simp [L9,hv,Sem.run_bind,Sem.run_pure,asAddr,hload],toX hb (Kp hnl (by
      have:=C7.agg (c:=cx ⟨w,X,fun _=>False,fun _=>undef,0,htb,rf⟩ θ ⟨Y0 (F7 σ'.hp []) σ'.sl,σ'.nx,[]⟩ w') (V8 σ'.hp [] l) arr.toList (by rw [J1];simp [hsz]) (fun j x y hx hy=>by
       rw [J1] at hx
       simp only [List.getElem?_map,Option.map_eq_some_iff] at hx
       obtain ⟨u0,hu0,rfl⟩:=hx
       exact Bv sub (hr j u0 y hu0 (by simpa using hy)) (.inl (Nat.le_refl _)))
      simpa using this))⟩
  have all:∀ (m:Nat),m ≤ rvs.length → ∃ vs:List Value,vs.length = m ∧ ∀ (j:Nat) rv v,rvs[j]? = some rv → vs[j]? = some v → (L9 a.tmps rv).run P w' = .ok v w' ∧ ∀ b,as[j]? = some b → Im X w' b v:=by
   intro m
   induction m with
   | zero=>intro _;exact ⟨[],rfl,fun j rv v _ h=>by simp at h⟩
   | succ m ih =>
     intro hm
     obtain ⟨vs,hl,hvs⟩:=ih (by omega)
     have hrvm:rvs[m]? = some rvs[m]:=List.getElem?_eq_getElem (by omega)
     have ham:as[m]? = some (as[m]'(by omega)):=List.getElem?_eq_getElem (by omega)
     obtain ⟨v,hv1,hv2⟩:=one rvs[m] (as[m]'(by omega)) (hcls _ (List.getElem_mem _)) (hget m _ _ hrvm ham)
     refine ⟨vs ++ [v],by simp [hl],fun j rv u hj hu=>?_⟩
     by_cases e:j < m
     ·rw [List.getElem?_append_left (by omega)] at hu
      exact hvs j rv u hj hu
     ·rw [List.getElem?_append_right (by omega),hl] at hu
      have ej:j = m:=by
       have:=(List.getElem?_eq_some_iff.1 hu).1
       simp at this;omega
      subst ej
      simp at hu
      subst hu
      rw [hrvm] at hj
      cases hj
      exact ⟨hv1,fun b hb=>by rw [ham] at hb;cases hb;exact hv2⟩
  obtain ⟨vs,hvl,hvs⟩:=all rvs.length (Nat.le_refl _)
  refine ⟨hdf,_,DE h1 hn1 hvl.symm (fun j rv v hj hv=>(hvs j rv v hj hv).1),_,rfl, .tup as vs (by omega) fun j b v hb hv=>?_,hbel⟩
  obtain ⟨rv,hrv2⟩:=O3 hlen hb
  exact (hvs j rv v hrv2 hv).2 b hb
 ·exact ⟨hdf,_,results_tmp h1 _ _ _,_,rfl,toX hcl (hcv.slots t r (slot h2)),hbel⟩
 ·exact ⟨hdf,_,results_tmp h1 _ _ _,_,rfl,by rw [(hs.slots t _ h2).val];exact .slnil sz,hbel⟩
 ·refine ⟨hdf,_,results_tmp2 h1 _ _ _,_,rfl,?_,hbel⟩
  refine toX hcl (.tup [a1,b1] [_,_] rfl fun j x y hx hy=>?_)
  match j,hx,hy with
  | 0,hx,hy=>cases hx;cases hy;exact hcv.slots t _ (slot h2)
  | 1,hx,hy=>cases hx;cases hy;exact hcv.slots u _ (slot h3)
 ·obtain ⟨b,hθ,hv,_⟩:=O1 (hs.slots t _ h2)
  obtain ⟨b',arr,T',hθ',hh,hsz,hr⟩:=(hs.owns i _ h3).2
  have hbb:θ i = .pointer (some ⟨b,0,none⟩):=hθ
  have hbb':θ i = .pointer (some ⟨b',0,none⟩):=hθ'
  rw [hbb] at hbb'
  cases hbb'
  obtain ⟨sz,tv,hlen⟩:=hcells t T h1
  have hlsz:=hlen _ rfl
  rw [J1,List.length_map] at hlsz
  have hh':w'.heap[b]? = some (.cells arr T' (0,0)):=hh
  have sub:(cx ⟨w,X,fun _=>False,fun _=>undef,0,htb,rf⟩ θ σ' w').sub (cx ⟨w,X,fun _=>False,fun _=>undef,0,htb,rf⟩ θ ⟨Y0 (F7 σ'.hp []) σ'.sl,σ'.nx,[]⟩ w'):=⟨rfl,rfl,fun _ h=>h,(fun i b' hi=>by cases hi),hs.apart,fun i b k hi hk=>(hs.mine i b k hi hk).1,fun i b hi=>(hs.owns i b hi).2⟩
  refine ⟨hdf, .agg arr,?_,_,rfl,toX hcl (by
   have:=C7.agg (c:=cx ⟨w,X,fun _=>False,fun _=>undef,0,htb,rf⟩ θ ⟨Y0 (F7 σ'.hp []) σ'.sl,σ'.nx,[]⟩ w') (V8 σ'.hp [] l) arr.toList (by rw [J1];simp [hsz]) (fun j x y hx hy=>by
    rw [J1] at hx
    simp only [List.getElem?_map,Option.map_eq_some_iff] at hx
    obtain ⟨u0,hu0,rfl⟩:=hx
    exact Bv sub (hr j u0 y hu0 (by simpa using hy)) (.inl (Nat.le_refl _)))
   simpa using this),hbel⟩
  have hload:=K4 (P:=P) (T:=T) (sz:=sz) (w:=w') (a:=⟨b,0,none⟩) (cs:=arr.toList) (by rw [Array.length_toList,hsz,hlsz]) (fun j v hj=>by rw [E9,G5 hh'];simpa using hj)
  rw [Array.getD_eq_getD_getElem?] at hv
  simp [results,h1,hv,Sem.run_bind,Sem.run_pure,asAddr,hload]
theorem IF {f : Nat} {fn : Func} {code : Code} {args : List AV} {r : AV} {rs : Array ResultVar} (hf : P.funcs[f]? = some fn) (hname : (fn.name == "runtime.NumGoroutine") = false) (hb : fn.body = some code) (hn : fn.ntmps = n) (hrs : fn.results = rs)
  (hargs:Nat.ble args.length n = true) (hcl:H4 r = true) (hcells:∀ t T,rs = #[.cell t T] → ∃ sz,G2 P T true sz ∧ ∀ l,r = .agg l → l.length = sz)
  (h:(∀ a ∈ args,Rd a) → ∀ E,E.n0 = 0 → E3 P E n code ⟨l5 args 0,0,[]⟩ (F5 P rs r)):B6 P f args r:=by
 subst hn hrs
 have hcl:=Q0 hcl
 refine ⟨⟨fn,hf,hname,by rw [hb];rfl⟩,fun X w vs hX htab hl hvs=>?_⟩
 have htb:N5 (fun k=>X k ∨ (fun _=>False) k) w:=htab.mono (fun k _ h=>h.elim id False.elim) fun _ _ _=>rfl
 have hrd:∀ a ∈ args,Rd a:=by
  intro a ha
  obtain ⟨j,hj,rfl⟩:=List.getElem_of_mem ha
  have h2:j < vs.length:=by omega
  exact ⟨X,w,_,hvs j _ _ (List.getElem?_eq_getElem hj) (List.getElem?_eq_getElem h2)⟩
 refine calls_of_wp hf hb ?_
 have hle:args.length ≤ fn.ntmps:=Nat.ble_eq ▸ hargs
 have start:T5 ⟨w,X,fun _=>False,fun _=>undef,0,htb,false⟩ fn.ntmps ⟨l5 args 0,0,[]⟩ { tmps:=vs.toArray ++ Array.replicate (fn.ntmps - vs.toArray.size) undef,defers:=[] } w:=by
  refine ⟨⟨fun _=>undef,fun _ _=>none⟩,?_, .nil,⟨rfl,rfl,rfl,Nat.le_refl _,fun _ _ _=>rfl⟩,fun s x hs=>?_,fun i b hi=>?_,fun i j b b' k hi=>?_,fun i b k hi=>?_,hX,⟨Nat.le_refl _,fun i hi=>?_⟩⟩
  ·simp;omega
  ·obtain ⟨_,hx⟩:=BG args 0 s x hs
   rw [Nat.sub_zero] at hx
   have hlt:s < vs.length:=by rw [← hl];exact (List.getElem?_eq_some_iff.1 hx).1
   have hv:vs[s]? = some vs[s]:=List.getElem?_eq_getElem hlt
   have e:(vs.toArray ++ Array.replicate (fn.ntmps - vs.toArray.size) undef).getD s undef = vs[s]:=by
    rw [Array.getD_eq_getD_getElem?,Array.getElem?_append]
    simp [hlt]
   rw [e]
   refine .im ((hvs s x _ hx hv).mono (fun _ _ _=>rfl) fun k _ hu=>?_)
   rcases hu with hu | ⟨i,b,hi,_⟩
   ·exact hu
   ·cases hi
  ·cases hi
  ·cases hi
  ·cases hi
  ·exact absurd hi (Nat.not_lt_zero _)
 refine wp_mono (h hrd ⟨w,X,fun _=>False,fun _=>undef,0,htb,false⟩ rfl _ w start) ?_
 rintro e a w' ⟨σ',hq,θ,hs⟩
 have fin:=Kq (P:=P) (fn:=fn) (r:=r) hs (hs.defers.1 rfl) hcl hcells
 cases e with
 | normal=>exact fin hq
 | ret=>exact fin hq
 | exit id=>exact hq.elim
 | goto l=>exact hq.elim
 | panic c=>exact hq.elim
 | outgrown=>exact hq.elim
theorem B6.congr {f:Nat} {args:List AV} {r r':AV} (h:B6 P f args r) (e:r = r'):B6 P f args r':=e ▸ h
theorem Ij {l:List Oper} {σ':St} (h:St.le E n σ σ') (k:B5 P E n ops l σ' K):B5 P E n ops l σ K:=fun a w hs=>k a w (h a w hs)
theorem j5 {d e sz:Nat} (hd:look σ.sl d = some (.v (.slice none 0 0))) (he:Nat.blt e C5 = true:=by rfl):St.le E n σ ((σ.new (.row e sz 0 [])).put d (.row σ.nx 0 0)):=by
 rintro a w ⟨θ,h⟩
 have h2:=h.grow (w':=w) (Below.refl _ _) (.slice none 0 0) (.row e sz 0 []) (fun k hk=>by cases hk) (fun le=>⟨[],⟨by simp, .inl ⟨by simp [cx,D1],rfl⟩⟩,(fun el hel=>by cases hel),(fun k el hk=>by simp at hk), .lt (Nat.blt_eq ▸ he)⟩) (K2 (Nat.blt_eq ▸ he))
 refine ⟨_,h2.size,h2.defers,h2.fr,fun s x hs=>?_,h2.owns,h2.apart,h2.mine,h2.X,h2.base⟩
 simp only [St.put,D9] at hs
 by_cases ed:d = s
 ·subst ed
  rw [if_pos rfl] at hs
  cases hs
  have hv:=(h.slots d _ hd).val
  rw [hv]
  refine .row _ _ _ _ (by simp [cx,St.new,St.put]) fun e' sz' v' l' hl=>?_
  simp only [cx,St.new,St.put,D5,if_pos] at hl
  cases hl
  exact ⟨Nat.le_refl _,fun _=>⟨rfl,by simp [cx,D1]⟩⟩
 ·rw [if_neg ed] at hs
  exact h2.slots s x hs
structure O4 (P:Program) (E:Env) (n:Nat) (ops:Array Oper) (o:Oper) (rest:List Oper) (l:List AV) (σ:St) (K:St → Prop):Prop where
 h:B5 P E n ops (o :: rest) σ K
mutual
def Mb:AV → Option Nat
 | .ref i _ | .row i _ _ | .elt i _ _ _=>some i
 | .agg l | .tup l | .fo _ l=>Fc l
 | _=>none
def Fc:List AV → Option Nat
 | []=>none
 | x :: r=>match Mb x with
   | some i=>some i
   | none=>Fc r
end
theorem Kr {o:Oper} {l:List AV} (i:Nat) (h:B5 P E n ops (o :: rest) (σ.frz i) K):O4 P E n ops o rest l σ K:=⟨Ij (Gz i) h⟩
def lits:List Nat:=[0,1,2,3,4,5,6,7,8,9,10,11,12,13,14,15,16,17,18,19,20,21,22,23,24,25,26,27,28,29,30,31,32,33,34,35,36,37,38,39,40,41,42,43,44,45,46,47,48,49,50,51,52,53,54,55,56,57,58,59,60,61,62,63]
def CF:List Nat → Nat → Option Nat
 | [],_=>none
 | x :: _,0=>some x
 | _ :: r,k + 1=>CF r k
theorem Ik:∀ (l:List Nat) (m:Nat),CF l m = l[m]?
 | [],m=>by simp [CF]
 | x :: r,0=>by simp [CF]
 | x :: r,k + 1=>by simp [CF,Ik r k]
theorem Ks {m k:Nat} (h:CF lits m = some k):k = m:=by
 by_cases hm:m < 64
 ·have h2:∀ j,j < 64 → CF lits j = some j:=by decide
  rw [h2 m hm] at h
  exact (Option.some.inj h).symm
 ·rw [Ik,List.getElem?_eq_none (by simp [lits];omega)] at h
  cases h
def E8 (m:Nat) (F:Nat → Prop):Prop :=
 match CF lits m with
 | some k=>F k
 | none=>F m
theorem D0 {m:Nat} {F:Nat → Prop} (h:E8 m F):F m:=by
 unfold E8 at h
 split at h
 ·rename_i hk;rw [Ks hk] at h;exact h
 ·exact h
def HI (P:Program) (E:Env) (n:Nat) (ops:Array Oper) (o:Oper) (T:Nat) (x y:Option AV) (rest:List Oper) (σ:St) (K:St → Prop):Prop :=
 match x,y with
 | some (.ref i off),some av=>match A5 σ.hp i with
   | some (.bx τ l)=>Bz P T fun _ sz=>cond (Nat.beq (E6 av).length sz && Nat.ble (off + sz) l.length) (HC σ.hp av (Jd σ.hp (E6 av) (B5 P E n ops rest (σ.set i (.bx τ (Q1 l off (E6 av)))) K))) False
   | _=>False
 | some (.elt i ver k off),some av=>match A5 σ.hp i with
   | some (.row e sz ver' l)=>D6 (ver = ver' ∧ off < sz) (Bz P T fun ag szT=>cond (cond ag false (Nat.beq szT 1 && R3 e)) (cond (H4 av) (HB σ.hp av (J0 l (k:Int) fun el=>B5 P E n ops rest (σ.set i (.row e sz ver (l.set k (el.set off av)))) K)) (O4 P E n ops o rest [av] σ K)) False)
   | _=>False
 | _,_=>False
def OV (P:Program) (E:Env) (n:Nat) (ops:Array Oper) (d T:Nat) (x y:Option AV) (rest:List Oper) (σ:St) (K:St → Prop):Prop :=
 match x,y with
 | some (.v (.int .i64 m)),some (.v (.int .i64 m'))=>w3 P T fun e sz bs z=>cond (Nat.blt e G1) (D6 (m = m' ∧ 0 ≤ m ∧ bs * m.toNat ≤ 281474976710656 ∧ m ≤ 9223372036854775807) (E8 σ.nx fun nx=>B5 P E n ops rest ((σ.new (.row e sz 0 (List.replicate m.toNat z))).put d (.row nx 0 m.toNat)) K)) False
 | _,_=>False
def Il (P:Program) (E:Env) (n:Nat) (ops:Array Oper) (d T:Nat) (x y:Option AV) (rest:List Oper) (σ:St) (K:St → Prop):Prop :=
 match x,y with
 | some (.row i ver len),some (.sl sz' m)=>match A5 σ.hp i with
   | some (.row e sz ver' l)=>D6 (ver = ver') (w3 P T fun e' sz2 bs _=>cond (Nat.beq e e' && Nat.beq sz sz2 && Nat.beq sz sz' && Nat.blt 0 sz && Nat.blt e C4) (D6 (∀ el ∈ m,∀ u ∈ el,M8 u) (D6 ((len + m.length) * bs ≤ 140737488355328 ∧ len + m.length ≤ 9223372036854775807)
     (B5 P E n ops rest ((σ.set i (.row e sz (ver + 1) (l ++ m))).put d (.row i (ver + 1) (len + m.length))) K))) False)
   | _=>False
 | some (.row i ver len),some (.row j ver2 len2)=>match A5 σ.hp i,A5 σ.hp j with
   | some (.row e sz ver' l),some (.row _ sz' ver2' m)=>D6 (ver = ver' ∧ ver2 = ver2') (w3 P T fun e' sz2 bs _=>cond (Nat.beq e e' && Nat.beq sz sz2 && Nat.beq sz sz' && Nat.blt 0 sz && Nat.blt e C4) (D6 (∀ el ∈ m,∀ u ∈ el,M8 u) (D6 ((len + m.length) * bs ≤ 140737488355328 ∧ len + m.length ≤ 9223372036854775807)
     (B5 P E n ops rest ((σ.set i (.row e sz (ver + 1) (l ++ m))).put d (.row i (ver + 1) (len + m.length))) K))) False)
   | _,_=>False
 | some (.v (.slice none 0 0)),some (.sl sz' m)=>w3 P T fun e sz bs _=>cond (Nat.beq sz sz' && Nat.blt 0 sz && Nat.blt e C4) (D6 (∀ el ∈ m,∀ u ∈ el,M8 u) (D6 ((0 + m.length) * bs ≤ 140737488355328 ∧ 0 + m.length ≤ 9223372036854775807)
   (E8 σ.nx fun nx=>B5 P E n ops rest (((σ.new (.row e sz 0 [])).set nx (.row e sz 1 ([] ++ m))).put d (.row nx 1 (0 + m.length))) K))) False
 | _,_=>False
def Io (P:Program) (E:Env) (n:Nat) (ops:Array Oper) (d T T2:Nat) (x:Option AV) (s:List UInt8) (rest:List Oper) (σ:St) (K:St → Prop):Prop :=
 match x with
 | some (.row i ver len)=>match A5 σ.hp i with
   | some (.row e sz ver' l)=>D6 (ver = ver') (w3 P T fun e' sz2 bs _=>l4 P T2 (cond (Nat.beq e e' && Nat.beq sz 1 && Nat.beq sz2 1 && Nat.beq bs 1 && Nat.blt e C4) (OT P e (D6 (len + s.length ≤ 140737488355328) (B5 P E n ops rest ((σ.set i (.row e 1 (ver + 1) (l ++ Bh s))).put d (.row i (ver + 1) (len + s.length))) K))) False))
   | _=>False
 | some (.v (.slice none 0 0))=>w3 P T fun e sz bs _=>l4 P T2 (cond (Nat.beq sz 1 && Nat.beq bs 1 && Nat.blt e C4) (OT P e (D6 (0 + s.length ≤ 140737488355328) (E8 σ.nx fun nx=>B5 P E n ops rest (((σ.new (.row e 1 0 [])).set nx (.row e 1 1 ([] ++ Bh s))).put d (.row nx 1 (0 + s.length))) K))) False)
 | _=>False
def Kt (P:Program) (E:Env) (n:Nat) (ops:Array Oper) (T:Nat) (x y z:Option AV) (rest:List Oper) (σ:St) (K:St → Prop):Prop :=
 match x,y,z with
 | some (.mp i),some kav,some av=>match A5 σ.hp i,keyOf kav with
   | some (.map m),some k=>Ja P T fun t _=>cond (o8 t k && H4 av) (D6 (s7 t m) (B5 P E n ops rest (σ.set i (.map (AY m k av))) K)) False
   | _,_=>False
 | _,_,_=>False
def QK (P:Program) (E:Env) (n:Nat) (ops:Array Oper) (o:Oper) (rest:List Oper) (σ:St) (K:St → Prop):Prop :=
 match o.dst,o.op with
 | some d, .box T x=>cond (Nat.blt d n) (L7 (D4 σ x) fun av=>HC σ.hp av (E8 σ.nx fun nx=>B5 P E n ops rest ((σ.new (.box (E6 av))).put d (.ref nx 0)) K)) False
 | some d, .alloc T=>cond (Nat.blt d n) (JY P T fun l=>E8 σ.nx fun nx=>B5 P E n ops rest ((σ.new (.box l)).put d (.ref nx 0)) K) False
 | none, .store T x y=>HI P E n ops ⟨o.dst,o.op,o.type,o.pos,o.after,none⟩ T (D4 σ x) (D4 σ y) rest σ K
 | some d, .makeSlice T x y=>cond (Nat.blt d n) (OV P E n ops d T (D4 σ x) (D4 σ y) rest σ K) False
 | some d, .makeMap T none=>cond (Nat.blt d n) (E8 σ.nx fun nx=>B5 P E n ops rest ((σ.new (.map [])).put d (.mp nx)) K) False
 | none, .mapUpdate T x y z=>Kt P E n ops T (D4 σ x) (D4 σ y) (D4 σ z) rest σ K
 | some d, .call ⟨.builtin .append,⟨[x,y]⟩,⟨[T,T']⟩⟩=>match D4 σ y with
   | some (.str s)=>cond (Nat.blt d n) (Io P E n ops d T T' (D4 σ x) s rest σ K) False
   | _=>cond (Nat.blt d n && Nat.beq T T') (Il P E n ops d T (D4 σ x) (D4 σ y) rest σ K) False
 | some d, .call ⟨.builtin .unsafeSliceData,⟨[x]⟩,ts⟩=>O4 P E n ops ⟨o.dst,o.op,o.type,o.pos,o.after,none⟩ rest [] σ K
 | some d, .call ⟨.builtin .unsafeString,⟨[x,y]⟩,ts⟩=>O4 P E n ops ⟨o.dst,o.op,o.type,o.pos,o.after,none⟩ rest [] σ K
 | some d, .call ⟨.value (.func f),⟨args⟩,_⟩=>cond (Nat.blt d n) (match P5 (D4 σ) args with
   | some l=>cond (G3 l) (EH P f (l ++ []) fun av=>B5 P E n ops rest (σ.put d av) K) (O4 P E n ops ⟨o.dst,o.op,o.type,o.pos,o.after,none⟩ rest l σ K)
   | none=>False) False
 | some d, .call ⟨.value (.tmp t),⟨args⟩,ts⟩=>match D4 σ (.tmp t),P5 (D4 σ) args with
   | some (.fo _ caps),some l=>O4 P E n ops ⟨o.dst,o.op,o.type,o.pos,o.after,none⟩ rest (l ++ caps) σ K
   | _,_=>cond (Nat.blt d n) (AD P (.call ⟨.value (.tmp t),⟨args⟩,ts⟩) (D4 σ) σ.hp fun av=>B5 P E n ops rest (σ.put d av) K) False
 | some d, .buildSlice T len ⟨parts⟩=>match V7 (D4 σ) parts with
   | some ps=>cond (ps.all fun p=>H4 p.2) (cond (Nat.blt d n) (AD P (.buildSlice T len ⟨parts⟩) (D4 σ) σ.hp fun av=>B5 P E n ops rest (σ.put d av) K) False) (O4 P E n ops ⟨o.dst,o.op,o.type,o.pos,o.after,none⟩ rest (ps.map (·.2)) σ K)
   | none=>False
 | some d, .slice T x lo hi none=>match D4 σ x with
   | some (.row i v len)=>O4 P E n ops ⟨o.dst,o.op,o.type,o.pos,o.after,none⟩ rest [.row i v len] σ K
   | _=>cond (Nat.blt d n) (AD P (.slice T x lo hi none) (D4 σ) σ.hp fun av=>B5 P E n ops rest (σ.put d av) K) False
 | some d, .makeFunc f ⟨x :: xs⟩ ⟨[]⟩=>O4 P E n ops ⟨o.dst,o.op,o.type,o.pos,o.after,none⟩ rest [] σ K
 | some d, .makeFunc f ⟨[]⟩ ⟨xs⟩=>cond (Nat.blt d n) (match P5 (D4 σ) xs with
   | some l=>cond (G3 l) (AD P (.makeFunc f ⟨[]⟩ ⟨xs⟩) (D4 σ) σ.hp fun av=>B5 P E n ops rest (σ.put d av) K) (O4 P E n ops ⟨o.dst,o.op,o.type,o.pos,o.after,none⟩ rest l σ K)
   | none=>False) False
 | some d,op=>cond (Nat.blt d n) (AD P op (D4 σ) σ.hp fun av=>B5 P E n ops rest (σ.put d av) K) False
 | _,_=>False
theorem HJ {T:Nat} (h:HI P E n ops ⟨none, .store T x y,ty,pos,after,none⟩ T (D4 σ x) (D4 σ y) rest σ K):B5 P E n ops (⟨none, .store T x y,ty,pos,after,none⟩ :: rest) σ K:=by
 unfold HI at h
 split at h
 ·rename_i hx hy
  split at h
  ·rename_i hb
   obtain ⟨⟨ag,sz,tv,h⟩⟩:=h
   obtain ⟨hs,h⟩:=cond_false h
   simp only [Bool.and_eq_true,Nat.beq_eq,Nat.ble_eq] at hs
   obtain ⟨hf,h⟩:=CD h
   obtain ⟨ho,h⟩:=EM h
   exact Er (ag:=ag) (sz:=sz) hx hy hb hf ho hs.1 hs.2 h
  ·exact h.elim
 ·rename_i hx hy
  split at h
  ·rename_i e sz ver' l hb
   obtain ⟨⟨rfl,hoff⟩,h⟩:=h
   obtain ⟨⟨ag,szT,tv,h⟩⟩:=h
   obtain ⟨hs,h3⟩:=cond_false h
   clear h
   cases ag with
   | true=>cases hs
   | false =>
    have h4:=h3
    clear h3
    cases hcl:H4 _ with
    | false =>
     rw [hcl] at h4
     exact h4.h
    | true =>
     rw [hcl] at h4
     obtain ⟨ho,h⟩:=CC h4
     obtain ⟨h0,h1,hk⟩:=h
     rename_i k _ _ _
     have hlt:k < l.length:=by omega
     have hel:l[k]? = some l[k]:=List.getElem?_eq_getElem hlt
     have hs2:(Nat.beq szT 1 && R3 e) = true:=hs
     rw [Bool.and_eq_true] at hs2
     exact Es (szT:=szT) hx hy hb hel hoff (Nat.eq_of_beq_eq_true hs2.1) hcl ho (hk _ (by rw [Int.toNat_natCast];exact hel)) hs2.2
  ·exact h.elim
 ·exact h.elim
theorem Ku {o:Oper} (hg:o.guard = none) (h:QK P E n ops o rest σ K):B5 P E n ops (o :: rest) σ K:=by
 obtain ⟨dst,op,ty,pos,after,guard⟩:=o
 simp only at hg
 subst hg
 have quiet:∀ {d:Nat} {op:Op},Nat.blt d n = true → AD P op (D4 σ) σ.hp (fun av=>B5 P E n ops rest (σ.put d av) K) → B5 P E n ops (⟨some d,op,ty,pos,after,none⟩ :: rest) σ K:=by
  intro d op hd h
  obtain ⟨av,hq,h⟩:=OU (E:=E) (nx:=σ.nx) (ty:=ty) h
  exact Gf hq hd h
 unfold QK at h
 simp only at h
 split at h
 ·rename_i ho
  obtain ⟨hd,h⟩:=cond_false h
  obtain ⟨av,hx,h⟩:=F3 h
  obtain ⟨hf,h⟩:=CD h
  exact MK hx hf hd (D0 h)
 ·obtain ⟨hd,h⟩:=cond_false h
  obtain ⟨⟨l,tz,h⟩⟩:=h
  exact JV (l:=l) hd (D0 h)
 ·exact HJ h
 ·obtain ⟨hd,h⟩:=cond_false h
  unfold OV at h
  split at h
  ·rename_i hx hy
   obtain ⟨⟨e,sz,bs,z,ts,tz,tb,hz,h⟩⟩:=h
   obtain ⟨hek,hq⟩:=cond_false h
   clear h
   obtain ⟨⟨rfl,h0,h1,h2⟩,hq⟩:=hq
   exact Ki (e:=e) (z:=z) (by_:=bs) hx hy h0 h1 h2 hz (Nat.blt_eq ▸ hek) hd (D0 hq)
  ·exact h.elim
 ·obtain ⟨hd,h⟩:=cond_false h
  exact Gv hd (D0 h)
 ·unfold Kt at h
  split at h
  ·rename_i hx hy hz
   split at h
   ·rename_i hb hk
    obtain ⟨⟨k,e,t,z,tm,h⟩⟩:=h
    obtain ⟨hc,h⟩:=cond_false h
    simp only [Bool.and_eq_true] at hc
    exact Et (T:=_) hx hb hy hk hc.1 h.h hz hc.2 h.k
   ·exact h.elim
  ·exact h.elim
 ·split at h
  ·rename_i hys
   obtain ⟨hd,h3⟩:=cond_false h
   clear h
   unfold Io at h3
   split at h3
   ·rename_i hx
    split at h3
    ·rename_i hb
     obtain ⟨rfl,h⟩:=h3
     obtain ⟨⟨e,sz,bs,z,ts,tz,tb,hz,h⟩⟩:=h
     obtain ⟨tu,h⟩:=h
     obtain ⟨hc,h5⟩:=cond_false h
     clear h
     simp only [Bool.and_eq_true,Nat.beq_eq,Nat.blt_eq] at hc
     obtain ⟨⟨⟨⟨rfl,rfl⟩,rfl⟩,rfl⟩,hbe⟩:=hc
     obtain ⟨⟨hlen,h⟩⟩:=h5
     exact Dz hx hb hys hbe hlen hd h
    ·exact h3.elim
   ·rename_i hx
    obtain ⟨⟨e,sz,bs,z,ts,tz,tb,hz,h⟩⟩:=h3
    obtain ⟨tu,h⟩:=h
    obtain ⟨hc,h5⟩:=cond_false h
    clear h
    simp only [Bool.and_eq_true,Nat.beq_eq,Nat.blt_eq] at hc
    obtain ⟨⟨rfl,rfl⟩,hbe⟩:=hc
    obtain ⟨⟨hlen,h⟩⟩:=h5
    exact Bt hx hys hbe hlen hd (D0 h)
   ·exact h3.elim
  rename_i hys
  clear hys
  obtain ⟨hd,h3⟩:=cond_false h
  clear h
  have h:=h3
  clear h3
  simp only [Bool.and_eq_true,Nat.beq_eq] at hd
  obtain ⟨hd,rfl⟩:=hd
  unfold Il at h
  split at h
  ·rename_i hx hy
   split at h
   ·rename_i hb
    obtain ⟨rfl,h⟩:=h
    obtain ⟨⟨e,sz,bs,z,ts,tz,tb,hz,h⟩⟩:=h
    obtain ⟨hc,h3⟩:=cond_false h
    clear h
    simp only [Bool.and_eq_true,Nat.beq_eq,Nat.blt_eq] at hc
    obtain ⟨⟨⟨⟨rfl,rfl⟩,rfl⟩,hpos⟩,hbe⟩:=hc
    obtain ⟨him,h⟩:=h3
    obtain ⟨hlen,h⟩:=h
    exact EA (z:=z) (by_:=bs) hx hb hy him hz hpos hbe hlen.1 hlen.2 hd h
   ·exact h.elim
  ·rename_i hx hy
   split at h
   ·rename_i hb hb2
    obtain ⟨⟨rfl,rfl⟩,h⟩:=h
    obtain ⟨⟨e,sz,bs,z,ts,tz,tb,hz,h⟩⟩:=h
    obtain ⟨hc,h3⟩:=cond_false h
    clear h
    simp only [Bool.and_eq_true,Nat.beq_eq,Nat.blt_eq] at hc
    obtain ⟨⟨⟨⟨rfl,rfl⟩,rfl⟩,hpos⟩,hbe⟩:=hc
    obtain ⟨him,h⟩:=h3
    obtain ⟨hlen,h⟩:=h
    exact DU (z:=z) (by_:=bs) hx hb hy hb2 him hz hpos hbe hlen.1 hlen.2 hd h
   ·exact h.elim
  ·rename_i hx hy
   obtain ⟨⟨e,sz,bs,z,ts,tz,tb,hz,h⟩⟩:=h
   obtain ⟨hc,h3⟩:=cond_false h
   clear h
   simp only [Bool.and_eq_true,Nat.beq_eq,Nat.blt_eq] at hc
   obtain ⟨⟨rfl,hpos⟩,hbe⟩:=hc
   obtain ⟨him,h⟩:=h3
   obtain ⟨hlen,h⟩:=h
   exact EB (z:=z) (by_:=bs) hx hy him hz hpos hbe hlen.1 hlen.2 hd (D0 h)
  ·exact h.elim
 ·exact h.h
 ·exact h.h
 ·obtain ⟨hd,h⟩:=cond_false h
  split at h
  ·rename_i l hl
   cases hc:G3 l with
   | true =>
     rw [hc] at h
     obtain ⟨⟨r,hr,h⟩⟩:=h
     rw [List.append_nil] at hr
     exact Gf (En hr hl hc) hd h
   | false =>
     rw [hc] at h
     exact h.h
  ·exact h.elim
 ·split at h
  ·exact h.h
  ·obtain ⟨hd,h⟩:=cond_false h
   exact quiet hd h
 ·split at h
  ·rename_i ps hps
   cases hc:ps.all fun p=>H4 p.2 with
   | true =>
     rw [hc] at h
     obtain ⟨hd,h⟩:=cond_false h
     exact quiet hd h
   | false =>
     rw [hc] at h
     exact h.h
  ·exact h.elim
 ·split at h
  ·exact h.h
  ·obtain ⟨hd,h⟩:=cond_false h
   exact quiet hd h
 ·exact h.h
 ·obtain ⟨hd,h⟩:=cond_false h
  split at h
  ·rename_i l hl
   cases hc:G3 l with
   | true =>
     rw [hc] at h
     exact quiet hd h
   | false =>
     rw [hc] at h
     exact h.h
  ·exact h.elim
 ·obtain ⟨hd,h⟩:=cond_false h
  exact quiet hd h
 ·exact h.elim
structure I6 (b g:Bool) (A B:Prop):Prop where
 t:b = g → A
 f:b = (!g) → B
theorem Mc {A B:Prop} (k:A):I6 true true A B:=⟨fun _=>k,fun h=>by cases h⟩
theorem Md {A B:Prop} (k:A):I6 false false A B:=⟨fun _=>k,fun h=>by cases h⟩
theorem Me {A B:Prop} (k:B):I6 true false A B:=⟨(fun h=>by cases h),fun _=>k⟩
theorem Mf {A B:Prop} (k:B):I6 false true A B:=⟨(fun h=>by cases h),fun _=>k⟩
theorem Mg {p A B:Prop} [Decidable p] (h1:p → A) (h2:¬ p → B):I6 (decide p) true A B:=⟨fun h=>h1 (of_decide_eq_true h),fun h=>h2 (of_decide_eq_false h)⟩
theorem Mh {p A B:Prop} [Decidable p] (h1:¬ p → A) (h2:p → B):I6 (decide p) false A B:=⟨fun h=>h1 (of_decide_eq_false h),fun h=>h2 (of_decide_eq_true h)⟩
theorem Mi {b:Bool} {A B:Prop} (h1:b = true → A) (h2:b = false → B):I6 b true A B:=⟨h1,h2⟩
theorem Mj {b:Bool} {A B:Prop} (h1:b = false → A) (h2:b = true → B):I6 b false A B:=⟨h1,h2⟩
theorem Kv {p A B:Prop} [Decidable p] (h1:¬ p → A) (h2:p → B):I6 (!decide p) true A B:=⟨fun h=>h1 (by simpa using h),fun h=>h2 (by simpa using h)⟩
theorem Kw {p A B:Prop} [Decidable p] (h1:p → A) (h2:¬ p → B):I6 (!decide p) false A B:=⟨fun h=>h1 (by simpa using h),fun h=>h2 (by simpa using h)⟩
theorem Kx {b:Bool} {A B:Prop} (h1:b = false → A) (h2:b = true → B):I6 (!b) true A B:=⟨fun h=>h1 (by simpa using h),fun h=>h2 (by simpa using h)⟩
theorem Ky {b:Bool} {A B:Prop} (h1:b = true → A) (h2:b = false → B):I6 (!b) false A B:=⟨fun h=>h1 (by simpa using h),fun h=>h2 (by simpa using h)⟩
def QL (P:Program) (E:Env) (n:Nat) (ops:Array Oper) (l:List Oper) (σ:St) (K:St → Prop):Prop :=
 match l with
 | []=>K σ
 | ⟨dst,op,ty,pos,after,none⟩ :: rest=>QK P E n ops ⟨dst,op,ty,pos,after,none⟩ rest σ K
 | ⟨some dd,op,ty,pos,after,some (j,g)⟩ :: rest=>match (ops[j]?).bind (·.dst) with
   | some dj=>cond (Nat.blt dd n) (match look σ.sl dj with
     | some (.v (.bool b))=>I6 b g (B5 P E n ops (⟨some dd,op,ty,pos,after,none⟩ :: rest) (σ.put dj (.v (.bool g))) K)
       (B5 P E n ops rest ((σ.put dj (.v (.bool !g))).put dd (.v undef)) K)
     | some (.v (.tuple t))=>B5 P E n ops rest (σ.put dd (.v undef)) K
     | _=>False) False
   | none=>False
 | ⟨none,_,_,_,_,some _⟩ :: _=>False
theorem A6 {l:List Oper} (h:QL P E n ops l σ K):B5 P E n ops l σ K:=by
 unfold QL at h
 split at h
 ·exact MA h
 ·exact Ku rfl h
 ·split at h
  ·rename_i dj hj
   obtain ⟨hdd,h⟩:=cond_false h
   split at h
   ·rename_i b hb
    exact Gc hj hb hdd h.t h.f
   ·rename_i t hb
    exact Bd hj hb rfl hdd h
   ·exact h.elim
  ·exact h.elim
 ·exact h.elim
structure OW (P:Program) (E:Env) (n:Nat) (c:Code) (σ:St) (Q:Exit → St → Prop):Prop where
 h:E3 P E n (.loop c) σ Q
structure l6 (P:Program) (E:Env) (n:Nat) (id:Nat) (ops:Array Oper) (σ:St) (Q:Exit → St → Prop):Prop where
 h:E3 P E n (.region id ops true) σ Q
def Jh (P:Program) (E:Env) (n:Nat) (c:Code) (σ:St) (Q:Exit → St → Prop):Prop :=
 match c with
 | .seq a b=>E3 P E n a σ (GP (fun σ'=>E3 P E n b σ' Q) Q)
 | .region _ ops false=>B5 P E n ops ops.toList σ (fun σ'=>Q .normal σ')
 | .region id ops true=>l6 P E n id ops σ Q
 | .skip=>Q .normal σ
 | .ret=>Q .ret σ
 | .exit i=>Q (.exit i) σ
 | .block id c=>E3 P E n c σ (Dl id Q)
 | .cond (.tmp t) a b=>match look σ.sl t with
   | some (.v (.bool c))=>W4 c (E3 P E n a (σ.put t (.v (.bool true))) Q) (E3 P E n b (σ.put t (.v (.bool false))) Q)
   | _=>False
 | .cond (.const (.bool true)) a b=>E3 P E n a σ Q
 | .cond (.const (.bool false)) a b=>E3 P E n b σ Q
 | .loop c=>OW P E n c σ Q
 | _=>False
theorem Kz {c:Code} (h:Jh P E n c σ Q):E3 P E n c σ Q:=by
 unfold Jh at h
 split at h
 ·exact Oe h
 ·exact JK rfl h
 ·exact h.h
 ·exact MC h
 ·exact Of h
 ·exact MD h
 ·exact KS h
 ·split at h
  ·rename_i hc;exact JN hc h.t h.f
  ·exact h.elim
 ·exact JL rfl h
 ·exact JM rfl h
 ·exact h.h
 ·exact h.elim
theorem F4 {ι:Type} {c:Code} (S:ι → St) (I:ι → Prop) (m:ι → Nat) (x0:ι) (hI:I x0) (h0:St.le E n σ (S x0))
  (h:∀ x,I x → E3 P E n c (S x) (GP (fun σ'=>∃ y,I y ∧ m y < m x ∧ St.le E n σ' (S y)) Q)):OW P E n c σ Q:=⟨ME S I m x0 hI h0 h⟩
end rules
end Go.Av
