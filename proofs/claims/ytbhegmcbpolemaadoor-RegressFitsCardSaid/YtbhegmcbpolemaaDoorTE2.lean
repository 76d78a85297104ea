/- Maps, tuples, closures, parts of strings and of rows. States that say less; freezing; what a function does. One rule for every operation: what is left to prove is reckoned by unfolding. The walk: operations that make or write memory, code, and what a function does. -/
import Derived.Test.YtbhegmcbpolemaaDoorTE1
set_option linter.unusedSimpArgs false
set_option linter.unusedVariables false
set_option linter.unnecessarySimpa false
namespace Go.Av
open Go Go.RowKit
class Ah (P:Program) (T:Nat) (k e:outParam Nat) (t:outParam TypeDesc) (z:outParam Value):Prop where
 out:P.underlying T = some (.map k e) ∧ P.underlying k = some t ∧ (P.info? e).bind (·.zero) = some z
section rules
variable {P:Program} {E:Env} {n nx:Nat} {hp:Hp} {ev:Operand → Option AV} {ops:Array Oper} {rest:List Oper} {σ:St} {K:St → Prop} {Q:Exit → St → Prop}
variable {d:Nat} {ty:TypeId} {pos:String} {after:Array Edge} {x y z:Operand}
def p3 (t:TypeDesc) (m:List (Key × AV)):Prop:=∀ p ∈ m,n5 t p.1 = true
theorem Q3.map {θ:Th} {a:Act} {w:World} (h:Q3 E θ nx hp ev a w) {i:Nat} {m:List (Key × AV)} (hb:B2 hp i = some (.map m)) :
  ∃ r es clock,θ i = .map (some r) ∧ w.heap[r]? = some (.map es clock) ∧ es.size = m.length ∧
   ∀ (j:Nat) (q:Key × AV) e,m[j]? = some q → es[j]? = some e → e.key = q.1.val ∧ Im (kx E θ nx hp w).U w q.2 e.val:=(h.owns i _ hb).2
theorem run_findKey {kt:TypeId} {t:TypeDesc} {k:Key} (ht:P.underlying kt = some t) {es:List MapEntry} {q:Option (Nat × Value)} (hq:Instr.findNow t k.val es 0 = some q) (w:World):(Instr.findKey kt k.val es).run P w = .ok q w:=by
 simp [Instr.findKey,Sem.run_bind,run_underlying ht,hq,Sem.run_pure]
def Ai (m:List (Key × AV)) (k:Key) (d:AV):AV:=match l9 m k with
 | some v=>v
 | none=>d
theorem Do {T kt e:Nat} {t:TypeDesc} {zv:Value} [tm:Ah P T kt e t zv] {θ:Th} {a:Act} {w:World} (h:Q3 E θ nx hp ev a w) {i:Nat} {m:List (Key × AV)} {kav:AV} {k:Key} (hx:ev x = some (.mp i)) (hb:B2 hp i = some (.map m)) (hy:ev y = some kav) (hk:keyOf kav = some k) (hkk:n5 t k = true) (hm:p3 t m) (ok:Bool) :
  ∃ v,(Instr.lookup T (a.eval x) (a.eval y) ok).run P w = .ok (if ok then .tuple #[v, .bool (l9 m k).isSome] else v) w ∧ C5 (kx E θ nx hp w) (Ai m k (Q1 zv)) v:=by
 obtain ⟨hu,ht,hz⟩:=tm.out
 obtain ⟨r,es,clock,hθ,hr,hsz,hes⟩:=h.map hb
 obtain ⟨hv,hnx⟩:=KU (h.rel hx)
 have hv':a.eval x = .map (some r):=by rw [hv];exact hθ
 have hky:=FE hk (h.rel hy)
 have hkind:=n6 hkk
 obtain ⟨q,hq,hspec⟩:=findNow_spec (t:=t) hkind m es.toList 0 (by simpa using hsz) (fun p hp=>n6 (hm p hp)) (fun j p e hj he=>(hes j p e hj (by simpa using he)).1)
 have hidx:=Lr (m:=m) (k:=k)
 simp only [Instr.lookup,Sem.run_bind,run_underlying hu,Result.andThen_ok,hv',hky,MapKept.run_getObj_map hr,Sem.run_pure,W9 ht hkind,run_findKey ht hq]
 cases hf:m.findIdx? (fun p=>decide (p.1 = k)) with
 | none =>
   rw [hf] at hspec hidx
   subst hspec
   simp only at hidx
   cases hi:P.info? e with
   | none=>rw [hi] at hz;simp at hz
   | some inf =>
     rw [hi] at hz
     simp only [Sem.run_bind,R9 hi (by simpa using hz),Result.andThen_ok,Sem.run_pure,hidx]
     refine ⟨zv,by cases ok <;> rfl,?_⟩
     simp only [Ai,hidx]
     exact .im (BZ zv)
 | some j =>
   rw [hf] at hspec hidx
   obtain ⟨e,he,rfl⟩:=hspec
   obtain ⟨p,hp1,hp2,hp3⟩:=hidx
   simp only [Sem.run_pure,Result.andThen_ok,hp3]
   refine ⟨e.val,by cases ok <;> rfl,?_⟩
   simp only [Ai,hp3]
   exact .im (hes j p e hp1 (by simpa using he)).2
theorem Ls {T kt e:Nat} {t:TypeDesc} {zv:Value} [tm:Ah P T kt e t zv] {i:Nat} {m:List (Key × AV)} {kav:AV} {k:Key} (hx:ev x = some (.mp i)) (hb:B2 hp i = some (.map m)) (hy:ev y = some kav) (hk:keyOf kav = some k) (hkk:n5 t k = true) (hm:p3 t m) :
  E2 P E nx hp ev (.lookup T x y false) ty (Ai m k (Q1 zv)) :=
 C7 fun _ _ _ θ a w h=>by
  obtain ⟨v,h1,h2⟩:=Do (P:=P) (T:=T) h hx hb hy hk hkk hm false
  exact ⟨v,by simp only [execOp,Sem.run_bind,h1,Result.andThen_ok,Sem.run_pure];rfl,h2⟩
theorem Hm {T kt e:Nat} {t:TypeDesc} {zv:Value} [tm:Ah P T kt e t zv] {i:Nat} {m:List (Key × AV)} {kav:AV} {k:Key} (hx:ev x = some (.mp i)) (hb:B2 hp i = some (.map m)) (hy:ev y = some kav) (hk:keyOf kav = some k) (hkk:n5 t k = true) (hm:p3 t m) :
  E2 P E nx hp ev (.lookup T x y true) ty (.tup [Ai m k (Q1 zv), .b (l9 m k).isSome]) :=
 C7 fun _ _ _ θ a w h=>by
  obtain ⟨v,h1,h2⟩:=Do (P:=P) (T:=T) h hx hb hy hk hkk hm true
  refine ⟨.tuple #[v, .bool (l9 m k).isSome],by simp only [execOp,Sem.run_bind,h1,Result.andThen_ok,Sem.run_pure];rfl,?_⟩
  exact .tup [_,_] [v, .bool (l9 m k).isSome] rfl fun j u z hu hz=>by
   match j,hu,hz with
   | 0,hu,hz=>cases hu;cases hz;exact h2
   | 1,hu,hz=>cases hu;cases hz;exact .im (.v _)
theorem Gf (k:Key) (m:Nat):Instr.sameBits m k.val k.val = true:=by
 cases k with
 | s l =>
   simp only [Key.val,Instr.sameBits]
   show (l.toArray == l.toArray) = true
   simp
 | i k n=>simp [Key.val,Instr.sameBits]
theorem FF {k:Key} {v:AV}:∀ (m:List (Key × AV)),(match m.findIdx? (fun p=>decide (p.1 = k)) with
   | none=>AC m k v = m ++ [(k,v)]
   | some j=>AC m k v = m.set j (k,v))
 | []=>rfl
 | (k',v') :: r=>by
   rw [List.findIdx?_cons]
   by_cases e:k' = k
   ·simp only [e,decide_true,if_true]
    simp [AC]
   ·simp only [e,decide_false]
    have ih:=FF (k:=k) (v:=v) r
    cases hf:r.findIdx? (fun p=>decide (p.1 = k)) with
    | none=>rw [hf] at ih;simp [AC,e];exact ih
    | some j=>rw [hf] at ih;simp [AC,e];exact ih
theorem Ej {T kt e:Nat} {t:TypeDesc} {zv:Value} [tm:Ah P T kt e t zv] {i:Nat} {m:List (Key × AV)} {kav av:AV} {k:Key} (hx:D8 σ x = some (.mp i)) (hb:B2 σ.hp i = some (.map m)) (hy:D8 σ y = some kav) (hk:keyOf kav = some k) (hkk:n5 t k = true) (hm:p3 t m) (hz:D8 σ z = some av) (hcl:H2 av = true)
  (kk:B6 P E n ops rest (σ.set i (.map (AC m k av))) K):B6 P E n ops (⟨none, .mapUpdate T x y z,ty,pos,after,none⟩ :: rest) σ K :=
 Be hb (fun θ a w h=>by
  obtain ⟨hu,ht,_⟩:=tm.out
  obtain ⟨r,es,clock,hθ,hr,hsz,hes⟩:=h.map hb
  obtain ⟨hv,hnx⟩:=KU (h.rel hx)
  have hv':a.eval x = .map (some r):=by rw [hv];exact hθ
  have hky:=FE hk (h.rel hy)
  have hkind:=n6 hkk
  obtain ⟨q,hq,hspec⟩:=findNow_spec (t:=t) hkind m es.toList 0 (by simpa using hsz) (fun p hp=>n6 (hm p hp)) (fun j p e hj he=>(hes j p e hj (by simpa using he)).1)
  have hset:=FF (k:=k) (v:=av) m
  have hlt:r < w.heap.size:=(Array.getElem?_eq_some_iff.1 hr).1
  have hfin:∃ es' clock',(Instr.mapUpdate T (a.eval x) (a.eval y) (a.eval z)).run P w = .ok () { w with heap:=w.heap.setIfInBounds r (.map es' clock') } ∧ es'.size = (AC m k av).length ∧
    ∀ (j:Nat) (q:Key × AV) e,(AC m k av)[j]? = some q → es'[j]? = some e → e.key = q.1.val ∧ Im (kx E θ σ.nx σ.hp w).U w q.2 e.val:=by
   have himv:=(Q5 hcl).im (h.rel hz)
   cases hf:m.findIdx? (fun p=>decide (p.1 = k)) with
   | none =>
     rw [hf] at hspec hset
     subst hspec
     refine ⟨es.push { key:=k.val,val:=a.eval z,born:=clock },clock + 1,?_,by simp only [hset];simp [hsz],fun j q e hj he=>?_⟩
     ·simp only [Instr.mapUpdate,Sem.run_bind,run_underlying hu,Result.andThen_ok,hv',hky,MapKept.run_getObj_map hr,Sem.run_pure,W9 ht hkind,run_findKey ht hq,MapKept.run_setObj_map _ hr]
     ·simp only [hset] at hj
      rw [Array.getElem?_push] at he
      rw [List.getElem?_append] at hj
      split at hj
      ·rename_i hlt2
       rw [if_neg (by omega)] at he
       exact hes j q e hj he
      ·rename_i hge
       have:j = m.length:=by
        rcases Nat.lt_or_ge m.length j with h1 | h1
        ·rw [List.getElem?_eq_none (by simp;omega)] at hj;cases hj
        ·omega
       subst this
       rw [if_pos (by omega)] at he
       cases he
       simp at hj
       subst hj
       exact ⟨rfl,himv⟩
   | some j0 =>
     rw [hf] at hspec hset
     obtain ⟨e0,he0,rfl⟩:=hspec
     have hj0:j0 < m.length:=by
      have:=(List.getElem?_eq_some_iff.1 he0).1
      simp at this
      omega
     have hmj:m[j0]? = some m[j0]:=List.getElem?_eq_getElem hj0
     have hkeq:m[j0].1 = k:=by
      have:=List.findIdx?_eq_some_iff_getElem.1 hf
      exact of_decide_eq_true this.2.1
     have hek:e0.key = k.val:=by rw [(hes j0 _ e0 hmj (by simpa using he0)).1,hkeq]
     refine ⟨es.modify j0 fun e=>{ e with key:=k.val,val:=a.eval z },clock,?_,by simp only [hset];simp [hsz],fun j q e hj he=>?_⟩
     ·have he0':es[j0]? = some e0:=by simpa using he0
      simp only [Instr.mapUpdate,Sem.run_bind,run_underlying hu,Result.andThen_ok,hv',hky,MapKept.run_getObj_map hr,Sem.run_pure,W9 ht hkind,run_findKey ht hq,Nat.zero_add,he0',Option.map_some,Option.getD_some,Instr.keyThatStays,hek,Gf,if_true,MapKept.run_setObj_map _ hr]
     ·simp only [hset] at hj
      rw [Array.getElem?_modify] at he
      rw [List.getElem?_set] at hj
      by_cases ej:j0 = j
      ·subst ej
       rw [if_pos rfl] at he hj
       rw [if_pos hj0] at hj
       cases hj
       cases hh:es[j0]? with
       | none=>rw [hh] at he;simp at he
       | some e1=>rw [hh] at he;simp at he;subst he;exact ⟨rfl,himv⟩
      ·rw [if_neg ej] at he hj
       exact hes j q e hj he
  obtain ⟨es',clock',hrun,hsz',hes'⟩:=hfin
  refine ⟨{ w with heap:=w.heap.setIfInBounds r (.map es' clock') },by simp only [execOp,Sem.run_bind,hrun,Result.andThen_ok,Sem.run_pure],rfl,rfl,rfl,by simp,fun k hk=>?_,rfl,fun le=>?_⟩
  ·have:k ≠ r:=by intro e;subst e;exact hk (by rw [hθ];rfl)
   simp [Array.getElem?_setIfInBounds_ne (Ne.symm this)]
  ·refine ⟨r,es',clock',by simp [cx,D0,hθ],by simp [cx,hlt],hsz',fun j q e hj he=>⟨(hes' j q e hj he).1,((hes' j q e hj he).2.mono le.heap le.U)⟩⟩) kk
theorem FG {l:List AV} {av:AV} {k:Nat} (hx:ev x = some (.tup l)) (hk:l[k]? = some av):E2 P E nx hp ev (.extract x k) ty av :=
 C7 fun _ _ _ θ a w h=>by
  have:∃ cs:List Value,a.eval x = .tuple cs.toArray ∧ l.length = cs.length ∧ ∀ (j:Nat) u z,l[j]? = some u → cs[j]? = some z → C5 (kx E θ nx hp w) u z:=by
   have r:=h.rel hx
   generalize a.eval x = v at r
   cases r with
   | im hi=>cases hi with | tup l cs hl hc=>exact ⟨cs,rfl,hl,fun j u z hu hz=>.im (hc j u z hu hz)⟩
   | tup l cs hl hc=>exact ⟨cs,rfl,hl,hc⟩
  obtain ⟨cs,hv,hl,hr⟩:=this
  have hlt:k < cs.length:=by rw [← hl];exact (List.getElem?_eq_some_iff.1 hk).1
  have hc:cs[k]? = some cs[k]:=List.getElem?_eq_getElem hlt
  refine ⟨cs[k],?_,hr k av _ hk hc⟩
  simp only [execOp,hv,Instr.extract]
  simp [hc,Sem.run_bind,Sem.run_pure]
theorem Gg {f:Nat} {xs:List Operand} {caps:List AV} (ha:P9 ev xs = some caps) (hf:f < BX):E2 P E nx hp ev (.makeFunc (.func f) #[] xs.toArray) ty (.fo f caps) :=
 C7 fun _ _ _ θ a w h=>by
  obtain ⟨hl,hr⟩:=W7 h xs caps ha
  exact ⟨.func (.func f) #[] (xs.map a.eval).toArray,by simp [execOp,Instr.makeFunc,Sem.run_bind,Sem.run_pure],by
   have:=C5.fo (c:=kx E θ nx hp w) f caps (xs.map a.eval) (by simp [hl]) fun j u z hu hz=>hr j u z hu hz
   unfold IH at this
   rwa [if_pos hf] at this⟩
theorem JF {f:Nat} {xs:List Operand} {caps:List AV} (ha:P9 ev xs = some caps) (hcl:H1 caps = true):E2 P E nx hp ev (.makeFunc (.func f) #[] xs.toArray) ty (.fn f caps) :=
 C7 fun _ _ _ θ a w h=>by
  obtain ⟨hl,hr⟩:=W7 h xs caps ha
  refine ⟨.func (.func f) #[] (xs.map a.eval).toArray,by simp [execOp,Instr.makeFunc,Sem.run_bind,Sem.run_pure], .im (.fn f caps _ (by simp [hl]) fun j u z hu hz=>?_)⟩
  exact (L0 hcl u (List.mem_of_getElem? hu)).im (hr j u z hu hz)
theorem Hn (l:List UInt8) (i j:Nat):((⟨l.toArray⟩:ByteArray).extract i j) = ⟨((l.take j).drop i).toArray⟩:=by
 apply ByteArray.ext
 simp [ByteArray.data_extract]
 rw [List.drop_take]
def V0 (ev:Operand → Option AV) (dflt:Nat):Option Operand → Option Int
 | none=>some dflt
 | some x=>match ev x with
   | some (.v (.int _ i))=>some i
   | _=>none
theorem v8 {k:IntKind} {i:Int} {m:Nat} (h0:0 ≤ i) (h1:i ≤ m) (c:BoundsCode) (w:World):(Instr.sliceBound (.int k i) m c).run P w = .ok i.toNat w:=by
 simp [Instr.sliceBound,asIntOf,Sem.run_bind,Sem.run_pure,h0,h1]
theorem Aj {isS:Bool} {len cap:Nat} {lo hi:Option Operand} {l h:Int} {θ:Th} {a:Act} {w:World} (hev:Q3 E θ nx hp ev a w) (hl:V0 ev 0 lo = some l) (hh:V0 ev len hi = some h) (h0:0 ≤ l) (h1:l ≤ h) (h2:h ≤ cap) :
  (Instr.sliceBounds isS len cap (lo.map a.eval) (hi.map a.eval) none).run P w = .ok (l.toNat,h.toNat,cap) w:=by
 have hb:∀ (o:Option Operand) (df:Nat) (i:Int),V0 ev df o = some i → (o = none ∧ i = df) ∨ ∃ y k,o = some y ∧ a.eval y = .int k i:=by
  intro o df i ho
  cases o with
  | none=>exact .inl ⟨rfl,by simp [V0] at ho;exact ho.symm⟩
  | some y =>
    simp only [V0] at ho
    split at ho
    ·rename_i k j hj
     cases ho
     exact .inr ⟨y,k,rfl,(hev.rel hj).val⟩
    ·cases ho
 have h3:0 ≤ h:=by omega
 rcases hb lo 0 l hl with ⟨rfl,rfl⟩ | ⟨yl,kl,rfl,hyl⟩ <;> rcases hb hi len h hh with ⟨rfl,rfl⟩ | ⟨yh,kh,rfl,hyh⟩
 ·simp [Instr.sliceBounds,Sem.run_bind,Sem.run_pure]
 ·simp only [Instr.sliceBounds,Option.map_none,Option.map_some,Sem.run_bind,Sem.run_pure,Result.andThen_ok,hyh,v8 h3 h2]
  rfl
 ·simp only [Instr.sliceBounds,Option.map_none,Option.map_some,Sem.run_bind,Sem.run_pure,Result.andThen_ok,hyl,v8 h0 h1]
  rfl
 ·have h4:l ≤ (h.toNat:Int):=by omega
  simp only [Instr.sliceBounds,Option.map_some,Sem.run_bind,Sem.run_pure,Result.andThen_ok,hyl,hyh,v8 h3 h2,v8 h0 h4]
theorem Cm {T:Nat} [ts:O0 P T] {s:List UInt8} {lo hi:Option Operand} {l h:Int} (hx:ev x = some (.str s)) (hl:V0 ev 0 lo = some l) (hh:V0 ev s.length hi = some h) (h0:0 ≤ l) (h1:l ≤ h) (h2:h ≤ s.length) :
  E2 P E nx hp ev (.slice T x lo hi none) ty (.str ((s.take h.toNat).drop l.toNat)) :=
 C7 fun _ _ _ θ a w hs=>by
  have hv:=(hs.rel hx).sval
  refine ⟨.string ⟨((s.take h.toNat).drop l.toNat).toArray⟩,?_, .im (.str _)⟩
  have hb:=Aj (P:=P) (isS:=false) (cap:=s.length) hs hl hh h0 h1 h2
  have hsz:(ByteArray.mk s.toArray).size = s.length:=rfl
  simp only [execOp,hv,Instr.sliceAt,Instr.slice,Sem.run_bind,run_underlying ts.out,Result.andThen_ok,Option.isSome_none,Option.map_none,hsz,Bool.false_eq_true,if_false,hb,Hn,Sem.run_pure]
theorem JG {T e sz:Nat} [ts:I6 P T e sz] {s:List (List AV)} {lo hi:Option Operand} {l h:Int} (hx:ev x = some (.sl sz s)) (hl:V0 ev 0 lo = some l) (hh:V0 ev s.length hi = some h) (h0:0 ≤ l) (h1:l ≤ h) (h2:h ≤ s.length) :
  E2 P E nx hp ev (.slice T x lo hi none) ty (.sl sz ((s.take h.toNat).drop l.toNat)) :=
 C7 fun _ _ _ θ a w hs=>by
  obtain ⟨hu,inf,hi2,hsz⟩:=ts.out
  have hlen:((s.take h.toNat).drop l.toNat).length = h.toNat - l.toNat:=by rw [List.length_drop,List.length_take];omega
  rcases p9 (hs.rel hx) with ⟨hv,e⟩ | ⟨p,cap,f,hv,h3,h4,h5,h6,h7,h8⟩
  ·subst e
   have hb:=Aj (P:=P) (isS:=true) (cap:=0) hs hl hh h0 h1 (by simpa using h2)
   have e1:h = 0:=by simp at h2;omega
   have e2:l = 0:=by omega
   subst e1;subst e2
   refine ⟨.slice none 0 0,?_, .im (.slnil sz)⟩
   simp only [List.length_nil] at hb
   simp only [execOp,hv,Instr.sliceAt,Instr.slice,Sem.run_bind,run_underlying hu,Result.andThen_ok,Option.map_none,hb,Sem.run_pure,sizeOf,typeInfo,program,Sem.run,hi2]
   rfl
  ·have hb:=Aj (P:=P) (isS:=true) (cap:=cap) hs hl hh h0 h1 (by omega)
   refine ⟨.slice (some (if cap = l.toNat then p else p.add (l.toNat * sz))) (h.toNat - l.toNat) (cap - l.toNat),?_,?_⟩
   ·simp only [execOp,hv,Instr.sliceAt,Instr.slice,Sem.run_bind,run_underlying hu,Result.andThen_ok,Option.map_none,hb,Sem.run_pure,sizeOf,typeInfo,program,Sem.run,hi2,hsz]
    split <;> rfl
   ·rw [← hlen]
    have hget:∀ (i:Nat) el,((s.take h.toNat).drop l.toNat)[i]? = some el → s[l.toNat + i]? = some el ∧ l.toNat + i < s.length ∧ l.toNat ≠ cap:=by
     intro i el hi
     rw [List.getElem?_drop,List.getElem?_take] at hi
     split at hi
     ·have:=(List.getElem?_eq_some_iff.1 hi).1
      exact ⟨hi,this,by omega⟩
     ·cases hi
    refine .im (.sl sz _ _ _ (fun i j=>f (l.toNat + i) j) (by rw [hlen];omega) (by omega) (fun hne hs0=>?_) (fun el hel=>?_) (fun i hi j hj=>?_) (fun i el hi j u hu=>?_))
    ·have:s ≠ []:=by intro e;subst e;simp at hne
     split
     ·exact h5 this hs0
     ·rw [M1];exact h5 this hs0
    ·exact h6 el (List.mem_of_mem_take (List.mem_of_mem_drop hel))
    ·have hg:=hget i _ (List.getElem?_eq_getElem hi)
     rw [if_neg (fun e=>hg.2.2 e.symm),Z8]
     have:=h7 (l.toNat + i) hg.2.1 j hj
     rw [Nat.add_mul,Nat.add_assoc] at this
     exact this
    ·have hg:=hget i _ hi
     exact h8 _ _ hg.1 j u hu
end rules
def CO (h h':Hp) (i v len:Nat):AV :=
 match B2 h i with
 | some (.row _ sz v1 l)=>cond (Nat.beq v v1) (match B2 h' i with
   | some (.row _ _ v2 _)=>.row i v2 len
   | _=>.sl sz l) .any
 | _=>.any
def CP (h h':Hp) (i v k off:Nat):AV :=
 match B2 h i with
 | some (.row _ sz v1 l)=>cond (Nat.beq v v1) (match B2 h' i with
   | some (.row _ _ v2 _)=>.elt i v2 k off
   | _=>match l[k]? with
     | some el=>.iptr (el.drop off)
     | none=>.any) .any
 | _=>.any
def Ak (h h':Hp) (i v lo len:Nat):AV :=
 match B2 h i with
 | some (.row _ sz v1 l)=>cond (Nat.beq v v1) (match B2 h' i with
   | some (.row _ _ v2 _)=>.sub i v2 lo len
   | _=>.sl sz ((l.take (lo + len)).drop lo)) .any
 | _=>.any
def Dp (h h':Hp) (i off:Nat):AV :=
 match B2 h i with
 | some (.bx _ l)=>match B2 h' i with
   | some _=>.ref i off
   | none=>cond (H1 l) (.iptr (l.drop off)) (.ref i off)
 | _=>.ref i off
mutual
def F7 (h h':Hp):AV → AV
 | .row i v len=>CO h h' i v len
 | .elt i v k off=>CP h h' i v k off
 | .sub i v lo len=>Ak h h' i v lo len
 | .ref i off=>Dp h h' i off
 | .agg l=>.agg (V6 h h' l)
 | .tup l=>.tup (V6 h h' l)
 | .fo f l=>.fo f (V6 h h' l)
 | x=>x
def V6 (h h':Hp):List AV → List AV
 | []=>[]
 | x :: r=>F7 h h' x :: V6 h h' r
end
theorem J2 (h h':Hp):∀ l,V6 h h' l = l.map (F7 h h')
 | []=>by simp [V6]
 | x :: r=>by simp [V6,J2 h h' r]
def w4 (h h':Hp):D9 → D9 → Prop
 | .bx τ l,b=>b = .bx τ (V6 h h' l)
 | .row e sz _ l,b=>∃ v,b = .row e sz v l
 | .map m,b=>b = .map m
 | .it s p,b=>b = .it s p
mutual
def M9 (m:Nat):AV → Bool
 | .ref i _=>Nat.blt i m
 | .row i _ _=>Nat.blt i m
 | .mp i=>Nat.blt i m
 | .elt i _ _ _=>Nat.blt i m
 | .sub i _ _ _=>Nat.blt i m
 | .agg l=>N2 m l
 | .tup l=>N2 m l
 | .fo _ l=>N2 m l
 | _=>true
def N2 (m:Nat):List AV → Bool
 | []=>true
 | x :: r=>M9 m x && N2 m r
end
theorem T7 {m:Nat}:∀ {l:List AV},N2 m l = true → ∀ x ∈ l,M9 m x = true
 | [],_,x,hx=>by cases hx
 | y :: r,h,x,hx=>by
   simp only [N2,Bool.and_eq_true] at h
   rcases List.mem_cons.1 hx with rfl | hx
   ·exact h.1
   ·exact T7 h.2 x hx
structure Cx.sub (c c':Cx):Prop where
 θ:c'.θ = c.θ
 w:c'.w = c.w
 X:∀ k,c'.X k → c.X k
 blk:∀ i b',B2 c'.hp i = some b' → ∃ b,B2 c.hp i = some b ∧ w4 c.hp c'.hp b b'
 apart:∀ i j b b' k,B2 c.hp i = some b → B2 c.hp j = some b' → FP c.θ i b k → FP c.θ j b' k → i = j
 fresh:∀ i b k,B2 c.hp i = some b → FP c.θ i b k → ¬ c.X k
 owns:∀ i b,B2 c.hp i = some b → J4 c i b
theorem Lt {h h':Hp} {b b':D9} (e:w4 h h' b b'):L7 b' = L7 b:=by
 cases b with
 | bx τ l=>simp only [w4] at e;subst e;rfl
 | row e1 sz v l=>obtain ⟨v2,rfl⟩:=e;rfl
 | map m=>simp only [w4] at e;subst e;rfl
 | it s p=>simp only [w4] at e;subst e;rfl
theorem FP.cv {θ:Th} {i k:Nat} {h h':Hp} {b b':D9} (e:w4 h h' b b') (f:FP θ i b' k):FP θ i b k:=by
 unfold FP at f ⊢
 rwa [Lt e] at f
theorem Cx.sub.U {c c':Cx} (h:c.sub c'):∀ k,c'.U k → c.U k:=by
 rintro k (hk | ⟨i,b,hi,hk⟩)
 ·exact .inl (h.X k hk)
 ·obtain ⟨b0,hb0,hcv⟩:=h.blk i b hi
  exact .inr ⟨i,b0,hb0,FP.cv hcv (by rw [← h.θ];exact hk)⟩
theorem Cx.sub.notU {c c':Cx} (h:c.sub c') {i:Nat} {b:D9} (hi:B2 c.hp i = some b) (hn:B2 c'.hp i = none) {k:Nat} (hk:FP c.θ i b k):¬ c'.U k:=by
 rintro (hx | ⟨j,b',hj,hk'⟩)
 ·exact h.fresh i b k hi hk (h.X k hx)
 ·obtain ⟨b0,hb0,hcv⟩:=h.blk j b' hj
  have:=h.apart i j b b0 k hi hb0 hk (FP.cv hcv (by rw [← h.θ];exact hk'))
  subst this
  rw [hn] at hj
  cases hj
theorem Cx.sub.im {c c':Cx} (h:c.sub c') {a:AV} {x:Value} (hi:Im c.U c.w a x):Im c'.U c'.w a x:=hi.mono (fun k _ _=>by rw [h.w]) fun k _ hu=>h.U k hu
theorem Al {c c':Cx} (h:c.sub c') {i e sz v:Nat} {l:List (List AV)} (hi:B2 c.hp i = some (.row e sz v l)) (hn:B2 c'.hp i = none):Im c'.U c'.w (.sl sz l) (c.θ i):=by
 obtain ⟨xs,hown,hsz,hr,_⟩:=h.owns i _ hi
 rcases hown.2 with ⟨hv,hn0⟩ | ⟨g,cap,cur,hv,_,hg,hc,hm,hlen,hx⟩
 ·have:l = []:=List.eq_nil_of_length_eq_zero hn0
  subst this
  rw [hv]
  exact .slnil sz
 ·have hown':=hown
  rw [hv] at hown'
  rw [hv]
  have hnu:¬ c'.U g:=h.notU hi hn (.inl (by rw [hv];rfl))
  have hget:∀ i,i < l.length → ∀ j,j < sz → ∃ y,xs[i * sz + j]? = some y:=by
   intro i hi j hj
   have h1:(i + 1) * sz ≤ l.length * sz:=Nat.mul_le_mul_right _ hi
   rw [Nat.add_mul,Nat.one_mul] at h1
   have h2:i * sz + j < xs.length:=by rw [hown.1];omega
   exact ⟨_,List.getElem?_eq_getElem h2⟩
  refine .sl sz l ⟨g,0,none⟩ cap (fun i j=>xs.getD (i * sz + j) undef) hc hm (fun _ _=>hnu) hsz (fun i hi j hj=>?_) (fun k el hk j x hx=>?_)
  ·obtain ⟨y,hy⟩:=hget i hi j hj
   have:=hown'.cells (g:=g) rfl _ _ hy
   rw [F3,h.w]
   have e:xs.getD (i * sz + j) undef = y:=by rw [List.getD,hy];rfl
   rw [e]
   simpa [F3] using this
  ·obtain ⟨y,hy,him⟩:=hr k el hk j x hx
   have e:xs.getD (k * sz + j) undef = y:=by rw [List.getD,hy];rfl
   rw [e]
   exact h.im him
theorem PT {U:Nat → Prop} {w:World} {sz lo len:Nat} {l:List (List AV)} {v x:Value} (h:Im U w (.sl sz l) v) (hs:PN v sz lo len x) (hl:lo + len ≤ l.length):Im U w (.sl sz ((l.take (lo + len)).drop lo)) x:=by
 have hlen:((l.take (lo + len)).drop lo).length = len:=by rw [List.length_drop,List.length_take];omega
 rcases hs with ⟨rfl,rfl,rfl,rfl⟩ | ⟨g,n,cap,rfl,rfl⟩
 ·have:(l.take (0 + 0)).drop 0 = []:=by simp
  rw [this];exact .slnil sz
 ·cases h with
  | sl sz l a cap f hcap hm hu hsz hc h =>
    have hget:∀ (i:Nat) el,((l.take (lo + len)).drop lo)[i]? = some el → l[lo + i]? = some el ∧ lo + i < l.length ∧ cap ≠ lo:=by
     intro i el hi
     rw [List.getElem?_drop,List.getElem?_take] at hi
     split at hi
     ·have:=(List.getElem?_eq_some_iff.1 hi).1
      exact ⟨hi,this,by omega⟩
     ·cases hi
    have key:∀ p:Addr,p = (if cap = lo then ⟨g,0,none⟩ else ⟨g,lo * sz,none⟩) → Im U w (.sl sz ((l.take (lo + len)).drop lo)) (.slice (some p) ((l.take (lo + len)).drop lo).length (cap - lo)):=fun p hp=>by
     refine .sl sz _ p _ (fun i j=>f (lo + i) j) (by rw [hlen];omega) (by omega) (fun hne hs0=>?_) (fun el hel=>?_) (fun i hi j hj=>?_) (fun i el hi j u hu=>?_)
     ·have:l ≠ []:=by intro e;subst e;simp at hne
      have h5:=hu this hs0
      rw [hp];split <;> exact h5
     ·exact hsz el (List.mem_of_mem_take (List.mem_of_mem_drop hel))
     ·have hg:=hget i _ (List.getElem?_eq_getElem hi)
      rw [hp,if_neg hg.2.2,F3]
      have:=hc (lo + i) hg.2.1 j hj
      rw [F3,Nat.zero_add,Nat.add_mul,Nat.add_assoc] at this
      exact this
     ·have hg:=hget i _ hi
      exact h _ _ hg.1 j u hu
    have:=key _ rfl
    rwa [hlen] at this
theorem QY {c c':Cx} (h:c.sub c') {a:AV} {x:Value} (hi:Im c.U c.w a x):F7 c.hp c'.hp a = a ∨ C5 c' (F7 c.hp c'.hp a) x:=by
 induction hi with
 | v x=>exact .inl rfl
 | str l=>exact .inl rfl
 | fn f l cs hl hc ih=>exact .inl rfl
 | iptr l a f hu hc hh ih=>exact .inl rfl
 | err t p=>exact .inl rfl
 | any x=>exact .inl rfl
 | own e sz l x=>exact .inl rfl
 | slnil sz=>exact .inl rfl
 | sl sz l a cap f hcap hm hu hsz hc hh ih=>exact .inl rfl
 | agg l cs hl hc ih =>
   refine .inr ?_
   simp only [F7,J2]
   refine .agg _ cs (by simp [hl]) fun j u z hu hz=>?_
   simp only [List.getElem?_map,Option.map_eq_some_iff] at hu
   obtain ⟨u0,hu0,rfl⟩:=hu
   rcases ih j u0 z hu0 hz with e | e
   ·rw [e];exact .im (h.im (hc j u0 z hu0 hz))
   ·exact e
 | tup l cs hl hc ih =>
   refine .inr ?_
   simp only [F7,J2]
   refine .tup _ cs (by simp [hl]) fun j u z hu hz=>?_
   simp only [List.getElem?_map,Option.map_eq_some_iff] at hu
   obtain ⟨u0,hu0,rfl⟩:=hu
   rcases ih j u0 z hu0 hz with e | e
   ·rw [e];exact .im (h.im (hc j u0 z hu0 hz))
   ·exact e
theorem Bj {c c':Cx} (h:c.sub c') {a:AV} {x:Value} (r:C5 c a x):c.nx ≤ c'.nx ∨ M9 c'.nx (F7 c.hp c'.hp a) = true → C5 c' (F7 c.hp c'.hp a) x:=by
 induction r with
 | any x=>intro _;exact .any x
 | im hi =>
   intro _
   rcases QY h hi with e | e
   ·rw [e];exact .im (h.im hi)
   ·exact e
 | agg l cs hl _ ih =>
   intro hlt
   simp only [F7,J2] at hlt ⊢
   refine .agg _ cs (by simp [hl]) fun j u z hu hz=>?_
   have hmem:=List.mem_of_getElem? hu
   simp only [List.getElem?_map,Option.map_eq_some_iff] at hu
   obtain ⟨u0,hu0,rfl⟩:=hu
   exact ih j u0 z hu0 hz (hlt.imp id fun h=>T7 (by simpa only [M9] using h) _ hmem)
 | tup l cs hl _ ih =>
   intro hlt
   simp only [F7,J2] at hlt ⊢
   refine .tup _ cs (by simp [hl]) fun j u z hu hz=>?_
   have hmem:=List.mem_of_getElem? hu
   simp only [List.getElem?_map,Option.map_eq_some_iff] at hu
   obtain ⟨u0,hu0,rfl⟩:=hu
   exact ih j u0 z hu0 hz (hlt.imp id fun h=>T7 (by simpa only [M9] using h) _ hmem)
 | fo f l cs hl _ ih =>
   intro hlt
   simp only [F7,J2] at hlt ⊢
   refine .fo f _ cs (by simp [hl]) fun j u z hu hz=>?_
   have hmem:=List.mem_of_getElem? hu
   simp only [List.getElem?_map,Option.map_eq_some_iff] at hu
   obtain ⟨u0,hu0,rfl⟩:=hu
   exact ih j u0 z hu0 hz (hlt.imp id fun h=>T7 (by simpa only [M9] using h) _ hmem)
 | ref i off b hi hθ =>
   intro hlt
   simp only [F7,Dp] at hlt ⊢
   have keep:(c.nx ≤ c'.nx ∨ M9 c'.nx (.ref i off) = true) → C5 c' (.ref i off) (.pointer (some ⟨b,off,none⟩)):=fun hlt=>by
    refine .ref i off b ?_ (by rw [h.θ];exact hθ)
    rcases hlt with h1 | h1
    ·omega
    ·simpa only [M9,Nat.blt_eq] using h1
   split at hlt
   ·rename_i l hb
    split at hlt
    ·exact keep hlt
    ·rename_i hn
     cases hcl:H1 l with
     | false=>rw [hcl] at hlt;exact keep hlt
     | true =>
       obtain ⟨b',arr,T,hθ',hh,hsz,hr⟩:=h.owns i _ hb
       have e:b' = b:=by rw [hθ] at hθ';injection hθ' with e;injection e with e;injection e with e;exact e.symm
       subst e
       have hnu:¬ c'.U b':=h.notU hb hn (.inl (by rw [hθ];rfl))
       refine .im (.iptr _ _ (fun j=>arr.getD (off + j) undef) (fun _=>hnu) (fun j hj=>?_) (fun j u hu=>?_))
       ·have hlt':off + j < arr.size:=by rw [List.length_drop] at hj;omega
        rw [F3,h.w,G5 hh]
        simp [Array.getD,hlt']
       ·rw [List.getElem?_drop] at hu
        have hlt':off + j < arr.size:=by have:=(List.getElem?_eq_some_iff.1 hu).1;omega
        have hget:arr[off + j]? = some (arr.getD (off + j) undef):=by simp [Array.getD,hlt']
        have:=hr _ u _ hu hget
        exact h.im ((L0 hcl u (List.mem_of_getElem? hu)).im this)
   ·exact keep hlt
 | row i ver len x hi hr =>
   intro hlt
   simp only [F7,CO]
   split
   ·rename_i e sz v1 l hb
    cases hv:Nat.beq ver v1 with
    | false=>exact .any x
    | true =>
      have hv':=Nat.eq_of_beq_eq_true hv
      subst hv'
      obtain ⟨_,hcur⟩:=hr e sz ver l hb
      obtain ⟨hlen,hx⟩:=hcur rfl
      simp only [cond_true]
      split
      ·rename_i e2 sz2 v2 l2 hb2
       have hnx:i < c'.nx:=by
        simp only [F7,CO,hb,hv,cond_true,hb2,M9,Nat.blt_eq] at hlt
        omega
       refine .row i v2 len x hnx fun e3 sz3 v3 l3 hb3=>?_
       rw [hb2] at hb3
       cases hb3
       refine ⟨Nat.le_refl _,fun _=>?_⟩
       obtain ⟨b,hb',hrow⟩:=h.blk i _ hb2
       rw [hb] at hb'
       cases hb'
       obtain ⟨v,hrow⟩:=hrow
       cases hrow
       exact ⟨hlen,by rw [h.θ];exact hx⟩
      ·rename_i hb2
       rw [hx]
       refine .im (Al h hb ?_)
       cases hq:B2 c'.hp i with
       | none=>rfl
       | some b' =>
         obtain ⟨b,hb',hrow⟩:=h.blk i _ hq
         rw [hb] at hb'
         cases hb'
         obtain ⟨v,rfl⟩:=hrow
         exact absurd hq (hb2 _ _ _ _)
   ·exact .any x
 | mp i r hi hθ =>
   intro hlt
   refine .mp i r ?_ (by rw [h.θ];exact hθ)
   simp only [F7,M9,Nat.blt_eq] at hlt
   omega
 | sub i ver lo len x hi hr =>
   intro hlt
   simp only [F7,Ak]
   split
   ·rename_i e sz v1 l hb
    cases hv:Nat.beq ver v1 with
    | false=>exact .any x
    | true =>
      have hv':=Nat.eq_of_beq_eq_true hv
      subst hv'
      obtain ⟨_,hcur⟩:=hr e sz ver l hb
      obtain ⟨hlen,hx⟩:=hcur rfl
      simp only [cond_true]
      split
      ·rename_i e2 sz2 v2 l2 hb2
       have hnx:i < c'.nx:=by
        simp only [F7,Ak,hb,hv,cond_true,hb2,M9,Nat.blt_eq] at hlt
        omega
       refine .sub i v2 lo len x hnx fun e3 sz3 v3 l3 hb3=>?_
       rw [hb2] at hb3
       cases hb3
       refine ⟨Nat.le_refl _,fun _=>?_⟩
       obtain ⟨b,hb',hrow⟩:=h.blk i _ hb2
       rw [hb] at hb'
       cases hb'
       obtain ⟨v,hrow⟩:=hrow
       cases hrow
       exact ⟨hlen,by rw [h.θ];exact hx⟩
      ·rename_i hb2
       refine .im (PT (Al h hb ?_) hx hlen)
       cases hq:B2 c'.hp i with
       | none=>rfl
       | some b' =>
         obtain ⟨b,hb',hrow⟩:=h.blk i _ hq
         rw [hb] at hb'
         cases hb'
         obtain ⟨v,rfl⟩:=hrow
         exact absurd hq (hb2 _ _ _ _)
   ·exact .any x
 | elt i ver k off x hi hr =>
   intro hlt
   simp only [F7,CP]
   split
   ·rename_i e sz v1 l hb
    cases hv:Nat.beq ver v1 with
    | false=>exact .any x
    | true =>
      have hv':=Nat.eq_of_beq_eq_true hv
      subst hv'
      obtain ⟨_,hcur⟩:=hr e sz ver l hb
      obtain ⟨g,m,cap,hθ,hx⟩:=hcur rfl
      simp only [cond_true]
      split
      ·rename_i e2 sz2 v2 l2 hb2
       have hnx:i < c'.nx:=by
        simp only [F7,CP,hb,hv,cond_true,hb2,M9,Nat.blt_eq] at hlt
        omega
       refine .elt i v2 k off x hnx fun e3 sz3 v3 l3 hb3=>?_
       rw [hb2] at hb3
       cases hb3
       refine ⟨Nat.le_refl _,fun _=>?_⟩
       obtain ⟨b,hb',hrow⟩:=h.blk i _ hb2
       rw [hb] at hb'
       cases hb'
       obtain ⟨v,hrow⟩:=hrow
       cases hrow
       exact ⟨g,m,cap,by rw [h.θ];exact hθ,hx⟩
      ·rename_i hb2
       split
       ·rename_i el hel
        have hn:B2 c'.hp i = none:=by
         cases hq:B2 c'.hp i with
         | none=>rfl
         | some b' =>
           obtain ⟨b,hb',hrow⟩:=h.blk i _ hq
           rw [hb] at hb'
           cases hb'
           obtain ⟨v,rfl⟩:=hrow
           exact absurd hq (hb2 _ _ _ _)
        have him:=Al h hb hn
        rw [hθ] at him
        cases him with
        | sl sz l a cap' f hcap hm hu hsz hc hh =>
          have hlt2:k < l.length:=(List.getElem?_eq_some_iff.1 hel).1
          have hes:=hsz el (List.mem_of_getElem? hel)
          rw [hx]
          refine .im (.iptr _ _ (fun j=>f k (off + j)) (fun hne=>?_) (fun j hj=>?_) (fun j u hu'=>?_))
          ·have h1:=List.length_pos_iff.2 hne
           rw [List.length_drop] at h1
           exact hu (by intro e;subst e;simp at hlt2) (by omega)
          ·rw [List.length_drop] at hj
           have:=hc k hlt2 (off + j) (by omega)
           rw [F3] at this ⊢
           rw [← this]
           congr 2
           omega
          ·rw [List.getElem?_drop] at hu'
           exact hh k el hel (off + j) u hu'
       ·exact .any x
   ·exact .any x
theorem H0.cv {E:Env} {n:Nat} {θ:Th} {σ σ':St} {a:Act} {w:World} (h:H0 E n θ σ a w) (h0:E.n0 ≤ σ'.nx)
  (hs:∀ s x',look σ'.sl s = some x' → ∃ x,look σ.sl s = some x ∧ F7 σ.hp σ'.hp x = x' ∧ (σ.nx ≤ σ'.nx ∨ M9 σ'.nx x' = true))
  (hb:∀ i b',B2 σ'.hp i = some b' → (σ.nx ≤ σ'.nx ∨ i < σ'.nx) ∧ ∃ b,B2 σ.hp i = some b ∧ w4 σ.hp σ'.hp b b' ∧ (σ.nx ≤ σ'.nx ∨ ∀ τ l,b' = .bx τ l → N2 σ'.nx l = true))
  (hv:∀ i e sz v l,B2 σ'.hp i = some (.row e sz v l) → W6 e = true → σ.nx ≤ σ'.nx ∧ ∀ j e1 sz1 v1 l1 v2,B2 σ'.hp j = some (.row e1 sz1 v1 l1) → B2 σ.hp j = some (.row e1 sz1 v2 l1) → v1 = v2):H0 E n θ σ' a w:=by
 have sub:(cx E θ σ w).sub (cx E θ σ' w):=⟨rfl,rfl,fun _ h=>h,fun i b' hi=>by
  obtain ⟨_,b,h1,h2,_⟩:=hb i b' hi
  exact ⟨b,h1,h2⟩,h.apart,fun i b k hi hk=>(h.mine i b k hi hk).1,fun i b hi=>(h.owns i b hi).2⟩
 refine ⟨h.size,h.defers,h.fr,fun s x' hx=>?_,fun i b' hi=>?_,fun i j b1 b2 k hi hj=>?_,fun i b' k hi=>?_,h.X,⟨h0,fun i hi=>(h.base.2 i hi).imp id fun ⟨h1,h2⟩=>⟨h1,fun ⟨e',sz,v,l,hl,hk⟩=>h2 (by
  obtain ⟨_,b,g1,g2,_⟩:=hb i _ hl
  cases b with
  | bx _ _=>cases g2
  | map _=>cases g2
  | it _ _=>cases g2
  | row e1 sz1 v1 l1 =>
    obtain ⟨v2,g3⟩:=g2
    cases g3
    exact ⟨_,_,_,_,g1,hk⟩)⟩⟩⟩
 ·obtain ⟨x,h1,rfl,h2⟩:=hs s x' hx
  exact Bj sub (h.slots s x h1) h2
 ·obtain ⟨h0,b,h1,h2,h3⟩:=hb i b' hi
  obtain ⟨h4,h5⟩:=h.owns i b h1
  refine ⟨h0.elim (fun h=>by omega) id,?_⟩
  cases b with
  | bx τ l =>
    simp only [w4] at h2
    subst h2
    obtain ⟨b',arr,T,e1,e2,e3,e4⟩:=h5
    refine ⟨b',arr,T,e1,e2,by rw [J2,List.length_map];exact e3,fun j u z hu hz=>?_⟩
    rw [J2] at hu h3
    have hmem:=List.mem_of_getElem? hu
    simp only [List.getElem?_map,Option.map_eq_some_iff] at hu
    obtain ⟨u0,hu0,rfl⟩:=hu
    exact Bj sub (e4 j u0 z hu0 hz) (h3.imp id fun h=>T7 (h _ _ rfl) _ hmem)
  | row e sz v l =>
    obtain ⟨v2,rfl⟩:=h2
    obtain ⟨xs,e1,e2,e3,e4⟩:=h5
    exact ⟨xs,e1,e2,(fun k el hk j x hx=>by
     obtain ⟨y,hy,hi⟩:=e3 k el hk j x hx
     exact ⟨y,hy,sub.im hi⟩),fun hne=>⟨(e4 hne).1,fun k el hk j e' sz' l' hj=>by
     rcases (e4 hne).2 k el hk j e' sz' l' hj with ⟨q0,q1,g,m,cap,y,q2,q3,q4⟩ | ⟨g,m,cap,y,ys,q1,q2,q3,q4,q5,q6,q7⟩
     ·obtain ⟨hv1,hv2⟩:=hv i e sz v2 l hi q0
      refine .inl ⟨q0,q1,g,m,cap,y,q2,q3,?_⟩
      generalize e' - C4 = mm at q4 ⊢
      cases q4 with
      | im h=>cases h
      | row _ _ _ _ hm hr =>
        refine .row _ _ _ _ (Nat.lt_of_lt_of_le hm hv1) fun e1 sz1 v1 l1 hl1=>?_
        obtain ⟨_,b1,g1,g2,_⟩:=hb _ _ hl1
        cases b1 with
        | bx _ _=>cases g2
        | map _=>cases g2
        | it _ _=>cases g2
        | row e3 sz3 v3 l3 =>
          obtain ⟨v4,g3⟩:=g2
          cases g3
          have:=hv2 _ _ _ _ _ _ hl1 g1
          subst this
          exact hr _ _ _ _ g1
     exact .inr ⟨g,m,cap,y,ys,q1,q2,q3,q4,q5,fun q el' hq j' x hx=>by
      obtain ⟨z,hz,hi⟩:=q6 q el' hq j' x hx
      exact ⟨z,hz,sub.im hi⟩,q7⟩⟩⟩
  | map m =>
    simp only [w4] at h2
    subst h2
    obtain ⟨r,es,clock,e1,e2,e3,e4⟩:=h5
    exact ⟨r,es,clock,e1,e2,e3,fun j q e hj he=>⟨(e4 j q e hj he).1,sub.im (e4 j q e hj he).2⟩⟩
  | it t p =>
    simp only [w4] at h2
    subst h2
    exact h5
 ·intro hk1 hk2
  obtain ⟨_,b1',h1,g1,_⟩:=hb i b1 hi
  obtain ⟨_,b2',h2,g2,_⟩:=hb j b2 hj
  exact h.apart i j _ _ k h1 h2 (FP.cv g1 hk1) (FP.cv g2 hk2)
 ·intro hk
  obtain ⟨_,b1',h1,g1,_⟩:=hb i b' hi
  exact h.mine i _ k h1 (FP.cv g1 hk)
def Gh (m:Nat):List (Nat × AV) → Bool
 | []=>true
 | (_,x) :: r=>M9 m x && Gh m r
def G4 (m:Nat):Hp → Bool
 | []=>true
 | (i,some (.bx _ l)) :: r=>Nat.blt i m && N2 m l && G4 m r
 | (i,some (.row e _ _ _)) :: r=>Nat.blt i m && (!(W6 e) && G4 m r)
 | (i,_) :: r=>Nat.blt i m && G4 m r
theorem FH {m:Nat}:∀ {l:List (Nat × AV)} {s:Nat} {x:AV},Gh m l = true → look l s = some x → M9 m x = true
 | [],s,x,_,h=>by cases h
 | (s0,x0) :: r,s,x,hs,h=>by
   simp only [Gh,Bool.and_eq_true] at hs
   rw [E3] at h
   by_cases e:s0 = s
   ·subst e;rw [if_pos rfl] at h;cases h;exact hs.1
   ·rw [if_neg e] at h;exact FH hs.2 h
theorem X4 {m:Nat}:∀ {l:Hp} {i:Nat} {b:D9},G4 m l = true → B2 l i = some b → i < m ∧ ∀ τ c,b = .bx τ c → N2 m c = true
 | [],i,b,_,h=>by cases h
 | (i0,b0) :: r,i,b,hs,h=>by
   rw [D5] at h
   have hs':Nat.blt i0 m = true ∧ (∀ τ c,b0 = some (.bx τ c) → N2 m c = true) ∧ G4 m r = true:=by
    match b0,hs with
    | some (.bx τ c),hs=>simp only [G4,Bool.and_eq_true] at hs;exact ⟨hs.1.1,(fun _ c' e=>by cases e;exact hs.1.2),hs.2⟩
    | some (.row ..),hs=>simp only [G4,Bool.and_eq_true] at hs;exact ⟨hs.1,(fun _ c' e=>by cases e),hs.2.2⟩
    | some (.map ..),hs=>simp only [G4,Bool.and_eq_true] at hs;exact ⟨hs.1,(fun _ c' e=>by cases e),hs.2⟩
    | some (.it ..),hs=>simp only [G4,Bool.and_eq_true] at hs;exact ⟨hs.1,(fun _ c' e=>by cases e),hs.2⟩
    | none,hs=>simp only [G4,Bool.and_eq_true] at hs;exact ⟨hs.1,(fun _ c' e=>by cases e),hs.2⟩
   by_cases e:i0 = i
   ·subst e
    rw [if_pos rfl] at h
    subst h
    exact ⟨Nat.blt_eq ▸ hs'.1,fun τ c hc=>hs'.2.1 τ c (by rw [hc])⟩
   ·rw [if_neg e] at h;exact X4 hs'.2.2 h
theorem CQ {m:Nat}:∀ {l:Hp} {i e sz v:Nat} {c:List (List AV)},G4 m l = true → B2 l i = some (.row e sz v c) → W6 e = false
 | [],i,e,sz,v,c,_,h=>by cases h
 | (i0,b0) :: r,i,e,sz,v,c,hs,h=>by
   rw [D5] at h
   by_cases e0:i0 = i
   ·subst e0
    rw [if_pos rfl] at h
    subst h
    simp only [G4,Bool.and_eq_true,Bool.not_eq_true'] at hs
    exact hs.2.1
   ·rw [if_neg e0] at h
    have hs':G4 m r = true:=by
     match b0,hs with
     | some (.row ..),hs=>simp only [G4,Bool.and_eq_true] at hs;exact hs.2.2
     | some (.bx ..),hs=>simp only [G4,Bool.and_eq_true] at hs;exact hs.2
     | some (.map ..),hs=>simp only [G4,Bool.and_eq_true] at hs;exact hs.2
     | some (.it ..),hs=>simp only [G4,Bool.and_eq_true] at hs;exact hs.2
     | none,hs=>simp only [G4,Bool.and_eq_true] at hs;exact hs.2
    exact CQ hs' h
def w5 (σ:St) (h':Hp):List (Nat × AV) → Prop
 | []=>True
 | (s,x) :: r=>(look σ.sl s).map (F7 σ.hp h') = some x ∧ w5 σ h' r
def j7 (σ:St) (h':Hp):Hp → Prop
 | []=>True
 | (_,none) :: r=>j7 σ h' r
 | (i,some b) :: r=>(match B2 σ.hp i with
   | some b0=>w4 σ.hp h' b0 b
   | none=>False) ∧ j7 σ h' r
theorem w5.look {σ:St} {h':Hp}:∀ {l:List (Nat × AV)} {s:Nat} {x:AV},w5 σ h' l → look l s = some x → (look σ.sl s).map (F7 σ.hp h') = some x
 | [],s,x,_,h=>by cases h
 | (s0,x0) :: r,s,x,hs,h=>by
   rw [E3] at h
   by_cases e:s0 = s
   ·subst e;rw [if_pos rfl] at h;cases h;exact hs.1
   ·rw [if_neg e] at h;exact w5.look hs.2 h
theorem j7.look {σ:St} {h':Hp}:∀ {l:Hp} {i:Nat} {b:D9},j7 σ h' l → B2 l i = some b → ∃ b0,B2 σ.hp i = some b0 ∧ w4 σ.hp h' b0 b
 | [],i,b,_,h=>by cases h
 | (i0,none) :: r,i,b,hs,h=>by
   rw [D5] at h
   by_cases e:i0 = i
   ·subst e;rw [if_pos rfl] at h;cases h
   ·rw [if_neg e] at h;exact j7.look (l:=r) hs h
 | (i0,some b0) :: r,i,b,hs,h=>by
   rw [D5] at h
   by_cases e:i0 = i
   ·subst e
    rw [if_pos rfl] at h
    cases h
    have h1:=hs.1
    split at h1
    ·rename_i b1 hb1;exact ⟨b1,hb1,h1⟩
    ·exact h1.elim
   ·rw [if_neg e] at h;exact j7.look hs.2 h
theorem B4 {E:Env} {n m:Nat} {σ σ':St} (h0:E.n0 = m) (hm:Nat.ble m σ'.nx = true) (hs:w5 σ σ'.hp σ'.sl) (hh:j7 σ σ'.hp σ'.hp) (hn:Nat.ble σ'.nx σ.nx = true) (hl:Gh σ'.nx σ'.sl = true) (hb:G4 σ'.nx σ'.hp = true):St.le E n σ σ':=by
 rintro a w ⟨θ,h⟩
 refine ⟨θ,h.cv (h0 ▸ Nat.ble_eq ▸ hm) (fun s x' hx=>?_) (fun i b' hi=>?_) (fun i e sz v l hi hln=>?_)⟩
 ·have:=w5.look hs hx
  rw [Option.map_eq_some_iff] at this
  obtain ⟨x,h1,h2⟩:=this
  exact ⟨x,h1,h2, .inr (FH hl hx)⟩
 ·obtain ⟨b0,h1,h2⟩:=j7.look hh hi
  obtain ⟨h3,h4⟩:=X4 hb hi
  exact ⟨.inr h3,b0,h1,h2, .inr h4⟩
 ·rw [CQ hb hi] at hln;cases hln
def Z9 (hp:Hp):Hp → Bool
 | []=>true
 | (i,some (.row _ _ v _)) :: r=>(match B2 hp i with
   | some (.row _ _ v' _)=>Nat.beq v v'
   | _=>true) && Z9 hp r
 | _ :: r=>Z9 hp r
theorem Bk {hp:Hp}:∀ {h:Hp},Z9 hp h = true → ∀ j e1 sz1 v1 l1 e2 sz2 v2 l2,B2 h j = some (.row e1 sz1 v1 l1) → B2 hp j = some (.row e2 sz2 v2 l2) → v1 = v2
 | [],_,j,_,_,_,_,_,_,_,_,h,_=>by cases h
 | (i0,b0) :: r,hs,j,e1,sz1,v1,l1,e2,sz2,v2,l2,h,h2=>by
   rw [D5] at h
   by_cases e:i0 = j
   ·subst e
    rw [if_pos rfl] at h
    subst h
    simp only [Z9,h2,Bool.and_eq_true] at hs
    exact Nat.eq_of_beq_eq_true hs.1
   ·rw [if_neg e] at h
    have hs':Z9 hp r = true:=by
     match b0,hs with
     | some (.row ..),hs=>simp only [Z9,Bool.and_eq_true] at hs;exact hs.2
     | some (.bx ..),hs=>exact hs
     | some (.map ..),hs=>exact hs
     | some (.it ..),hs=>exact hs
     | none,hs=>exact hs
    exact Bk hs' j e1 sz1 v1 l1 e2 sz2 v2 l2 h h2
theorem Dq {E:Env} {n m:Nat} {σ σ':St} (h0:E.n0 = m) (hm:Nat.ble m σ'.nx = true) (hs:w5 σ σ'.hp σ'.sl) (hh:j7 σ σ'.hp σ'.hp) (hn:Nat.beq σ'.nx σ.nx = true) (hl:Gh σ'.nx σ'.sl = true) (hvs:Z9 σ.hp σ'.hp = true):St.le E n σ σ':=by
 rintro a w ⟨θ,h⟩
 have hnx:=Nat.eq_of_beq_eq_true hn
 refine ⟨θ,h.cv (h0 ▸ Nat.ble_eq ▸ hm) (fun s x' hx=>?_) (fun i b' hi=>?_) (fun i e sz v l _ _=>⟨by omega,fun j e1 sz1 v1 l1 v2 h1 h2=>Bk hvs _ _ _ _ _ _ _ _ _ h1 h2⟩)⟩
 ·have:=w5.look hs hx
  rw [Option.map_eq_some_iff] at this
  obtain ⟨x,h1,h2⟩:=this
  exact ⟨x,h1,h2, .inl (by omega)⟩
 ·obtain ⟨b0,h1,h2⟩:=j7.look hh hi
  exact ⟨.inl (by omega),b0,h1,h2, .inl (by omega)⟩
def W3 (f:AV → AV):List (Nat × AV) → List (Nat × AV)
 | []=>[]
 | (s,x) :: r=>(s,f x) :: W3 f r
def O4 (i:Nat):Hp → Hp
 | []=>[]
 | (k,b) :: r=>cond (Nat.beq k i) (O4 i r) ((k,b) :: O4 i r)
def w6 (f:AV → AV):Hp → Hp
 | []=>[]
 | (k,some (.bx τ l)) :: r=>(k,some (.bx τ (l.map f))) :: w6 f r
 | (k,b) :: r=>(k,b) :: w6 f r
theorem n7 (f:AV → AV):∀ (l:List (Nat × AV)) (s:Nat),look (W3 f l) s = (look l s).map f
 | [],s=>rfl
 | (k,x) :: r,s=>by
   simp only [W3,E3]
   by_cases e:k = s
   ·simp [e]
   ·simp [e,n7 f r s]
theorem Q7 (i:Nat):∀ (l:Hp) (j:Nat),B2 (O4 i l) j = if i = j then none else B2 l j
 | [],j=>by simp [O4,B2,look]
 | (k,b) :: r,j=>by
   simp only [O4]
   cases h:Nat.beq k i with
   | true =>
     have:=Nat.eq_of_beq_eq_true h
     subst this
     rw [cond_true,Q7 k r j,D5]
     by_cases e:k = j <;> simp [e]
   | false =>
     have hne:k ≠ i:=by intro e;subst e;simp at h
     rw [cond_false,D5,D5,Q7 i r j]
     by_cases e:k = j
     ·subst e;simp [Ne.symm hne]
     ·simp [e]
def m3 (f:AV → AV):D9 → D9
 | .bx τ l=>.bx τ (l.map f)
 | b=>b
theorem AD (f:AV → AV):∀ (l:Hp) (j:Nat),B2 (w6 f l) j = (B2 l j).map (m3 f)
 | [],j=>by simp [w6,B2,look]
 | (k,b) :: r,j=>by
   have:w6 f ((k,b) :: r) = (k,b.map (m3 f)) :: w6 f r:=by
    cases b with
    | none=>rfl
    | some b=>cases b <;> rfl
   rw [this,D5,D5,AD f r j]
   by_cases e:k = j <;> simp [e]
def St.frz (σ:St) (i:Nat):St :=
 let h':=O4 i σ.hp
 { sl:=W3 (F7 σ.hp h') σ.sl,nx:=σ.nx,hp:=w6 (F7 σ.hp h') h' }
theorem Ho {h h1 h2:Hp} (e:∀ j,(B2 h2 j) = (B2 h1 j).map (m3 (F7 h h1))) (i v len:Nat):CO h h2 i v len = CO h h1 i v len:=by
 unfold CO
 rw [e i]
 cases B2 h1 i with
 | none=>rfl
 | some b=>cases b <;> rfl
theorem Hq {h h1 h2:Hp} (e:∀ j,(B2 h2 j) = (B2 h1 j).map (m3 (F7 h h1))) (i v k off:Nat):CP h h2 i v k off = CP h h1 i v k off:=by
 unfold CP
 rw [e i]
 cases B2 h1 i with
 | none=>rfl
 | some b=>cases b <;> rfl
theorem Hr {h h1 h2:Hp} (e:∀ j,(B2 h2 j) = (B2 h1 j).map (m3 (F7 h h1))) (i v k off:Nat):Ak h h2 i v k off = Ak h h1 i v k off:=by
 unfold Ak
 rw [e i]
 cases B2 h1 i with
 | none=>rfl
 | some b=>cases b <;> rfl
theorem Hs {h h1 h2:Hp} (e:∀ j,(B2 h2 j) = (B2 h1 j).map (m3 (F7 h h1))) (i off:Nat):Dp h h2 i off = Dp h h1 i off:=by
 unfold Dp
 rw [e i]
 cases B2 h1 i with
 | none=>rfl
 | some b=>cases b <;> rfl
mutual
theorem Bl {h h1 h2:Hp} (e:∀ j,(B2 h2 j) = (B2 h1 j).map (m3 (F7 h h1))):∀ a,F7 h h2 a = F7 h h1 a
 | .row i v len=>by simp only [F7];exact Ho e i v len
 | .elt i v k off=>by simp only [F7];exact Hq e i v k off
 | .sub i v k off=>by simp only [F7];exact Hr e i v k off
 | .ref i off=>by simp only [F7];exact Hs e i off
 | .agg l=>by simp only [F7];rw [X5 e l]
 | .tup l=>by simp only [F7];rw [X5 e l]
 | .fo f l=>by simp only [F7];rw [X5 e l]
 | .any=>rfl
 | .v _=>rfl
 | .str _=>rfl
 | .iptr _=>rfl
 | .sl _ _=>rfl
 | .mp _=>rfl
 | .fn _ _=>rfl
 | .err=>rfl
 | .own _ _ _=>rfl
theorem X5 {h h1 h2:Hp} (e:∀ j,(B2 h2 j) = (B2 h1 j).map (m3 (F7 h h1))):∀ l,V6 h h2 l = V6 h h1 l
 | []=>rfl
 | x :: r=>by simp only [V6];rw [Bl e x,X5 e r]
end
theorem AK {E:Env} {n:Nat} {σ:St} (i:Nat):St.le E n σ (σ.frz i):=by
 rintro a w ⟨θ,h⟩
 have e:∀ j,B2 (σ.frz i).hp j = (B2 (O4 i σ.hp) j).map (m3 (F7 σ.hp (O4 i σ.hp))):=fun j=>AD _ _ _
 refine ⟨θ,h.cv h.base.1 (fun s x' hx=>?_) (fun j b' hj=>?_) (fun _ _ _ _ _ _ _=>⟨Nat.le_refl _,fun j e1 sz1 v1 l1 v2 h1 h2=>?_⟩)⟩
 ·have hx':(look σ.sl s).map (F7 σ.hp (O4 i σ.hp)) = some x':=by rw [← n7];exact hx
  rw [Option.map_eq_some_iff] at hx'
  obtain ⟨x,h1,h2⟩:=hx'
  exact ⟨x,h1,by rw [Bl e];exact h2, .inl (Nat.le_refl _)⟩
 ·refine ⟨.inl (Nat.le_refl _),?_⟩
  rw [e j,Option.map_eq_some_iff] at hj
  obtain ⟨b,hb,rfl⟩:=hj
  rw [Q7] at hb
  split at hb
  ·cases hb
  ·refine ⟨b,hb,?_, .inl (Nat.le_refl _)⟩
   cases b with
   | bx τ l=>simp only [w4,m3,X5 e,J2]
   | row e sz v l=>exact ⟨v,rfl⟩
   | map m=>rfl
   | it _ _=>rfl
 ·rw [e j,Option.map_eq_some_iff] at h1
  obtain ⟨b,hb,hbe⟩:=h1
  rw [Q7] at hb
  split at hb
  ·cases hb
  ·rw [hb] at h2
   cases h2
   cases hbe;rfl
def j8:List Nat → Hp → Hp
 | [],h=>h
 | i :: r,h=>j8 r (O4 i h)
theorem Cn:∀ (is:List Nat) (h:Hp) (j:Nat),B2 (j8 is h) j = none ∨ B2 (j8 is h) j = B2 h j
 | [],h,j=>.inr rfl
 | i :: r,h,j=>by
   rcases Cn r (O4 i h) j with e | e
   ·exact .inl e
   ·rw [j8,e,Q7]
    by_cases hij:i = j
    ·exact .inl (by rw [if_pos hij])
    ·exact .inr (by rw [if_neg hij])
mutual
def Am:AV → Bool
 | .v _ | .str _ | .err=>true
 | .agg l | .tup l=>Dr l
 | .sl _ []=>true
 | _=>false
def Dr:List AV → Bool
 | []=>true
 | x :: r=>Am x && Dr r
end
theorem An:∀ {l:List AV},Dr l = true → ∀ x ∈ l,Am x = true
 | [],_,x,hx=>by cases hx
 | y :: r,h,x,hx=>by
   simp only [Dr,Bool.and_eq_true] at h
   rcases List.mem_cons.1 hx with rfl | hx
   ·exact h.1
   ·exact An h.2 x hx
theorem OG {U U':Nat → Prop} {w:World} {a:AV} {v:Value} (h:Im U w a v):Am a = true → Im U' w a v:=by
 induction h with
 | v x=>intro _;exact .v x
 | str l=>intro _;exact .str l
 | agg l cs hl h ih=>intro hf;exact .agg l cs hl fun j x c hx hc=>ih j x c hx hc (An (by simpa [Am] using hf) x (List.mem_of_getElem? hx))
 | tup l cs hl h ih=>intro hf;exact .tup l cs hl fun j x c hx hc=>ih j x c hx hc (An (by simpa [Am] using hf) x (List.mem_of_getElem? hx))
 | fn f l cs hl h ih=>intro hf;cases hf
 | iptr l a f hu hc h ih=>intro hf;cases hf
 | err t p=>intro _;exact .err t p
 | any x=>intro _;exact .any x
 | own e sz l x=>intro _;exact .own e sz l x
 | slnil sz=>intro _;exact .slnil sz
 | sl sz l a cap f hcap hm hu hsz hc h ih =>
   intro hf
   cases l with
   | nil=>exact .sl sz [] a cap f hcap hm (fun h=>absurd rfl h) hsz hc (fun i e he=>by simp at he)
   | cons x r=>cases hf
theorem KV {P:Program} {E:Env} {nx:Nat} {hp:Hp} {ev:Operand → Option AV} {ty:TypeId} {f:Nat} {xs:List Operand} {args caps L:List AV} {r:AV} {ts:Array TypeId} {g:Operand} (is:List Nat) (hc:B5 P f (L ++ caps) r) (ha:P9 ev xs = some args)
  (hL:V6 hp (j8 is hp) args = L) (hcl:H1 L = true) (hfl:Am r = true)
  (hg:∀ θ a w,Q3 E θ nx hp ev a w → ∃ cs:List Value,a.eval g = .func (.func f) #[] cs.toArray ∧ caps.length = cs.length ∧ ∀ (j:Nat) x c,caps[j]? = some x → cs[j]? = some c → Im (kx E θ nx hp w).U w x c) :
  E2 P E nx hp ev (.call ⟨.value g,xs.toArray,ts⟩) ty r:=by
 intro d pos after θ a w K hs hk
 obtain ⟨hl,hr⟩:=W7 hs xs args ha
 obtain ⟨cs,hge,hcl2,hcr⟩:=hg θ a w hs
 unfold BP
 rw [GX hc.1 hge]
 let h':=j8 is hp
 let H:=w6 (F7 hp h') h'
 have e:∀ j,B2 H j = (B2 h' j).map (m3 (F7 hp h')):=fun j=>AD _ _ _
 have sub:(kx E θ nx hp w).sub (kx E θ nx H w):=⟨rfl,rfl,fun _ h=>h,fun j b' hj=>by
  have hj':B2 H j = some b':=hj
  rw [e j,Option.map_eq_some_iff] at hj'
  obtain ⟨b,hb,rfl⟩:=hj'
  rcases Cn is hp j with h | h
  ·have hb':B2 (j8 is hp) j = some b:=hb
   rw [h] at hb';cases hb'
  ·have hb':B2 (j8 is hp) j = some b:=hb
   rw [h] at hb'
   refine ⟨b,hb',?_⟩
   cases b with
   | bx τ l=>simp only [w4,m3,kx,X5 e,J2]
   | row e sz v l=>exact ⟨v,rfl⟩
   | map m=>rfl
   | it _ _=>rfl,hs.apart,hs.fresh,fun i b hi=>(hs.owns i b hi).2⟩
 have hX:=hc.2 (kx E θ nx H w).U w (xs.map a.eval ++ cs) (fun k hk=>hs.Ult k (sub.U k hk)) (hs.tab.mono (fun k _ hk=>sub.U k hk) fun _ _ _=>rfl) (by simp only [List.length_append, ← hL,J2,List.length_map,hl,hcl2]) fun j av v hj hv=>by
  have hLl:L.length = xs.length:=by rw [← hL,J2,List.length_map,hl]
  rw [List.getElem?_append] at hj hv
  have e1:(xs.map a.eval).length = L.length:=by simp [hLl]
  rw [e1] at hv
  split at hj
  ·rename_i hlt
   rw [if_pos hlt] at hv
   have hcv:=L0 hcl av (List.mem_of_getElem? hj)
   rw [← hL,J2,List.getElem?_map,Option.map_eq_some_iff] at hj
   obtain ⟨a0,ha0,rfl⟩:=hj
   have h1:=Bj sub (hr j a0 v ha0 hv) (.inl (Nat.le_refl _))
   have h2:F7 (kx E θ nx hp w).hp (kx E θ nx H w).hp a0 = F7 hp (j8 is hp) a0:=Bl (h:=hp) (h1:=h') (h2:=H) e a0
   rw [h2] at h1
   exact hcv.im h1
  ·rename_i hlt
   rw [if_neg hlt] at hv
   exact sub.im (hcr _ av v hj hv)
 rw [← List.append_toArray] at hX
 refine Calls.mono hX ?_
 rintro e w' ⟨v,rfl,hv,hb⟩
 exact ⟨v,rfl,hk v w' hb (.im (OG hv hfl))⟩
structure E1 (p A:Prop):Prop where
 h:p
 k:A
structure J1 {α:Type} (l:List α) (i:Int) (F:α → Prop):Prop where
 h0:0 ≤ i
 h:i < l.length
 k:∀ el,l[i.toNat]? = some el → F el
structure Qz (a:AV) (F:AV → Prop):Prop where
 h:F a
structure Ek {α:Type} (l:List α) (F:Nat → Prop):Prop where
 k:F l.length
structure W4 (b:Bool) (A B:Prop):Prop where
 t:b = true → A
 f:b = false → B
structure Ds (P:Program) (f:Nat) (args:List AV) (F:AV → Prop):Prop where
 h:∃ r,GE P f args r ∧ F r
structure QZ (P:Program) (f:Nat) (hp:Hp) (l caps:List AV) (F:AV → Prop):Prop where
 h:∃ (is:List Nat) (L:List AV) (r:AV),V6 hp (j8 is hp) l = L ∧ H1 L = true ∧ B5 P f (L ++ caps) r ∧ Am r = true ∧ F r
structure Bm (P:Program) (T:Nat) (F:Bool → Nat → Prop):Prop where
 h:∃ ag sz,G3 P T ag sz ∧ F ag sz
structure JH (P:Program) (T:Nat) (F:List AV → Prop):Prop where
 h:∃ l,G7 P T l ∧ F (l.map Q1)
structure El (P:Program) (S f:Nat) (F:Nat → Nat → Prop):Prop where
 h:∃ off sz,L3 P S f off sz ∧ F off sz
structure BT (P:Program) (T:Nat) (F:Nat → Nat → Prop):Prop where
 h:∃ e sz,I6 P T e sz ∧ F e sz
structure JI (P:Program) (T:Nat) (F:Nat → Nat → Prop):Prop where
 h:∃ len e sz,Ac P T len e sz ∧ F len sz
structure Nk (P:Program) (T:Nat) (A:Prop):Prop where
 [h:KE P T]
 k:A
structure j9 (P:Program) (T:Nat) (A:Prop):Prop where
 h:O0 P T
 k:A
structure AL (P:Program) (T:Nat) (A:Prop):Prop where
 h:p8 P T
 k:A
structure Dt (P:Program) (T:Nat) (k1 k2:IntKind) (A:Prop):Prop where
 h:n3 P T k1 k2
 k:A
structure Ao (P:Program) (T:Nat) (k:IntKind) (A:Prop):Prop where
 h:p0 P T k
 k:A
structure Du (P:Program) (T:Nat) (k1 k2 k3:IntKind) (A:Prop):Prop where
 h:CN P T k1 k2 k3
 k:A
structure Dv (P:Program) (T:Nat) (A:Prop):Prop where
 h:CM P T
 k:A
structure Bn (P:Program) (T:Nat) (F:List AV → List (Nat × Nat) → Prop):Prop where
 h:∃ zs pl,G7 P T zs ∧ O3 P T pl ∧ F (zs.map Q1) pl
structure s7 (P:Program) (T:Nat) (F:Nat → Nat → Nat → List AV → Prop):Prop where
 h:∃ e sz bs z,I6 P T e sz ∧ G7 P e z ∧ K3 P e bs ∧ z.length = sz ∧ F e sz bs (z.map Q1)
structure JJ (P:Program) (T:Nat) (F:TypeDesc → AV → Prop):Prop where
 h:∃ k e t z,Ah P T k e t z ∧ F t (Q1 z)
inductive Dw (P:Program) (S T:Nat):AV → AV → Prop
 | bytes {e sz:Nat} (l:List UInt8) [O0 P S] [I6 P T e sz] [J9 P e .u8] (h:l.length ≤ 9223372036854775807):Dw P S T (.str l) (.sl 1 (l.map fun b=>[.v (.int .u8 b.toNat)]))
 | back {e sz:Nat} (l:List UInt8) [I6 P S e sz] [J9 P e .u8] [O0 P T]:Dw P S T (.sl 1 (l.map fun b=>[.v (.int .u8 b.toNat)])) (.str l)
 | int {k k':IntKind} (m:Int) [J9 P T k] [J9 P S k']:Dw P S T (.v (.int k' m)) (.v (.int k (k.wrap m)))
 | rune {k:IntKind} (m:Int) [J9 P S k] [O0 P T]:Dw P S T (.v (.int k m)) (.str (Utf8.encode m).data.toList)
structure U4 (P:Program) (S T:Nat) (a:AV) (F:AV → Prop):Prop where
 h:∃ r,Dw P S T a r ∧ F r
theorem T8 {p A:Prop} (h:p) (k:A):E1 p A:=⟨h,k⟩
theorem FI {α β:Type} {l:List β} {f:β → α} {k:Nat} {F:α → Prop} (h:k < l.length) (kk:∀ x,l[k]? = some x → F (f x)):J1 (l.map f) (k:Int) F :=
 ⟨by omega,by simpa using h,fun el hel=>by
  simp at hel
  obtain ⟨u,hu,rfl⟩:=hel
  exact kk u hu⟩
theorem Gi {α β:Type} {l:List β} {f:β → α} {i:Int} {F:α → Prop} (h0:0 ≤ i) (h:i < l.length) (kk:∀ x,l[i.toNat]? = some x → F (f x)):J1 (l.map f) i F :=
 ⟨h0,by simpa using h,fun el hel=>by
  simp at hel
  obtain ⟨u,hu,rfl⟩:=hel
  exact kk u hu⟩
theorem KW {α:Type} {l:List α} {i:Int} {F:α → Prop} (h0:0 ≤ i) (h:i < l.length) (kk:∀ x,l[i.toNat]? = some x → F x):J1 l i F:=⟨h0,h,kk⟩
theorem H9 {α:Type} {l:List α} {i:Int} {x:α} {F:α → Prop} (h:l[i.toNat]? = some x) (h0:0 ≤ i) (kk:F x):J1 l i F:=by
 have h1:=(List.getElem?_eq_some_iff.1 h).1
 exact ⟨h0,by omega,fun el hel=>by rw [h] at hel;cases hel;exact kk⟩
theorem B3 {α β:Type} {l:List β} {f:β → α} {i:Int} {x:β} {F:α → Prop} (h:l[i.toNat]? = some x) (h0:0 ≤ i) (kk:F (f x)):J1 (l.map f) i F :=
 H9 (by simp [h]) h0 kk
theorem OH {α β:Type} {l:List β} {f:β → α} {F:Nat → Prop} (k:F l.length):Ek (l.map f) F:=⟨by rw [List.length_map];exact k⟩
theorem Qa {α:Type} {l:List α} {F:Nat → Prop} (k:F l.length):Ek l F:=⟨k⟩
theorem PU {A B:Prop} (k:A):W4 true A B:=⟨fun _=>k,fun h=>by cases h⟩
theorem PX {A B:Prop} (k:B):W4 false A B:=⟨(fun h=>by cases h),fun _=>k⟩
theorem PY {p A B:Prop} [Decidable p] (h1:p → A) (h2:¬ p → B):W4 (decide p) A B:=⟨fun h=>h1 (of_decide_eq_true h),fun h=>h2 (of_decide_eq_false h)⟩
theorem OI {p A B:Prop} [Decidable p] (h1:¬ p → A) (h2:p → B):W4 (!decide p) A B:=⟨fun h=>h1 (by simpa using h),fun h=>h2 (by simpa using h)⟩
theorem PZ {b:Bool} {A B:Prop} (h1:b = true → A) (h2:b = false → B):W4 b A B:=⟨h1,h2⟩
theorem OJ {b:Bool} {A B:Prop} (h1:b = false → A) (h2:b = true → B):W4 (!b) A B:=⟨(fun h=>h1 (by simpa using h)),fun h=>h2 (by simpa using h)⟩
theorem A4 {P:Program} {f:Nat} {args:List AV} {r:AV} {F:AV → Prop} (h:B5 P f args r) (k:F r):Ds P f args F:=⟨⟨r, .inl h,k⟩⟩
theorem a8 {P:Program} {f:Nat} {args:List AV} {r:AV} {F:AV → Prop} (h:GD P f args r) (k:F r):Ds P f args F:=⟨⟨r, .inr h,k⟩⟩
theorem Qb {P:Program} {T:Nat} {ag:Bool} {sz:Nat} {F:Bool → Nat → Prop} [h:G3 P T ag sz] (k:F ag sz):Bm P T F:=⟨⟨ag,sz,h,k⟩⟩
theorem Pa {P:Program} {T:Nat} {l:List Value} {F:List AV → Prop} [h:G7 P T l] (k:F (l.map Q1)):JH P T F:=⟨⟨l,h,k⟩⟩
theorem Qc {P:Program} {S f off sz:Nat} {F:Nat → Nat → Prop} [h:L3 P S f off sz] (k:F off sz):El P S f F:=⟨⟨off,sz,h,k⟩⟩
theorem RF {P:Program} {T e sz:Nat} {F:Nat → Nat → Prop} [h:I6 P T e sz] (k:F e sz):BT P T F:=⟨⟨e,sz,h,k⟩⟩
theorem Qd {P:Program} {T len e sz:Nat} {F:Nat → Nat → Prop} [h:Ac P T len e sz] (k:F len sz):JI P T F:=⟨⟨len,e,sz,h,k⟩⟩
theorem RG {P:Program} {T:Nat} {A:Prop} [h:KE P T] (k:A):Nk P T A:=⟨k⟩
theorem Pb {P:Program} {T:Nat} {A:Prop} [h:O0 P T] (k:A):j9 P T A:=⟨h,k⟩
theorem OK {P:Program} {T:Nat} {A:Prop} [h:p8 P T] (k:A):AL P T A:=⟨h,k⟩
theorem Qe {P:Program} {T:Nat} {k:IntKind} {A:Prop} [h:p0 P T k] (kk:A):Ao P T k A:=⟨h,kk⟩
theorem OL {P:Program} {T:Nat} {k1 k2 k3:IntKind} {A:Prop} [h:CN P T k1 k2 k3] (k:A):Du P T k1 k2 k3 A:=⟨h,k⟩
theorem OM {P:Program} {T:Nat} {k1 k2:IntKind} {A:Prop} [h:n3 P T k1 k2] (k:A):Dt P T k1 k2 A:=⟨h,k⟩
theorem ON {P:Program} {T:Nat} {A:Prop} [h:CM P T] (k:A):Dv P T A:=⟨h,k⟩
theorem OO {P:Program} {T:Nat} {zs:List Value} {pl:List (Nat × Nat)} {F:List AV → List (Nat × Nat) → Prop} [h:G7 P T zs] [h2:O3 P T pl] (k:F (zs.map Q1) pl):Bn P T F:=⟨⟨zs,pl,h,h2,k⟩⟩
theorem Qf {P:Program} {T e sz bs:Nat} {z:List Value} {F:Nat → Nat → Nat → List AV → Prop} [h:I6 P T e sz] [h2:G7 P e z] [h3:K3 P e bs] (hz:z.length = sz) (k:F e sz bs (z.map Q1)):s7 P T F:=⟨⟨e,sz,bs,z,h,h2,h3,hz,k⟩⟩
theorem Qg {P:Program} {T k e:Nat} {t:TypeDesc} {z:Value} {F:TypeDesc → AV → Prop} [h:Ah P T k e t z] (kk:F t (Q1 z)):JJ P T F:=⟨⟨k,e,t,z,h,kk⟩⟩
theorem JK {P:Program} {S T e sz:Nat} {l:List UInt8} {F:AV → Prop} [O0 P S] [I6 P T e sz] [J9 P e .u8] (h:l.length ≤ 9223372036854775807) (k:F (.sl 1 (l.map fun b=>[.v (.int .u8 b.toNat)]))):U4 P S T (.str l) F:=⟨⟨_, .bytes (e:=e) (sz:=sz) l h,k⟩⟩
theorem KX {P:Program} {S T e sz:Nat} {l:List UInt8} {F:AV → Prop} [I6 P S e sz] [J9 P e .u8] [O0 P T] (k:F (.str l)):U4 P S T (.sl 1 (l.map fun b=>[.v (.int .u8 b.toNat)])) F:=⟨_, .back (e:=e) (sz:=sz) l,k⟩
theorem U5 {P:Program} {S T:Nat} {k k':IntKind} {m:Int} {F:AV → Prop} [J9 P T k] [J9 P S k'] (h:k.wrap m = m) (kk:F (.v (.int k m))):U4 P S T (.v (.int k' m)) F:=⟨⟨_, .int (k:=k) m,by rw [h];exact kk⟩⟩
theorem Lu {P:Program} {S T:Nat} {k k':IntKind} {m:Int} {F:AV → Prop} [J9 P T k] [J9 P S k'] (kk:F (.v (.int k (k.wrap m)))):U4 P S T (.v (.int k' m)) F:=⟨⟨_, .int (k:=k) m,kk⟩⟩
theorem KY {P:Program} {S T:Nat} {k:IntKind} {m:Int} {F:AV → Prop} [J9 P S k] [O0 P T] (kk:F (.str (Utf8.encode m).data.toList)):U4 P S T (.v (.int k m)) F:=⟨⟨_, .rune (k:=k) m,kk⟩⟩
theorem cond_false {c:Bool} {A:Prop} (h:cond c A False):c = true ∧ A:=by
 cases c
 ·exact h.elim
 ·exact ⟨rfl,h⟩
def JL:Value → Bool
 | .agg _ | .tuple _=>false
 | _=>true
theorem Bo {v:Value} (h:JL v = true):v.oneCell' = true:=by cases v <;> first | rfl | cases h
def Gj (hp:Hp) (a:AV) (A:Prop):Prop :=
 match a with
 | .v x=>cond (JL x) A False
 | .str _ | .sl _ _ | .iptr _ | .ref _ _ | .mp _ | .fn _ _ | .fo _ _=>A
 | .row i ver _=>match B2 hp i with
   | some (.row _ _ v' _)=>E1 (ver = v') A
   | _=>False
 | _=>False
theorem Bp {hp:Hp} {a:AV} {A:Prop} (h:Gj hp a A):One hp a ∧ A:=by
 unfold Gj at h
 split at h
 ·rename_i x
  obtain ⟨h1,h2⟩:=cond_false h
  exact ⟨One.v (Bo h1),h2⟩
 ·exact ⟨.str _,h⟩
 ·exact ⟨.sl _ _,h⟩
 ·exact ⟨.iptr _,h⟩
 ·exact ⟨.ref _ _,h⟩
 ·exact ⟨.mp _,h⟩
 ·exact ⟨.fn _ _,h⟩
 ·exact ⟨.fo _ _,h⟩
 ·split at h
  ·rename_i hl
   obtain ⟨rfl,h⟩:=h
   exact ⟨.row hl,h⟩
  ·exact h.elim
 ·exact h.elim
def JM (hp:Hp):List AV → Prop → Prop
 | [],A=>A
 | x :: r,A=>Gj hp x (JM hp r A)
theorem Dx {hp:Hp}:∀ {l:List AV} {A:Prop},JM hp l A → r8 hp l ∧ A
 | [],A,h=>⟨trivial,h⟩
 | x :: r,A,h=>by
   obtain ⟨h1,h2⟩:=Bp h
   obtain ⟨h3,h4⟩:=Dx h2
   exact ⟨⟨h1,h3⟩,h4⟩
def Gk (hp:Hp) (a:AV) (A:Prop):Prop :=
 match a with
 | .agg _=>A
 | a=>Gj hp a A
theorem Bq {hp:Hp} {a:AV} {A:Prop} (h:Gk hp a A):Fits hp a ∧ A:=by
 unfold Gk at h
 split at h
 ·exact ⟨trivial,h⟩
 ·rename_i hn
  obtain ⟨h1,h2⟩:=Bp h
  refine ⟨?_,h2⟩
  cases a <;> first | exact h1 | exact trivial
def l5 (hp:Hp):List (Nat × AV) → Prop → Prop
 | [],A=>A
 | (_,a) :: r,A=>Gk hp a (l5 hp r A)
theorem P2 {hp:Hp}:∀ {l:List (Nat × AV)} {A:Prop},l5 hp l A → j6 hp l ∧ A
 | [],A,h=>⟨trivial,h⟩
 | (_,x) :: r,A,h=>by
   obtain ⟨h1,h2⟩:=Bq h
   obtain ⟨h3,h4⟩:=P2 h2
   exact ⟨⟨h1,h3⟩,h4⟩
def Pc (a:AV) (A:Prop):Prop :=
 match a with
 | .v x=>cond (JL x) A False
 | .str _ | .sl _ _ | .iptr _ | .fn _ _=>A
 | _=>False
theorem Lv {a:AV} {A:Prop} (h:Pc a A):J8 a ∧ A:=by
 unfold Pc at h
 split at h
 ·obtain ⟨h1,h2⟩:=cond_false h
  exact ⟨Bo h1,h2⟩
 ·exact ⟨trivial,h⟩
 ·exact ⟨trivial,h⟩
 ·exact ⟨trivial,h⟩
 ·exact ⟨trivial,h⟩
 ·exact h.elim
def Lw:List AV → Prop → Prop
 | [],A=>A
 | x :: r,A=>Pc x (Lw r A)
def Dy:List (List AV) → Prop → Prop
 | [],A=>A
 | x :: r,A=>Lw x (Dy r A)
theorem FJ:∀ {l:List AV} {A:Prop},Lw l A → (∀ u ∈ l,J8 u) ∧ A
 | [],A,h=>⟨fun u hu=>by (cases hu),h⟩
 | x :: r,A,h=>by
   obtain ⟨h1,h2⟩:=Lv h
   obtain ⟨h3,h4⟩:=FJ h2
   refine ⟨fun u hu=>?_,h4⟩
   rcases List.mem_cons.1 hu with rfl | hu
   ·exact h1
   ·exact h3 u hu
theorem n8:∀ {l:List (List AV)} {A:Prop},Dy l A → W8 l ∧ A
 | [],A,h=>⟨trivial,h⟩
 | x :: r,A,h=>by
   obtain ⟨h1,h2⟩:=FJ h
   obtain ⟨h3,h4⟩:=n8 h2
   exact ⟨⟨h1,h3⟩,h4⟩
def M0 (x:Option AV) (F:AV → Prop):Prop :=
 match x with
 | some a=>F a
 | none=>False
theorem F8 {x:Option AV} {F:AV → Prop} (h:M0 x F):∃ a,x = some a ∧ F a:=by
 unfold M0 at h
 split at h
 ·exact ⟨_,rfl,h⟩
 ·exact h.elim
def Gl (op:BinOp) (k:IntKind) (a b:Int) (F:AV → Prop):Prop :=
 match op,k with
 | .add, .i64=>E1 (-9223372036854775808 ≤ a + b ∧ a + b ≤ 9223372036854775807) (F (.v (.int .i64 (a + b))))
 | .sub, .i64=>E1 (-9223372036854775808 ≤ a - b ∧ a - b ≤ 9223372036854775807) (F (.v (.int .i64 (a - b))))
 | .mul, .i64=>E1 (-9223372036854775808 ≤ a * b ∧ a * b ≤ 9223372036854775807) (F (.v (.int .i64 (a * b))))
 | .quo, .i64=>E1 (b ≠ 0 ∧ -9223372036854775808 ≤ a.tdiv b ∧ a.tdiv b ≤ 9223372036854775807) (F (.v (.int .i64 (a.tdiv b))))
 | .quo,k=>E1 (b ≠ 0) (F (.v (.int k (k.wrap (a.tdiv b)))))
 | .rem,k=>E1 (b ≠ 0) (F (.v (.int k (a.tmod b))))
 | op,k=>match X8 op k a b with
   | some r=>F (.v r)
   | none=>False
def Lx (op:BinOp) (a b:List UInt8) (F:AV → Prop):Prop :=
 match op with
 | .add=>E1 (a.length + b.length ≤ 9223372036854775807) (F (.str (a ++ b)))
 | op=>match Iz op a b with
   | some r=>F (.v r)
   | none=>False
def JN (P:Program) (T:Nat) (op:BinOp) (a b:Bool) (F:AV → Prop):Prop :=
 match op with
 | .eql=>Dv P T (F (.v (.bool (decide (a = b)))))
 | .neq=>Dv P T (F (.v (.bool (decide (a ≠ b)))))
 | _=>False
def JO (P:Program) (T:Nat) (op:BinOp) (l m:List AV) (F:AV → Prop):Prop :=
 match op,l,m with
 | .eql,[.v (.int k1 a1), .v (.int k2 a2)],[.v (.int k3 b1), .v (.int k4 b2)]=>cond (decide (k1 = k3 ∧ k2 = k4)) (Dt P T k1 k2 (F (.v (.bool (decide (a1 = b1 ∧ a2 = b2)))))) False
 | .neq,[.v (.int k1 a1), .v (.int k2 a2)],[.v (.int k3 b1), .v (.int k4 b2)]=>cond (decide (k1 = k3 ∧ k2 = k4)) (Dt P T k1 k2 (F (.v (.bool (!decide (a1 = b1 ∧ a2 = b2)))))) False
 | .eql,[.v (.int k1 a1), .v (.int k2 a2), .v (.int k3 a3)],[.v (.int l1 b1), .v (.int l2 b2), .v (.int l3 b3)]=>cond (decide (k1 = l1 ∧ k2 = l2 ∧ k3 = l3)) (Du P T k1 k2 k3 (F (.v (.bool (decide (a1 = b1 ∧ a2 = b2 ∧ a3 = b3)))))) False
 | .neq,[.v (.int k1 a1), .v (.int k2 a2), .v (.int k3 a3)],[.v (.int l1 b1), .v (.int l2 b2), .v (.int l3 b3)]=>cond (decide (k1 = l1 ∧ k2 = l2 ∧ k3 = l3)) (Du P T k1 k2 k3 (F (.v (.bool (!decide (a1 = b1 ∧ a2 = b2 ∧ a3 = b3)))))) False
 | .eql,[.str a1, .v (.int k2 a2)],[.str b1, .v (.int k4 b2)]=>cond (decide (k2 = k4)) (Ao P T k2 (F (.v (.bool (decide (a1 = b1 ∧ a2 = b2)))))) False
 | .neq,[.str a1, .v (.int k2 a2)],[.str b1, .v (.int k4 b2)]=>cond (decide (k2 = k4)) (Ao P T k2 (F (.v (.bool (!decide (a1 = b1 ∧ a2 = b2)))))) False
 | _,_,_=>False
def Dz:Operand → Bool
 | .const .nilIface=>true
 | _=>false
def Gm (P:Program) (T:Nat) (op:BinOp) (x:Option AV) (F:AV → Prop):Prop :=
 match op,x with
 | .eql,some .err=>AL P T (F (.v (.bool false)))
 | .neq,some .err=>AL P T (F (.v (.bool true)))
 | .eql,some (.v .nilIface)=>AL P T (F (.v (.bool true)))
 | .neq,some (.v .nilIface)=>AL P T (F (.v (.bool false)))
 | _,_=>False
def Gn (P:Program) (T:Nat) (op:BinOp) (x y:Option AV) (F:AV → Prop):Prop :=
 match op,x,y with
 | .shl,some (.v (.int k a)),some (.v (.int _ b))=>E1 (0 ≤ b) (F (.v (.int k (k.wrap (a * 2 ^ (min b.toNat k.bits))))))
 | .shr,some (.v (.int k a)),some (.v (.int _ b))=>E1 (0 ≤ b) (F (.v (.int k (a.fdiv (2 ^ (min b.toNat k.bits))))))
 | op,some (.v (.int k a)),some (.v (.int k' b))=>cond (decide (k = k')) (Gl op k a b F) False
 | op,some (.str s),some (.str t)=>Lx op s t F
 | op,some (.v (.bool a)),some (.v (.bool b))=>JN P T op a b F
 | op,some (.agg l),some (.agg m)=>JO P T op l m F
 | _,_,_=>False
def EA (P:Program) (T:Nat) (hp:Hp) (x:Option AV) (F:AV → Prop):Prop :=
 match x with
 | some (.ref i off)=>match B2 hp i with
   | some (.bx τ l)=>Bm P T fun ag sz=>cond ag
     (cond (Nat.beq off 0 && Nat.beq l.length sz) (F (.agg l)) (E1 (((l.drop off).take sz).length = sz) (F (.agg ((l.drop off).take sz)))))
     (M0 (l[off]?) F)
   | _=>False
 | some (.iptr l)=>Bm P T fun ag sz=>cond ag
   (cond (Nat.beq l.length sz) (F (.agg l)) (E1 ((l.take sz).length = sz) (F (.agg (l.take sz)))))
   (match l with | av :: _=>F av | []=>False)
 | some (.elt i ver k off)=>match B2 hp i with
   | some (.row _ sz ver' l)=>E1 (ver = ver') (J1 l (k:Int) fun el=>Bm P T fun ag szT=>cond ag
     (cond (Nat.beq off 0 && Nat.beq szT sz) (F (.agg el)) False) (M0 (el[off]?) F))
   | _=>False
 | _=>False
def Gp (hp:Hp) (off:Nat) (x:Option AV) (F:AV → Prop):Prop :=
 match x with
 | some (.ref i o)=>F (.ref i (o + off))
 | some (.iptr l)=>F (.iptr (l.drop off))
 | some (.elt i ver k o)=>match B2 hp i with
   | some (.row _ _ ver' _)=>E1 (ver = ver') (F (.elt i ver k (o + off)))
   | _=>False
 | _=>False
def Br (P:Program) (T:Nat) (hp:Hp) (x y:Option AV) (F:AV → Prop):Prop :=
 match x,y with
 | some (.sl sz l),some (.v (.int _ i))=>BT P T fun _ sz'=>cond (Nat.beq sz sz') (J1 l i fun el=>F (.iptr el)) False
 | some (.row r ver len),some (.v (.int _ i))=>match B2 hp r with
   | some (.row _ sz ver' _)=>E1 (ver = ver') (BT P T fun _ sz'=>cond (Nat.beq sz sz') (E1 (0 ≤ i ∧ i < len) (F (.elt r ver i.toNat 0))) False)
   | _=>False
 | some (.ref r o),some (.v (.int _ i))=>JI P T fun len sz=>E1 (0 ≤ i ∧ i < len) (F (.ref r (o + i.toNat * sz)))
 | some (.iptr l),some (.v (.int _ i))=>JI P T fun len sz=>cond (Nat.beq sz 1 && Nat.beq l.length len) (J1 l i fun av=>F (.iptr [av])) False
 | _,_=>False
def Ly (hp:Hp) (x:Option AV) (F:AV → Prop):Prop :=
 match x with
 | some (.ref i o)=>F (.ref i o)
 | some (.iptr l)=>F (.iptr l)
 | some (.elt i ver k o)=>match B2 hp i with
   | some (.row _ _ ver' _)=>E1 (ver = ver') (F (.elt i ver k o))
   | _=>False
 | _=>False
def Ap (P:Program) (T:Nat) (hp:Hp) (x:Option AV) (F:AV → Prop):Prop :=
 match x with
 | some (.sl _ l)=>BT P T fun _ _=>Ek l fun m=>F (.i m)
 | some (.str s)=>j9 P T (F (.i s.length))
 | some (.row r ver len)=>match B2 hp r with
   | some (.row _ _ ver' _)=>E1 (ver = ver') (BT P T fun _ _=>F (.i len))
   | _=>False
 | some (.v (.slice none 0 0))=>BT P T fun _ _=>F (.i 0)
 | _=>False
def GF (P:Program) (f:Nat) (hp:Hp) (l caps:List AV) (F:AV → Prop):Prop:=cond (H1 l) (Ds P f (l ++ caps) F) (QZ P f hp l caps F)
def EB (P:Program) (T:Nat) (ev:Operand → Option AV) (x:Option AV) (lo hi:Option Operand) (F:AV → Prop):Prop :=
 match x with
 | some (.str s)=>j9 P T (match V0 ev 0 lo,V0 ev s.length hi with
   | some l,some h=>E1 (0 ≤ l ∧ l ≤ h ∧ h ≤ s.length) (F (.str ((s.take h.toNat).drop l.toNat)))
   | _,_=>False)
 | some (.sl sz s)=>BT P T fun _ sz'=>cond (Nat.beq sz sz') (match V0 ev 0 lo,V0 ev s.length hi with
   | some l,some h=>E1 (0 ≤ l ∧ l ≤ h ∧ h ≤ s.length) (F (.sl sz ((s.take h.toNat).drop l.toNat)))
   | _,_=>False) False
 | _=>False
def Em (P:Program) (T:Nat) (hp:Hp) (ok:Bool) (x y:Option AV) (F:AV → Prop):Prop :=
 match x,y with
 | some (.mp i),some kav=>match B2 hp i,keyOf kav with
   | some (.map m),some k=>JJ P T fun t z=>cond (n5 t k) (E1 (p3 t m) (cond ok (Qz (.tup [Ai m k z, .b (l9 m k).isSome]) F) (Qz (Ai m k z) F))) False
   | _,_=>False
 | _,_=>False
def w7 (P:Program) (op:Op) (ev:Operand → Option AV) (hp:Hp) (F:AV → Prop):Prop :=
 match op with
 | .move x=>M0 (ev x) F
 | .assign x=>M0 (ev x) F
 | .pick c a b=>match ev c with
   | some (.v (.bool t))=>W4 t (M0 (ev a) F) (M0 (ev b) F)
   | _=>False
 | .binOp op T x y _=>cond (Dz y) (Gm P T op (ev x) F) (Gn P T op (ev x) (ev y) F)
 | .unOp .not _ x=>match ev x with
   | some (.v (.bool b))=>F (.v (.bool (!b)))
   | _=>False
 | .unOp .neg _ x=>match ev x with
   | some (.v (.int .i64 a))=>E1 (-9223372036854775807 ≤ a ∧ a ≤ 9223372036854775807) (F (.v (.int .i64 (-a))))
   | some (.v (.int .u64 a))=>F (.v (.int .u64 (IntKind.u64.wrap (-a))))
   | _=>False
 | .unOp .xor _ x=>match ev x with
   | some (.v (.int .u64 a))=>E1 (0 ≤ a ∧ a ≤ 18446744073709551615) (F (.v (.int .u64 (18446744073709551615 - a))))
   | _=>False
 | .load T x=>EA P T hp (ev x) F
 | .fieldAddr S x f=>El P S f fun off sz=>cond (Nat.blt 0 sz) (Gp hp off (ev x) F) False
 | .indexAddr T x y=>Br P T hp (ev x) (ev y) F
 | .index T x y=>match ev x,ev y with
   | some (.str s),some (.v (.int _ i))=>j9 P T (J1 s i fun b=>F (.v (.int .u8 b.toNat)))
   | _,_=>False
 | .nilCheck x=>Ly hp (ev x) F
 | .convert S T x=>M0 (ev x) fun a=>U4 P S T a F
 | .call ⟨.builtin .len,⟨[x]⟩,⟨[T]⟩⟩=>Ap P T hp (ev x) F
 | .call ⟨.builtin .min,⟨[x,y]⟩,⟨[_,_]⟩⟩=>match ev x,ev y with
   | some (.v (.int k a)),some (.v (.int k' b))=>cond (decide (k = k')) (F (.v (.int k (min a b)))) False
   | _,_=>False
 | .call ⟨.builtin .max,⟨[x,y]⟩,⟨[_,_]⟩⟩=>match ev x,ev y with
   | some (.v (.int k a)),some (.v (.int k' b))=>cond (decide (k = k')) (F (.v (.int k (max a b)))) False
   | _,_=>False
 | .call ⟨.value (.func f),⟨args⟩,_⟩=>match P9 ev args with
   | some l=>GF P f hp l [] F
   | none=>False
 | .call ⟨.value (.tmp t),⟨args⟩,_⟩=>match ev (.tmp t),P9 ev args with
   | some (.fn f caps),some l=>GF P f hp l caps F
   | _,_=>False
 | .build T ⟨parts⟩=>match V5 ev parts with
   | some ps=>Bn P T fun zs pl=>l5 hp ps (M0 ((W2 pl zs ps).map AV.agg) F)
   | none=>False
 | .buildSlice T len ⟨parts⟩=>match V5 ev parts with
   | some ps=>s7 P T fun _ sz _ _=>cond (X9 0 ps && Q6 sz (I7 ps) && Nat.beq ps.length len && Nat.blt 0 sz) (E1 (len * sz ≤ 16777216) (l5 hp ps (Dy (I7 ps) (F (.sl sz (I7 ps)))))) False
   | none=>False
 | .lookup T x y ok=>Em P T hp ok (ev x) (ev y) F
 | .slice T x lo hi none=>EB P T ev (ev x) lo hi F
 | .extract x k=>match ev x with
   | some (.tup l)=>M0 (l[k]?) F
   | _=>False
 | .makeFunc (.func f) ⟨[]⟩ ⟨xs⟩=>match P9 ev xs with
   | some caps=>cond (H1 caps) (F (.fn f caps)) False
   | none=>False
 | _=>False
section sound
variable {P:Program} {E:Env} {nx:Nat} {hp:Hp} {ev:Operand → Option AV} {ty:TypeId} {x y:Operand} {F:AV → Prop} {T T2:TypeId}
theorem Pd {op:BinOp} (h:Gn P T op (ev x) (ev y) F):∃ av,E2 P E nx hp ev (.binOp op T x y T2) ty av ∧ F av:=by
 unfold Gn at h
 split at h
 ·rename_i hx hy;exact ⟨_,Nf hx hy h.h,h.k⟩
 ·rename_i hx hy;exact ⟨_,Ng hx hy h.h,h.k⟩
 ·rename_i hx hy
  obtain ⟨hk,hq⟩:=cond_false h
  clear h
  have hk:=of_decide_eq_true hk
  subst hk
  unfold Gl at hq
  split at hq
  ·exact ⟨_,l4 hx hy (by simp only [X8,H4 hq.h]),hq.k⟩
  ·exact ⟨_,l4 hx hy (by simp only [X8,H4 hq.h]),hq.k⟩
  ·exact ⟨_,l4 hx hy (by simp only [X8,H4 hq.h]),hq.k⟩
  ·have hq2:=GB (P:=P) (E:=E) (nx:=nx) (hp:=hp) (ty:=ty) (T:=T) (T2:=T2) hx hy hq.h.1
   rw [H4 hq.h.2] at hq2
   exact ⟨_,hq2,hq.k⟩
  ·exact ⟨_,GB hx hy hq.h,hq.k⟩
  ·exact ⟨_,Nd hx hy hq.h,hq.k⟩
  ·split at hq
   ·rename_i hr;exact ⟨_,l4 hx hy hr,hq⟩
   ·exact hq.elim
 ·rename_i s t hx hy
  unfold Lx at h
  split at h
  ·exact ⟨_,KJ hx hy h.h,h.k⟩
  ·split at h
   ·rename_i hr;exact ⟨_,KI hx hy hr,h⟩
   ·exact h.elim
 ·rename_i a b hx hy
  unfold JN at h
  split at h
  ·have:=h.h;exact ⟨_,GC (T:=T) false hx hy,h.k⟩
  ·have:=h.h;exact ⟨_,GC (T:=T) true hx hy,h.k⟩
  ·exact h.elim
 ·rename_i l m hx hy
  unfold JO at h
  split at h
  ·obtain ⟨hk,hq⟩:=cond_false h
   obtain ⟨rfl,rfl⟩:=of_decide_eq_true hk
   have:=hq.h;exact ⟨_,Ae (T:=T) false hx hy,hq.k⟩
  ·obtain ⟨hk,hq⟩:=cond_false h
   obtain ⟨rfl,rfl⟩:=of_decide_eq_true hk
   have:=hq.h;exact ⟨_,Ae (T:=T) true hx hy,hq.k⟩
  ·obtain ⟨hk,hq⟩:=cond_false h
   obtain ⟨rfl,rfl,rfl⟩:=of_decide_eq_true hk
   have:=hq.h;exact ⟨_,Ag (T:=T) false hx hy,hq.k⟩
  ·obtain ⟨hk,hq⟩:=cond_false h
   obtain ⟨rfl,rfl,rfl⟩:=of_decide_eq_true hk
   have:=hq.h;exact ⟨_,Ag (T:=T) true hx hy,hq.k⟩
  ·obtain ⟨hk,hq⟩:=cond_false h
   obtain rfl:=of_decide_eq_true hk
   have:=hq.h;exact ⟨_,Dh (T:=T) false hx hy,hq.k⟩
  ·obtain ⟨hk,hq⟩:=cond_false h
   obtain rfl:=of_decide_eq_true hk
   have:=hq.h;exact ⟨_,Dh (T:=T) true hx hy,hq.k⟩
  ·exact h.elim
 ·exact h.elim
theorem Lz {op:BinOp} (hy:Dz y = true) (h:Gm P T op (ev x) F):∃ av,E2 P E nx hp ev (.binOp op T x y T2) ty av ∧ F av:=by
 obtain rfl:y = .const .nilIface:=by
  unfold Dz at hy
  split at hy
  ·rfl
  ·cases hy
 unfold Gm at h
 split at h
 ·rename_i hx;have:=h.h;exact ⟨_,GT (T:=T) false hx,h.k⟩
 ·rename_i hx;have:=h.h;exact ⟨_,GT (T:=T) true hx,h.k⟩
 ·rename_i hx;have:=h.h;exact ⟨_,GU (T:=T) false hx,h.k⟩
 ·rename_i hx;have:=h.h;exact ⟨_,GU (T:=T) true hx,h.k⟩
 ·exact h.elim
theorem OP (h:EA P T hp (ev x) F):∃ av,E2 P E nx hp ev (.load T x) ty av ∧ F av:=by
 unfold EA at h
 split at h
 ·rename_i i off hx
  split at h
  ·rename_i l hb
   obtain ⟨⟨ag,sz,tv,h⟩⟩:=h
   cases ag with
   | true =>
     change cond (Nat.beq off 0 && Nat.beq l.length sz) _ _ at h
     cases hc:(Nat.beq off 0 && Nat.beq l.length sz) with
     | true =>
       rw [hc] at h
       simp only [Bool.and_eq_true,Nat.beq_eq] at hc
       obtain ⟨rfl,hs⟩:=hc
       exact ⟨_,Dd (sz:=sz) hx hb hs,h⟩
     | false =>
       rw [hc] at h
       exact ⟨_,Z6 (sz:=sz) hx hb rfl h.h,h.k⟩
   | false =>
     obtain ⟨av,hl,h⟩:=F8 h
     exact ⟨_,Dc (sz:=sz) hx hb hl,h⟩
  ·exact h.elim
 ·rename_i l hx
  obtain ⟨⟨ag,sz,tv,h⟩⟩:=h
  cases ag with
  | true =>
    change cond (Nat.beq l.length sz) _ _ at h
    cases hc:Nat.beq l.length sz with
    | true =>
      rw [hc] at h
      exact ⟨_,T6 (sz:=sz) hx (by rw [← Nat.eq_of_beq_eq_true hc,List.take_length]) (Nat.eq_of_beq_eq_true hc),h⟩
    | false =>
      rw [hc] at h
      exact ⟨_,T6 (sz:=sz) hx rfl h.h,h.k⟩
  | false =>
    cases l with
    | nil=>exact h.elim
    | cons av r=>exact ⟨_,Cd (sz:=sz) hx,h⟩
 ·rename_i i ver k off hx
  split at h
  ·rename_i e sz ver' l hb
   obtain ⟨rfl,hq⟩:=h
   obtain ⟨h0,h1,hk⟩:=hq
   have hlt:k < l.length:=by omega
   have hel:l[k]? = some l[k]:=List.getElem?_eq_getElem hlt
   obtain ⟨⟨ag,szT,tv,h⟩⟩:=hk l[k] (by rw [Int.toNat_natCast];exact hel)
   cases ag with
   | true =>
     obtain ⟨hc,h2⟩:=cond_false h
     simp only [Bool.and_eq_true,Nat.beq_eq] at hc
     obtain ⟨rfl,hs⟩:=hc
     exact ⟨_,Ec hx hb hel hs,h2⟩
   | false =>
     obtain ⟨av,hl,h⟩:=F8 h
     exact ⟨_,JA (szT:=szT) hx hb hel hl,h⟩
  ·exact h.elim
 ·exact h.elim
theorem MA {S f off sz:Nat} [tf:L3 P S f off sz] (hz:Nat.blt 0 sz = true) (h:Gp hp off (ev x) F):∃ av,E2 P E nx hp ev (.fieldAddr S x f) ty av ∧ F av:=by
 unfold Gp at h
 split at h
 ·rename_i hx;exact ⟨_,Ce (off:=off) (sz:=sz) hx hz,h⟩
 ·rename_i hx;exact ⟨_,Bb (off:=off) (sz:=sz) hx hz,h⟩
 ·rename_i hx
  split at h
  ·rename_i hb
   obtain ⟨rfl,h⟩:=h
   exact ⟨_,Hh (off:=off) (sz:=sz) hx hb hz,h⟩
  ·exact h.elim
 ·exact h.elim
theorem MC (h:Br P T hp (ev x) (ev y) F):∃ av,E2 P E nx hp ev (.indexAddr T x y) ty av ∧ F av:=by
 unfold Br at h
 split at h
 ·rename_i hx hy
  obtain ⟨⟨e,sz',ts,h⟩⟩:=h
  obtain ⟨hz,hq⟩:=cond_false h
  clear h
  have:=Nat.eq_of_beq_eq_true hz
  subst this
  obtain ⟨h0,h1,hk⟩:=hq
  rename_i sz l kk i
  have hlt:i.toNat < l.length:=by omega
  have hel:l[i.toNat]? = some l[i.toNat]:=List.getElem?_eq_getElem hlt
  exact ⟨_,De (e:=e) hx hy h0 hel,hk _ hel⟩
 ·rename_i hx hy
  split at h
  ·rename_i hb
   obtain ⟨rfl,h⟩:=h
   obtain ⟨⟨e,sz',ts,h⟩⟩:=h
   obtain ⟨hz,hq⟩:=cond_false h
   clear h
   have:=Nat.eq_of_beq_eq_true hz
   subst this
   exact ⟨_,Hi (e:=e) hx hb hy hq.h.1 hq.h.2,hq.k⟩
  ·exact h.elim
 ·rename_i hx hy
  obtain ⟨⟨len,e,sz,ta,h⟩⟩:=h
  exact ⟨_,Hj (e:=e) (sz:=sz) hx hy h.h.1 h.h.2,h.k⟩
 ·rename_i l kk i hx hy
  obtain ⟨⟨len,e,sz,ta,h⟩⟩:=h
  obtain ⟨hz,hq⟩:=cond_false h
  rw [Bool.and_eq_true] at hz
  have h1:=Nat.eq_of_beq_eq_true hz.1
  have h2:=Nat.eq_of_beq_eq_true hz.2
  subst h1
  obtain ⟨h0,h1,hk⟩:=hq
  have hlt:i.toNat < l.length:=by omega
  have hel:l[i.toNat]? = some l[i.toNat]:=List.getElem?_eq_getElem hlt
  exact ⟨_,GW (e:=e) hx hy h2 h0 hel,hk _ hel⟩
 ·exact h.elim
theorem Pe (h:Ly hp (ev x) F):∃ av,E2 P E nx hp ev (.nilCheck x) ty av ∧ F av:=by
 unfold Ly at h
 split at h
 ·rename_i hx;exact ⟨_,KM hx,h⟩
 ·rename_i hx;exact ⟨_,JB hx,h⟩
 ·rename_i hx
  split at h
  ·rename_i hb
   obtain ⟨rfl,h⟩:=h
   exact ⟨_,KN hx hb,h⟩
  ·exact h.elim
 ·exact h.elim
theorem Pf (h:Ap P T hp (ev x) F):∃ av,E2 P E nx hp ev (.call ⟨.builtin .len, #[x], #[T]⟩) ty av ∧ F av:=by
 unfold Ap at h
 split at h
 ·rename_i hx
  obtain ⟨⟨e,sz,ts,h⟩⟩:=h
  exact ⟨_,GV (e:=e) (sz:=sz) hx,h.k⟩
 ·rename_i hx
  obtain ⟨ts,h⟩:=h
  exact ⟨_,FB hx,h⟩
 ·rename_i hx
  split at h
  ·rename_i hb
   obtain ⟨rfl,h⟩:=h
   obtain ⟨⟨e,sz,ts,h⟩⟩:=h
   exact ⟨_,KL (e:=e) (sz:=sz) hx hb,h⟩
  ·exact h.elim
 ·rename_i hx
  obtain ⟨⟨e,sz,ts,h⟩⟩:=h
  exact ⟨_,FC (e:=e) (sz:=sz) hx,h⟩
 ·exact h.elim
theorem MD {lo hi:Option Operand} (h:EB P T ev (ev x) lo hi F):∃ av,E2 P E nx hp ev (.slice T x lo hi none) ty av ∧ F av:=by
 unfold EB at h
 split at h
 ·rename_i hx
  obtain ⟨ts,h⟩:=h
  split at h
  ·rename_i hl hh;exact ⟨_,Cm hx hl hh h.h.1 h.h.2.1 h.h.2.2,h.k⟩
  ·exact h.elim
 ·rename_i hx
  obtain ⟨⟨e,sz',ts,h⟩⟩:=h
  obtain ⟨hz,hq⟩:=cond_false h
  clear h
  have:=Nat.eq_of_beq_eq_true hz
  subst this
  split at hq
  ·rename_i hl hh;exact ⟨_,JG (e:=e) hx hl hh hq.h.1 hq.h.2.1 hq.h.2.2,hq.k⟩
  ·exact hq.elim
 ·exact h.elim
theorem KZ {ok:Bool} (h:Em P T hp ok (ev x) (ev y) F):∃ av,E2 P E nx hp ev (.lookup T x y ok) ty av ∧ F av:=by
 unfold Em at h
 split at h
 ·rename_i hx hy
  split at h
  ·rename_i hb hk
   obtain ⟨⟨k,e,t,z,tm,h⟩⟩:=h
   obtain ⟨hkb,hq⟩:=cond_false h
   cases ok with
   | true=>exact ⟨_,Hm (T:=T) hx hb hy hk hkb hq.h,hq.k.h⟩
   | false=>exact ⟨_,Ls (T:=T) hx hb hy hk hkb hq.h,hq.k.h⟩
  ·exact h.elim
 ·exact h.elim
theorem Nl {op:Op} (h:w7 P op ev hp F):∃ av,E2 P E nx hp ev op ty av ∧ F av:=by
 unfold w7 at h
 split at h
 ·obtain ⟨a,hx,h⟩:=F8 h;exact ⟨a,KH hx,h⟩
 ·obtain ⟨a,hx,h⟩:=F8 h;exact ⟨a,GQ hx,h⟩
 ·split at h
  ·rename_i t hc
   obtain ⟨h1,h2⟩:=h
   cases t with
   | true=>obtain ⟨a,hx,h⟩:=F8 (h1 rfl);exact ⟨a,Lj hc hx,h⟩
   | false=>obtain ⟨a,hx,h⟩:=F8 (h2 rfl);exact ⟨a,Lk hc hx,h⟩
  ·exact h.elim
 ·rename_i y _
  cases hn:Dz y with
  | true=>rw [hn] at h;exact Lz hn h
  | false=>rw [hn] at h;exact Pd h
 ·split at h
  ·rename_i hx;exact ⟨_,Nh hx,h⟩
  ·exact h.elim
 ·split at h
  ·rename_i a hx
   have h1:=h.h
   refine ⟨_,Ni hx,?_⟩
   rw [H4 (by omega)]
   exact h.k
  ·rename_i a hx;exact ⟨_,Ni hx,h⟩
  ·exact h.elim
 ·split at h
  ·rename_i hx;exact ⟨_,OE hx h.h,h.k⟩
  ·exact h.elim
 ·exact OP h
 ·obtain ⟨⟨off,sz,tf,h⟩⟩:=h
  obtain ⟨hz,h⟩:=cond_false h
  exact MA (off:=off) (sz:=sz) hz h
 ·exact MC h
 ·split at h
  ·rename_i s k i hx hy
   obtain ⟨ts,h0,h1,hk⟩:=h
   have hlt:i.toNat < s.length:=by omega
   have hel:s[i.toNat]? = some s[i.toNat]:=List.getElem?_eq_getElem hlt
   exact ⟨_,Cf hx hy h0 hel,hk _ hel⟩
  ·exact h.elim
 ·exact Pe h
 ·obtain ⟨a,hx,h⟩:=F8 h
  obtain ⟨⟨r,hr,h⟩⟩:=h
  cases hr with
  | bytes l hl=>rename_i e sz _ _ _;exact ⟨_,Ch (e:=e) (sz:=sz) hx hl,h⟩
  | back l=>rename_i e sz _ _ _;exact ⟨_,Ci (e:=e) (sz:=sz) hx,h⟩
  | int m=>exact ⟨_,Df hx,h⟩
  | rune m=>exact ⟨_,Cj hx,h⟩
 ·exact Pf h
 ·split at h
  ·rename_i hx hy
   obtain ⟨hk,h2⟩:=cond_false h
   have:=of_decide_eq_true hk
   subst this
   exact ⟨_,QV hx hy,h2⟩
  ·exact h.elim
 ·split at h
  ·rename_i hx hy
   obtain ⟨hk,h2⟩:=cond_false h
   have:=of_decide_eq_true hk
   subst this
   exact ⟨_,Nj hx hy,h2⟩
  ·exact h.elim
 ·split at h
  ·rename_i l hl
   unfold GF at h
   cases hc:H1 l with
   | true =>
     rw [hc] at h
     obtain ⟨⟨r,hr,h⟩⟩:=h
     rw [List.append_nil] at hr
     exact ⟨_,Ed hr hl hc,h⟩
   | false =>
     rw [hc] at h
     obtain ⟨⟨is,L,r,hL,hcl,hr,hfl,h⟩⟩:=h
     exact ⟨_,KV is hr hl hL hcl hfl fun _ _ _ _=>⟨[],rfl,rfl,fun j x c hx=>by simp at hx⟩,h⟩
  ·exact h.elim
 ·split at h
  ·rename_i f caps l hg hl
   unfold GF at h
   cases hc:H1 l with
   | true =>
     rw [hc] at h
     obtain ⟨⟨r,hr,h⟩⟩:=h
     exact ⟨_,Lm hg hr hl hc,h⟩
   | false =>
     rw [hc] at h
     obtain ⟨⟨is,L,r,hL,hcl,hr,hfl,h⟩⟩:=h
     refine ⟨_,KV is hr hl hL hcl hfl fun θ a w h=>?_,h⟩
     have:=(h.rel hg)
     generalize a.eval _ = v at this
     cases this with
     | im hi=>cases hi with | fn f l cs hl hc=>exact ⟨cs,rfl,hl,hc⟩
  ·exact h.elim
 ·split at h
  ·rename_i ps hps
   obtain ⟨⟨zs,pl,tz,tp,h⟩⟩:=h
   obtain ⟨hf,h⟩:=P2 h
   obtain ⟨a,ha,h⟩:=F8 h
   rw [Option.map_eq_some_iff] at ha
   obtain ⟨l,hl,rfl⟩:=ha
   exact ⟨_,IL (T:=_) hps hf hl,h⟩
  ·exact h.elim
 ·split at h
  ·rename_i ps hps
   obtain ⟨⟨e,sz,bs,z,ts,tz,tb,hz,h⟩⟩:=h
   obtain ⟨hc,h⟩:=cond_false h
   simp only [Bool.and_eq_true,Nat.beq_eq,Nat.blt_eq] at hc
   obtain ⟨hs,h⟩:=h
   obtain ⟨hf,h⟩:=P2 h
   obtain ⟨hi,h⟩:=n8 h
   exact ⟨_,Bi (e:=e) (z:=z) hps hf hc.1.1.1 hc.1.1.2 hc.1.2 hz hs hc.2 hi,h⟩
  ·exact h.elim
 ·exact KZ h
 ·exact MD h
 ·split at h
  ·rename_i hx
   obtain ⟨a,ha,h⟩:=F8 h
   exact ⟨a,FG hx ha,h⟩
  ·exact h.elim
 ·split at h
  ·rename_i caps hc
   obtain ⟨hcl,h⟩:=cond_false h
   exact ⟨_,JF hc hcl,h⟩
  ·exact h.elim
 ·exact h.elim
end sound
def Rd (a:AV):Prop:=∃ U w v,Im U w a v
theorem Rd.sl {sz:Nat} {l:List (List AV)} (h:Rd (.sl sz l)):l.length ≤ 9223372036854775807:=by
 obtain ⟨U,w,v,h⟩:=h
 cases h with
 | slnil=>simp
 | sl sz l a cap f hcap hm hu hsz hc h=>unfold maxLen at hm;omega
theorem Rd.agg {l:List AV} (h:Rd (.agg l)):∀ x ∈ l,Rd x:=by
 obtain ⟨U,w,v,h⟩:=h
 cases h with
 | agg l cs hl h =>
   intro x hx
   obtain ⟨j,hj,rfl⟩:=List.getElem_of_mem hx
   have h2:j < cs.length:=by omega
   exact ⟨U,w,_,h j _ _ (List.getElem?_eq_getElem hj) (List.getElem?_eq_getElem h2)⟩
theorem Rd.elem {sz:Nat} {l:List (List AV)} (h:Rd (.sl sz l)):∀ e ∈ l,∀ x ∈ e,Rd x:=by
 obtain ⟨U,w,v,h⟩:=h
 cases h with
 | slnil=>intro e he;cases he
 | sl sz l a cap f hcap hm hu hsz hc h =>
   intro e he x hx
   obtain ⟨i,hi,rfl⟩:=List.getElem_of_mem he
   obtain ⟨j,hj,rfl⟩:=List.getElem_of_mem hx
   exact ⟨U,w,_,h i _ (List.getElem?_eq_getElem hi) j _ (List.getElem?_eq_getElem hj)⟩
def k0:List AV → Nat → List (Nat × AV)
 | [],_=>[]
 | a :: r,k=>(k,a) :: k0 r (k + 1)
theorem Aq:∀ (l:List AV) (k s:Nat) (x:AV),look (k0 l k) s = some x → k ≤ s ∧ l[s - k]? = some x
 | [],_,_,_,h=>by cases h
 | a :: r,k,s,x,h=>by
   simp only [k0,E3] at h
   by_cases e:k = s
   ·subst e;simp at h;subst h;simp
   ·rw [if_neg e] at h
    obtain ⟨h1,h2⟩:=Aq r (k + 1) s x h
    refine ⟨by omega,?_⟩
    have:s - k = (s - (k + 1)) + 1:=by omega
    rw [this]
    simpa using h2
def M2 (tmps:Array Value):ResultVar → Sem Value
 | .tmp t=>pure (tmps.getD t undef)
 | .cell a t=>do loadVar t (← asAddr (tmps.getD a undef))
theorem DK {P:Program} {w:World} {tmps:Array Value}:∀ {rvs:List ResultVar} {vs:List Value},rvs.length = vs.length → (∀ (j:Nat) rv v,rvs[j]? = some rv → vs[j]? = some v → (M2 tmps rv).run P w = .ok v w) → (rvs.mapM (M2 tmps)).run P w = .ok vs w
 | [],[],_,_=>by simp [Sem.run_pure]
 | rv :: r,v :: s,hl,h=>by
   have h1:=h 0 rv v rfl rfl
   have h2:=DK (rvs:=r) (vs:=s) (by simpa using hl) (fun j rv v hj hv=>h (j + 1) rv v (by simpa using hj) (by simpa using hv))
   simp [List.mapM_cons,Sem.run_bind,h1,h2]
 | [],_ :: _,hl,_=>by simp at hl
 | _ :: _,[],hl,_=>by simp at hl
theorem Co {P:Program} {w:World} {fn:Func} {tmps:Array Value} {rvs:List ResultVar} {vs:List Value} (h:fn.results = rvs.toArray) (hne:rvs.length ≠ 1) (hl:rvs.length = vs.length) (hv:∀ (j:Nat) rv v,rvs[j]? = some rv → vs[j]? = some v → (M2 tmps rv).run P w = .ok v w) :
  (results fn tmps).run P w = .ok (.tuple vs.toArray) w:=by
 have hm:=DK (P:=P) (w:=w) (tmps:=tmps) hl hv
 have e:results fn tmps = (do let vs ← fn.results.mapM (M2 tmps);pure (if h:vs.size = 1 then vs[0] else .tuple vs)):=by
  unfold results
  congr
 rw [e,h,List.mapM_toArray]
 simp only [Sem.run_bind,map_eq_pure_bind,hm,Sem.run_pure,Result.andThen_ok]
 rw [dif_neg (by simp;omega)]
theorem Gq {P:Program} {w:World} {fn:Func} {tmps:Array Value} {rv:ResultVar} {v:Value} (h:fn.results = [rv].toArray) (hv:(M2 tmps rv).run P w = .ok v w) :
  (results fn tmps).run P w = .ok v w:=by
 have hm:=DK (P:=P) (w:=w) (tmps:=tmps) (rvs:=[rv]) (vs:=[v]) rfl (fun j rv' v' hj hv'=>by
  cases j with
  | zero=>simp at hj hv';subst hj hv';exact hv
  | succ j=>simp at hj)
 have e:results fn tmps = (do let vs ← fn.results.mapM (M2 tmps);pure (if h:vs.size = 1 then vs[0] else .tuple vs)):=by
  unfold results
  congr
 rw [e,h,List.mapM_toArray]
 simp only [Sem.run_bind,map_eq_pure_bind,hm,Sem.run_pure,Result.andThen_ok]
 rfl
inductive NL:AV → AV → Prop
 | refl (a:AV):NL a a
 | any (a:AV):NL a .any
 | nil (sz:Nat):NL (.v (.slice none 0 0)) (.sl sz [])
 | agg (l m:List AV) (h:l.length = m.length) (hh:∀ (j:Nat) x y,l[j]? = some x → m[j]? = some y → NL x y):NL (.agg l) (.agg m)
 | tup (l m:List AV) (h:l.length = m.length) (hh:∀ (j:Nat) x y,l[j]? = some x → m[j]? = some y → NL x y):NL (.tup l) (.tup m)
 | sl (sz:Nat) (l m:List (List AV)) (h:l.length = m.length) (hl:∀ (i:Nat) e e',l[i]? = some e → m[i]? = some e' → e.length = e'.length) (hh:∀ (i:Nat) e e',l[i]? = some e → m[i]? = some e' → ∀ (j:Nat) x y,e[j]? = some x → e'[j]? = some y → NL x y):NL (.sl sz l) (.sl sz m)
theorem O5 {α β:Type} {l:List α} {m:List β} (h:l.length = m.length) {j:Nat} {y:β} (hy:m[j]? = some y):∃ x,l[j]? = some x:=by
 have:=(List.getElem?_eq_some_iff.1 hy).1
 exact ⟨_,List.getElem?_eq_getElem (by omega)⟩
theorem NL.im {U:Nat → Prop} {w:World} {a b:AV} (h:NL a b):∀ {v:Value},Im U w a v → Im U w b v:=by
 induction h with
 | refl a=>intro v h;exact h
 | any a=>intro v h;exact .any v
 | nil sz=>intro v h;cases h;exact .slnil sz
 | agg l m hl hh ih =>
   intro v h
   cases h with
   | agg l cs hc h =>
     refine .agg m cs (by omega) fun j y c hy hc2=>?_
     obtain ⟨x,hx⟩:=O5 hl hy
     exact ih j x y hx hy (h j x c hx hc2)
 | tup l m hl hh ih =>
   intro v h
   cases h with
   | tup l cs hc h =>
     refine .tup m cs (by omega) fun j y c hy hc2=>?_
     obtain ⟨x,hx⟩:=O5 hl hy
     exact ih j x y hx hy (h j x c hx hc2)
 | sl sz l m hl hlen hh ih =>
   intro v h
   cases h with
   | slnil =>
     have:m = []:=List.eq_nil_of_length_eq_zero (by rw [← hl];rfl)
     subst this
     exact .slnil sz
   | sl sz l a cap f hcap hm hu hsz hc h =>
     rw [hl]
     refine .sl sz m a cap f (by omega) hm (fun hne=>hu (fun e=>hne (List.eq_nil_of_length_eq_zero (by rw [← hl,e];rfl)))) (fun e he=>?_) (fun i hi=>hc i (by omega)) (fun i e' he' j y hy=>?_)
     ·obtain ⟨i,hi,rfl⟩:=List.getElem_of_mem he
      obtain ⟨x,hx⟩:=O5 hl (List.getElem?_eq_getElem hi)
      rw [← hlen i x _ hx (List.getElem?_eq_getElem hi)]
      exact hsz x (List.mem_of_getElem? hx)
     ·obtain ⟨e,he⟩:=O5 hl he'
      obtain ⟨x,hx⟩:=O5 (hlen i e e' he he') hy
      exact ih i e e' he he' j x y hx hy (h i e he j x hx)
theorem Ka {c:Cx} {a b:AV} (h:NL a b):∀ {v:Value},C5 c a v → C5 c b v:=by
 induction h with
 | refl a=>intro v h;exact h
 | any a=>intro v h;exact .any v
 | nil sz=>intro v h;rw [h.val];exact .im (.slnil sz)
 | agg l m hl hh ih =>
   intro v h
   obtain ⟨cs,rfl,hc,hr⟩:=p2 h
   refine .agg m cs (by omega) fun j y z hy hz=>?_
   obtain ⟨x,hx⟩:=O5 hl hy
   exact ih j x y hx hy (hr j x z hx hz)
 | tup l m hl hh ih =>
   intro v h
   have:∃ cs:List Value,v = .tuple cs.toArray ∧ l.length = cs.length ∧ ∀ (j:Nat) u z,l[j]? = some u → cs[j]? = some z → C5 c u z:=by
    cases h with
    | im hi=>cases hi with | tup l cs hl hc=>exact ⟨cs,rfl,hl,fun j u z hu hz=>.im (hc j u z hu hz)⟩
    | tup l cs hl hc=>exact ⟨cs,rfl,hl,hc⟩
   obtain ⟨cs,rfl,hc,hr⟩:=this
   refine .tup m cs (by omega) fun j y z hy hz=>?_
   obtain ⟨x,hx⟩:=O5 hl hy
   exact ih j x y hx hy (hr j x z hx hz)
 | sl sz l m hl hlen hh ih =>
   intro v h
   cases h with
   | im hi=>exact .im ((NL.sl sz l m hl hlen hh).im hi)
def JP (P:Program) (σ:St):ResultVar → AV → Prop
 | .tmp t,a=>∃ a',(look σ.sl t).map (F7 σ.hp []) = some a' ∧ NL a' a
 | .cell t T,a=>∃ i τ l sz,look σ.sl t = some (.ref i 0) ∧ B2 σ.hp i = some (.bx τ l) ∧ G3 P T true sz ∧ l.length = sz ∧ NL (.agg (V6 σ.hp [] l)) a
def Ar (P:Program) (σ:St):List ResultVar → List AV → Prop
 | [],[]=>True
 | v :: r,a :: s=>JP P σ v a ∧ Ar P σ r s
 | _,_=>False
theorem Ar.get {P:Program} {σ:St}:∀ {rvs:List ResultVar} {as:List AV},Ar P σ rvs as → rvs.length = as.length ∧ ∀ (j:Nat) rv a,rvs[j]? = some rv → as[j]? = some a → JP P σ rv a
 | [],[],_=>⟨rfl,fun j rv a h=>by simp at h⟩
 | v :: r,a :: s,h=>by
   obtain ⟨h1,h2⟩:=Ar.get h.2
   refine ⟨by simp [h1],fun j rv b hj hb=>?_⟩
   cases j with
   | zero=>simp at hj hb;subst hj hb;exact h.1
   | succ j=>exact h2 j rv b (by simpa using hj) (by simpa using hb)
 | [],_ :: _,h=>h.elim
 | _ :: _,[],h=>h.elim
def Pg (P:Program) (rs:Array ResultVar) (r:AV) (σ:St):Prop :=
 (∃ rvs as,rs = rvs.toArray ∧ rvs.length ≠ 1 ∧ Ar P σ rvs as ∧ r = .tup as) ∨
 (∃ t,rs = #[.tmp t] ∧ (look σ.sl t).map (F7 σ.hp []) = some r) ∨
 (∃ t sz,rs = #[.tmp t] ∧ look σ.sl t = some (.v (.slice none 0 0)) ∧ r = .sl sz []) ∨
 (∃ t u a b,rs = #[.tmp t, .tmp u] ∧ (look σ.sl t).map (F7 σ.hp []) = some a ∧ (look σ.sl u).map (F7 σ.hp []) = some b ∧ r = .tup [a,b]) ∨
 (∃ t T i τ l,rs = #[.cell t T] ∧ look σ.sl t = some (.ref i 0) ∧ B2 σ.hp i = some (.bx τ l) ∧ r = .agg (V6 σ.hp [] l))
def F6 (P:Program) (rs:Array ResultVar) (r:AV):Exit → St → Prop
 | .ret,σ=>Pg P rs r σ
 | .normal,σ=>Pg P rs r σ
 | _,_=>False
theorem B9 {P:Program} {t:Nat} {r r':AV} {σ:St} (h:(look σ.sl t).map (F7 σ.hp []) = some r') (e:r' = r):F6 P #[.tmp t] r .ret σ:=.inr (.inl ⟨t,rfl,e ▸ h⟩)
theorem S0 {P:Program} {rs:List ResultVar} {vs:List AV} {r:AV} {σ:St} (hn:(Nat.beq rs.length 1) = false) (h:Ar P σ rs vs) (e:.tup vs = r):F6 P rs.toArray r .ret σ:=.inl ⟨rs,vs,rfl,(fun h=>by rw [h] at hn;cases hn),h,e.symm⟩
theorem H6 {P:Program} {t:Nat} {a' a:AV} {σ:St} (h:(look σ.sl t).map (F7 σ.hp []) = some a') (e:NL a' a):JP P σ (.tmp t) a:=⟨a',h,e⟩
theorem E6 {P:Program} {t T i u sz τ:Nat} {l:List AV} {a b b' r:AV} {σ:St} [tv:G3 P T true sz] (h:look σ.sl t = some (.ref i 0)) (hb:B2 σ.hp i = some (.bx τ l)) (hl:Nat.beq l.length sz = true) (na:NL (.agg (V6 σ.hp [] l)) a) (h2:(look σ.sl u).map (F7 σ.hp []) = some b') (nb:NL b' b) (e:.tup [a,b] = r):F6 P #[.cell t T, .tmp u] r .ret σ :=
 S0 (rs:=[.cell t T, .tmp u]) (vs:=[a,b]) rfl ⟨⟨i,τ,l,sz,h,hb,tv,Nat.eq_of_beq_eq_true hl,na⟩,⟨b',h2,nb⟩,trivial⟩ e
theorem s8 {P:Program} {t u:Nat} {a b r:AV} {σ:St} (h:(look σ.sl t).map (F7 σ.hp []) = some a) (h2:(look σ.sl u).map (F7 σ.hp []) = some b) (e:.tup [a,b] = r):F6 P #[.tmp t, .tmp u] r .ret σ:=.inr (.inr (.inr (.inl ⟨t,u,a,b,rfl,h,h2,e.symm⟩)))
theorem AM {P:Program} {t sz:Nat} {r:AV} {σ:St} (h:look σ.sl t = some (.v (.slice none 0 0))) (e:.sl sz [] = r):F6 P #[.tmp t] r .ret σ:=.inr (.inr (.inl ⟨t,sz,rfl,h,e.symm⟩))
theorem F4 {P:Program} {t T i τ:Nat} {l:List AV} {r:AV} {σ:St} (h:look σ.sl t = some (.ref i 0)) (h2:B2 σ.hp i = some (.bx τ l)) (e:.agg (V6 σ.hp [] l) = r):F6 P #[.cell t T] r .ret σ:=.inr (.inr (.inr (.inr ⟨t,T,i,τ,l,rfl,h,h2,e.symm⟩)))
section rules
variable {P:Program} {E:Env} {n:Nat} {ops:Array Oper} {rest:List Oper} {σ:St} {K:St → Prop} {Q:Exit → St → Prop}
variable {d:Nat} {ty:TypeId} {pos:String} {after:Array Edge} {x y:Operand}
theorem Kb {fn:Func} {r:AV} {X:Nat → Prop} {w w':World} {htb:N8 (fun k=>X k ∨ (fun _=>False) k) w} {rf:Bool} {θ:Th} {σ':St} {a:Act} (hs:H0 ⟨w,X,fun _=>False,fun _=>undef,0,htb,rf⟩ n θ σ' a w') (hdf:a.defers = []) (hcl:J3 r)
  (hcells:∀ t T,fn.results = #[.cell t T] → ∃ sz,G3 P T true sz ∧ ∀ l,r = .agg l → l.length = sz) (hret:Pg P fn.results r σ'):bodyPost P fn (fun e w''=>∃ v,e = .returned v ∧ Im X w'' r v ∧ Below w.heap.size w w'') .ret a w':=by
 have hbel:Below w.heap.size w w':=⟨hs.fr.os,hs.fr.tape,hs.fr.output,hs.fr.size,fun k hk=>hs.fr.block k hk (fun h=>h)⟩
 have hcv:=hs.cv (σ':=⟨W3 (F7 σ'.hp []) σ'.sl,σ'.nx,[]⟩) (Nat.zero_le _) (fun s x' hx=>by
  rw [n7,Option.map_eq_some_iff] at hx
  obtain ⟨x,h1,h2⟩:=hx
  exact ⟨x,h1,h2, .inl (Nat.le_refl _)⟩) (fun i b' hi=>by cases hi) (fun i e sz v l hi=>by cases hi)
 have toX:∀ {a:AV} {v:Value},J3 a → C5 (cx ⟨w,X,fun _=>False,fun _=>undef,0,htb,rf⟩ θ ⟨W3 (F7 σ'.hp []) σ'.sl,σ'.nx,[]⟩ w') a v → Im X w' a v:=fun hc hi=>(hc.im hi).mono (fun _ _ _=>rfl) fun k _ hu=>.inl hu
 have slot:∀ {t:Nat} {r:AV},(look σ'.sl t).map (F7 σ'.hp []) = some r → look (W3 (F7 σ'.hp []) σ'.sl) t = some r:=fun h=>by rw [n7];exact h
 rcases hret with ⟨rvs,as,h1,hn1,hrv,rfl⟩ | ⟨t,h1,h2⟩ | ⟨t,sz,h1,h2,rfl⟩ | ⟨t,u,a1,b1,h1,h2,h3,rfl⟩ | ⟨t,T,i,τ,l,h1,h2,h3,rfl⟩
 ·obtain ⟨hlen,hget⟩:=Ar.get hrv
  have hcls:∀ a ∈ as,J3 a:=by cases hcl with | tup hk=>exact hk
  have one:∀ (rv:ResultVar) (b:AV),J3 b → JP P σ' rv b → ∃ v,(M2 a.tmps rv).run P w' = .ok v w' ∧ Im X w' b v:=by
   intro rv b hb hv
   cases rv with
   | tmp t =>
     obtain ⟨a',h1,h2⟩:=hv
     exact ⟨_,by simp [M2,Sem.run_pure],toX hb (Ka h2 (hcv.slots t a' (slot h1)))⟩
   | cell t T =>
     obtain ⟨i,τ,l,sz,h2,h3,tv,hlsz,hnl⟩:=hv
     obtain ⟨b1,hθ,hv,_⟩:=O2 (hs.slots t _ h2)
     obtain ⟨b',arr,T',hθ',hh,hsz,hr⟩:=(hs.owns i _ h3).2
     have hbb:θ i = .pointer (some ⟨b1,0,none⟩):=hθ
     have hbb':θ i = .pointer (some ⟨b',0,none⟩):=hθ'
     rw [hbb] at hbb'
     cases hbb'
     have hh':w'.heap[b1]? = some (.cells arr T' (0,0)):=hh
     have sub:(cx ⟨w,X,fun _=>False,fun _=>undef,0,htb,rf⟩ θ σ' w').sub (cx ⟨w,X,fun _=>False,fun _=>undef,0,htb,rf⟩ θ ⟨W3 (F7 σ'.hp []) σ'.sl,σ'.nx,[]⟩ w'):=⟨rfl,rfl,fun _ h=>h,(fun i b' hi=>by cases hi),hs.apart,fun i b k hi hk=>(hs.mine i b k hi hk).1,fun i b hi=>(hs.owns i b hi).2⟩
     have hload:=K4 (P:=P) (T:=T) (sz:=sz) (w:=w') (a:=⟨b1,0,none⟩) (cs:=arr.toList) (by rw [Array.length_toList,hsz,hlsz]) (fun j v hj=>by rw [F3,G5 hh'];simpa using hj)
     refine ⟨.agg arr,by simp [M2,hv,Sem.run_bind,Sem.run_pure,asAddr,hload],toX hb (Ka hnl (by
      have:=C5.agg (c:=cx ⟨w,X,fun _=>False,fun _=>undef,0,htb,rf⟩ θ ⟨W3 (F7 σ'.hp []) σ'.sl,σ'.nx,[]⟩ w') (V6 σ'.hp [] l) arr.toList (by rw [J2];simp [hsz]) (fun j x y hx hy=>by
       rw [J2] at hx
       simp only [List.getElem?_map,Option.map_eq_some_iff] at hx
       obtain ⟨u0,hu0,rfl⟩:=hx
       exact Bj sub (hr j u0 y hu0 (by simpa using hy)) (.inl (Nat.le_refl _)))
      simpa using this))⟩
  have all:∀ (m:Nat),m ≤ rvs.length → ∃ vs:List Value,vs.length = m ∧ ∀ (j:Nat) rv v,rvs[j]? = some rv → vs[j]? = some v → (M2 a.tmps rv).run P w' = .ok v w' ∧ ∀ b,as[j]? = some b → Im X w' b v:=by
   intro m
   induction m with
   | zero=>intro _;exact ⟨[],rfl,fun j rv v _ h=>by simp at h⟩
   | succ m ih =>
     intro hm
     obtain ⟨vs,hl,hvs⟩:=ih (by omega)
     have hrvm:rvs[m]? = some rvs[m]:=List.getElem?_eq_getElem (by omega)
     have ham:as[m]? = some (as[m]'(by omega)):=List.getElem?_eq_getElem (by omega)
     obtain ⟨v,hv1,hv2⟩:=one rvs[m] (as[m]'(by omega)) (hcls _ (List.getElem_mem _)) (hget m _ _ hrvm ham)
     refine ⟨vs ++ [v],by simp [hl],fun j rv u hj hu=>?_⟩
     by_cases e:j < m
     ·rw [List.getElem?_append_left (by omega)] at hu
      exact hvs j rv u hj hu
     ·rw [List.getElem?_append_right (by omega),hl] at hu
      have ej:j = m:=by
       have:=(List.getElem?_eq_some_iff.1 hu).1
       simp at this;omega
      subst ej
      simp at hu
      subst hu
      rw [hrvm] at hj
      cases hj
      exact ⟨hv1,fun b hb=>by rw [ham] at hb;cases hb;exact hv2⟩
  obtain ⟨vs,hvl,hvs⟩:=all rvs.length (Nat.le_refl _)
  refine ⟨hdf,_,Co h1 hn1 hvl.symm (fun j rv v hj hv=>(hvs j rv v hj hv).1),_,rfl, .tup as vs (by omega) fun j b v hb hv=>?_,hbel⟩
  obtain ⟨rv,hrv2⟩:=O5 hlen hb
  exact (hvs j rv v hrv2 hv).2 b hb
 ·exact ⟨hdf,_,results_tmp h1 _ _ _,_,rfl,toX hcl (hcv.slots t r (slot h2)),hbel⟩
 ·exact ⟨hdf,_,results_tmp h1 _ _ _,_,rfl,by rw [(hs.slots t _ h2).val];exact .slnil sz,hbel⟩
 ·refine ⟨hdf,_,results_tmp2 h1 _ _ _,_,rfl,?_,hbel⟩
  refine toX hcl (.tup [a1,b1] [_,_] rfl fun j x y hx hy=>?_)
  match j,hx,hy with
  | 0,hx,hy=>cases hx;cases hy;exact hcv.slots t _ (slot h2)
  | 1,hx,hy=>cases hx;cases hy;exact hcv.slots u _ (slot h3)
 ·obtain ⟨b,hθ,hv,_⟩:=O2 (hs.slots t _ h2)
  obtain ⟨b',arr,T',hθ',hh,hsz,hr⟩:=(hs.owns i _ h3).2
  have hbb:θ i = .pointer (some ⟨b,0,none⟩):=hθ
  have hbb':θ i = .pointer (some ⟨b',0,none⟩):=hθ'
  rw [hbb] at hbb'
  cases hbb'
  obtain ⟨sz,tv,hlen⟩:=hcells t T h1
  have hlsz:=hlen _ rfl
  rw [J2,List.length_map] at hlsz
  have hh':w'.heap[b]? = some (.cells arr T' (0,0)):=hh
  have sub:(cx ⟨w,X,fun _=>False,fun _=>undef,0,htb,rf⟩ θ σ' w').sub (cx ⟨w,X,fun _=>False,fun _=>undef,0,htb,rf⟩ θ ⟨W3 (F7 σ'.hp []) σ'.sl,σ'.nx,[]⟩ w'):=⟨rfl,rfl,fun _ h=>h,(fun i b' hi=>by cases hi),hs.apart,fun i b k hi hk=>(hs.mine i b k hi hk).1,fun i b hi=>(hs.owns i b hi).2⟩
  refine ⟨hdf, .agg arr,?_,_,rfl,toX hcl (by
   have:=C5.agg (c:=cx ⟨w,X,fun _=>False,fun _=>undef,0,htb,rf⟩ θ ⟨W3 (F7 σ'.hp []) σ'.sl,σ'.nx,[]⟩ w') (V6 σ'.hp [] l) arr.toList (by rw [J2];simp [hsz]) (fun j x y hx hy=>by
    rw [J2] at hx
    simp only [List.getElem?_map,Option.map_eq_some_iff] at hx
    obtain ⟨u0,hu0,rfl⟩:=hx
    exact Bj sub (hr j u0 y hu0 (by simpa using hy)) (.inl (Nat.le_refl _)))
   simpa using this),hbel⟩
  have hload:=K4 (P:=P) (T:=T) (sz:=sz) (w:=w') (a:=⟨b,0,none⟩) (cs:=arr.toList) (by rw [Array.length_toList,hsz,hlsz]) (fun j v hj=>by rw [F3,G5 hh'];simpa using hj)
  rw [Array.getD_eq_getD_getElem?] at hv
  simp [results,h1,hv,Sem.run_bind,Sem.run_pure,asAddr,hload]
theorem Ht {f : Nat} {fn : Func} {code : Code} {args : List AV} {r : AV} {rs : Array ResultVar} (hf : P.funcs[f]? = some fn) (hname : (fn.name == "runtime.NumGoroutine") = false) (hb : fn.body = some code) (hn : fn.ntmps = n) (hrs : fn.results = rs)
  (hargs:Nat.ble args.length n = true) (hcl:H2 r = true) (hcells:∀ t T,rs = #[.cell t T] → ∃ sz,G3 P T true sz ∧ ∀ l,r = .agg l → l.length = sz)
  (h:(∀ a ∈ args,Rd a) → ∀ E,E.n0 = 0 → E4 P E n code ⟨k0 args 0,0,[]⟩ (F6 P rs r)):B5 P f args r:=by
 subst hn hrs
 have hcl:=Q5 hcl
 refine ⟨⟨fn,hf,hname,by rw [hb];rfl⟩,fun X w vs hX htab hl hvs=>?_⟩
 have htb:N8 (fun k=>X k ∨ (fun _=>False) k) w:=htab.mono (fun k _ h=>h.elim id False.elim) fun _ _ _=>rfl
 have hrd:∀ a ∈ args,Rd a:=by
  intro a ha
  obtain ⟨j,hj,rfl⟩:=List.getElem_of_mem ha
  have h2:j < vs.length:=by omega
  exact ⟨X,w,_,hvs j _ _ (List.getElem?_eq_getElem hj) (List.getElem?_eq_getElem h2)⟩
 refine calls_of_wp hf hb ?_
 have hle:args.length ≤ fn.ntmps:=Nat.ble_eq ▸ hargs
 have start:T4 ⟨w,X,fun _=>False,fun _=>undef,0,htb,false⟩ fn.ntmps ⟨k0 args 0,0,[]⟩ { tmps:=vs.toArray ++ Array.replicate (fn.ntmps - vs.toArray.size) undef,defers:=[] } w:=by
  refine ⟨⟨fun _=>undef,fun _ _=>none⟩,?_, .nil,⟨rfl,rfl,rfl,Nat.le_refl _,fun _ _ _=>rfl⟩,fun s x hs=>?_,fun i b hi=>?_,fun i j b b' k hi=>?_,fun i b k hi=>?_,hX,⟨Nat.le_refl _,fun i hi=>?_⟩⟩
  ·simp;omega
  ·obtain ⟨_,hx⟩:=Aq args 0 s x hs
   rw [Nat.sub_zero] at hx
   have hlt:s < vs.length:=by rw [← hl];exact (List.getElem?_eq_some_iff.1 hx).1
   have hv:vs[s]? = some vs[s]:=List.getElem?_eq_getElem hlt
   have e:(vs.toArray ++ Array.replicate (fn.ntmps - vs.toArray.size) undef).getD s undef = vs[s]:=by
    rw [Array.getD_eq_getD_getElem?,Array.getElem?_append]
    simp [hlt]
   rw [e]
   refine .im ((hvs s x _ hx hv).mono (fun _ _ _=>rfl) fun k _ hu=>?_)
   rcases hu with hu | ⟨i,b,hi,_⟩
   ·exact hu
   ·cases hi
  ·cases hi
  ·cases hi
  ·cases hi
  ·exact absurd hi (Nat.not_lt_zero _)
 refine wp_mono (h hrd ⟨w,X,fun _=>False,fun _=>undef,0,htb,false⟩ rfl _ w start) ?_
 rintro e a w' ⟨σ',hq,θ,hs⟩
 have fin:=Kb (P:=P) (fn:=fn) (r:=r) hs (hs.defers.1 rfl) hcl hcells
 cases e with
 | normal=>exact fin hq
 | ret=>exact fin hq
 | exit id=>exact hq.elim
 | goto l=>exact hq.elim
 | panic c=>exact hq.elim
 | outgrown=>exact hq.elim
theorem B5.congr {f:Nat} {args:List AV} {r r':AV} (h:B5 P f args r) (e:r = r'):B5 P f args r':=e ▸ h
theorem p4 {l:List Oper} {σ':St} (h:St.le E n σ σ') (k:B6 P E n ops l σ' K):B6 P E n ops l σ K:=fun a w hs=>k a w (h a w hs)
theorem N0 {d e sz:Nat} (hd:look σ.sl d = some (.v (.slice none 0 0))) (he:Nat.blt e C6 = true:=by rfl):St.le E n σ ((σ.new (.row e sz 0 [])).put d (.row σ.nx 0 0)):=by
 rintro a w ⟨θ,h⟩
 have h2:=h.grow (w':=w) (Below.refl _ _) (.slice none 0 0) (.row e sz 0 []) (fun k hk=>by cases hk) (fun le=>⟨[],⟨by simp, .inl ⟨by simp [cx,D0],rfl⟩⟩,(fun el hel=>by cases hel),(fun k el hk=>by simp at hk), .lt (Nat.blt_eq ▸ he)⟩) (I8 (Nat.blt_eq ▸ he))
 refine ⟨_,h2.size,h2.defers,h2.fr,fun s x hs=>?_,h2.owns,h2.apart,h2.mine,h2.X,h2.base⟩
 simp only [St.put,E3] at hs
 by_cases ed:d = s
 ·subst ed
  rw [if_pos rfl] at hs
  cases hs
  have hv:=(h.slots d _ hd).val
  rw [hv]
  refine .row _ _ _ _ (by simp [cx,St.new,St.put]) fun e' sz' v' l' hl=>?_
  simp only [cx,St.new,St.put,D5,if_pos] at hl
  cases hl
  exact ⟨Nat.le_refl _,fun _=>⟨rfl,by simp [cx,D0]⟩⟩
 ·rw [if_neg ed] at hs
  exact h2.slots s x hs
structure O6 (P:Program) (E:Env) (n:Nat) (ops:Array Oper) (o:Oper) (rest:List Oper) (l:List AV) (σ:St) (K:St → Prop):Prop where
 h:B6 P E n ops (o :: rest) σ K
mutual
def ME:AV → Option Nat
 | .ref i _ | .row i _ _ | .elt i _ _ _=>some i
 | .agg l | .tup l | .fo _ l=>FK l
 | _=>none
def FK:List AV → Option Nat
 | []=>none
 | x :: r=>match ME x with
   | some i=>some i
   | none=>FK r
end
theorem Kc {o:Oper} {l:List AV} (i:Nat) (h:B6 P E n ops (o :: rest) (σ.frz i) K):O6 P E n ops o rest l σ K:=⟨p4 (AK i) h⟩
def lits:List Nat:=[0,1,2,3,4,5,6,7,8,9,10,11,12,13,14,15,16,17,18,19,20,21,22,23,24,25,26,27,28,29,30,31,32,33,34,35,36,37,38,39,40,41,42,43,44,45,46,47,48,49,50,51,52,53,54,55,56,57,58,59,60,61,62,63]
def Bs:List Nat → Nat → Option Nat
 | [],_=>none
 | x :: _,0=>some x
 | _ :: r,k + 1=>Bs r k
theorem IR:∀ (l:List Nat) (m:Nat),Bs l m = l[m]?
 | [],m=>by simp [Bs]
 | x :: r,0=>by simp [Bs]
 | x :: r,k + 1=>by simp [Bs,IR r k]
theorem Kd {m k:Nat} (h:Bs lits m = some k):k = m:=by
 by_cases hm:m < 64
 ·have h2:∀ j,j < 64 → Bs lits j = some j:=by decide
  rw [h2 m hm] at h
  exact (Option.some.inj h).symm
 ·rw [IR,List.getElem?_eq_none (by simp [lits];omega)] at h
  cases h
def F2 (m:Nat) (F:Nat → Prop):Prop :=
 match Bs lits m with
 | some k=>F k
 | none=>F m
theorem D2 {m:Nat} {F:Nat → Prop} (h:F2 m F):F m:=by
 unfold F2 at h
 split at h
 ·rename_i hk;rw [Kd hk] at h;exact h
 ·exact h
def Gr (P:Program) (E:Env) (n:Nat) (ops:Array Oper) (o:Oper) (T:Nat) (x y:Option AV) (rest:List Oper) (σ:St) (K:St → Prop):Prop :=
 match x,y with
 | some (.ref i off),some av=>match B2 σ.hp i with
   | some (.bx τ l)=>Bm P T fun _ sz=>cond (Nat.beq (H3 av).length sz && Nat.ble (off + sz) l.length) (Gk σ.hp av (JM σ.hp (H3 av) (B6 P E n ops rest (σ.set i (.bx τ (X3 l off (H3 av)))) K))) False
   | _=>False
 | some (.elt i ver k off),some av=>match B2 σ.hp i with
   | some (.row e sz ver' l)=>E1 (ver = ver' ∧ off < sz) (Bm P T fun ag szT=>cond (cond ag false (Nat.beq szT 1 && R6 e)) (cond (H2 av) (Gj σ.hp av (J1 l (k:Int) fun el=>B6 P E n ops rest (σ.set i (.row e sz ver (l.set k (el.set off av)))) K)) (O6 P E n ops o rest [av] σ K)) False)
   | _=>False
 | _,_=>False
def Nm (P:Program) (E:Env) (n:Nat) (ops:Array Oper) (d T:Nat) (x y:Option AV) (rest:List Oper) (σ:St) (K:St → Prop):Prop :=
 match x,y with
 | some (.v (.int .i64 m)),some (.v (.int .i64 m'))=>s7 P T fun e sz bs z=>cond (Nat.blt e G2) (E1 (m = m' ∧ 0 ≤ m ∧ bs * m.toNat ≤ 281474976710656 ∧ m ≤ 9223372036854775807) (F2 σ.nx fun nx=>B6 P E n ops rest ((σ.new (.row e sz 0 (List.replicate m.toNat z))).put d (.row nx 0 m.toNat)) K)) False
 | _,_=>False
def IU (P:Program) (E:Env) (n:Nat) (ops:Array Oper) (d T:Nat) (x y:Option AV) (rest:List Oper) (σ:St) (K:St → Prop):Prop :=
 match x,y with
 | some (.row i ver len),some (.sl sz' m)=>match B2 σ.hp i with
   | some (.row e sz ver' l)=>E1 (ver = ver') (s7 P T fun e' sz2 bs _=>cond (Nat.beq e e' && Nat.beq sz sz2 && Nat.beq sz sz' && Nat.blt 0 sz && Nat.blt e C4) (E1 (∀ el ∈ m,∀ u ∈ el,J8 u) (E1 ((len + m.length) * bs ≤ 140737488355328 ∧ len + m.length ≤ 9223372036854775807)
     (B6 P E n ops rest ((σ.set i (.row e sz (ver + 1) (l ++ m))).put d (.row i (ver + 1) (len + m.length))) K))) False)
   | _=>False
 | some (.row i ver len),some (.row j ver2 len2)=>match B2 σ.hp i,B2 σ.hp j with
   | some (.row e sz ver' l),some (.row _ sz' ver2' m)=>E1 (ver = ver' ∧ ver2 = ver2') (s7 P T fun e' sz2 bs _=>cond (Nat.beq e e' && Nat.beq sz sz2 && Nat.beq sz sz' && Nat.blt 0 sz && Nat.blt e C4) (E1 (∀ el ∈ m,∀ u ∈ el,J8 u) (E1 ((len + m.length) * bs ≤ 140737488355328 ∧ len + m.length ≤ 9223372036854775807)
     (B6 P E n ops rest ((σ.set i (.row e sz (ver + 1) (l ++ m))).put d (.row i (ver + 1) (len + m.length))) K))) False)
   | _,_=>False
 | some (.v (.slice none 0 0)),some (.sl sz' m)=>s7 P T fun e sz bs _=>cond (Nat.beq sz sz' && Nat.blt 0 sz && Nat.blt e C4) (E1 (∀ el ∈ m,∀ u ∈ el,J8 u) (E1 ((0 + m.length) * bs ≤ 140737488355328 ∧ 0 + m.length ≤ 9223372036854775807)
   (F2 σ.nx fun nx=>B6 P E n ops rest (((σ.new (.row e sz 0 [])).set nx (.row e sz 1 ([] ++ m))).put d (.row nx 1 (0 + m.length))) K))) False
 | _,_=>False
def IV (P:Program) (E:Env) (n:Nat) (ops:Array Oper) (d T T2:Nat) (x:Option AV) (s:List UInt8) (rest:List Oper) (σ:St) (K:St → Prop):Prop :=
 match x with
 | some (.row i ver len)=>match B2 σ.hp i with
   | some (.row e sz ver' l)=>E1 (ver = ver') (s7 P T fun e' sz2 bs _=>j9 P T2 (cond (Nat.beq e e' && Nat.beq sz 1 && Nat.beq sz2 1 && Nat.beq bs 1 && Nat.blt e C4) (Nk P e (E1 (len + s.length ≤ 140737488355328) (B6 P E n ops rest ((σ.set i (.row e 1 (ver + 1) (l ++ BS s))).put d (.row i (ver + 1) (len + s.length))) K))) False))
   | _=>False
 | some (.v (.slice none 0 0))=>s7 P T fun e sz bs _=>j9 P T2 (cond (Nat.beq sz 1 && Nat.beq bs 1 && Nat.blt e C4) (Nk P e (E1 (0 + s.length ≤ 140737488355328) (F2 σ.nx fun nx=>B6 P E n ops rest (((σ.new (.row e 1 0 [])).set nx (.row e 1 1 ([] ++ BS s))).put d (.row nx 1 (0 + s.length))) K))) False)
 | _=>False
def Ke (P:Program) (E:Env) (n:Nat) (ops:Array Oper) (T:Nat) (x y z:Option AV) (rest:List Oper) (σ:St) (K:St → Prop):Prop :=
 match x,y,z with
 | some (.mp i),some kav,some av=>match B2 σ.hp i,keyOf kav with
   | some (.map m),some k=>JJ P T fun t _=>cond (n5 t k && H2 av) (E1 (p3 t m) (B6 P E n ops rest (σ.set i (.map (AC m k av))) K)) False
   | _,_=>False
 | _,_,_=>False
def Ph (P:Program) (E:Env) (n:Nat) (ops:Array Oper) (o:Oper) (rest:List Oper) (σ:St) (K:St → Prop):Prop :=
 match o.dst,o.op with
 | some d, .box T x=>cond (Nat.blt d n) (M0 (D8 σ x) fun av=>Gk σ.hp av (F2 σ.nx fun nx=>B6 P E n ops rest ((σ.new (.box (H3 av))).put d (.ref nx 0)) K)) False
 | some d, .alloc T=>cond (Nat.blt d n) (JH P T fun l=>F2 σ.nx fun nx=>B6 P E n ops rest ((σ.new (.box l)).put d (.ref nx 0)) K) False
 | none, .store T x y=>Gr P E n ops ⟨o.dst,o.op,o.type,o.pos,o.after,none⟩ T (D8 σ x) (D8 σ y) rest σ K
 | some d, .makeSlice T x y=>cond (Nat.blt d n) (Nm P E n ops d T (D8 σ x) (D8 σ y) rest σ K) False
 | some d, .makeMap T none=>cond (Nat.blt d n) (F2 σ.nx fun nx=>B6 P E n ops rest ((σ.new (.map [])).put d (.mp nx)) K) False
 | none, .mapUpdate T x y z=>Ke P E n ops T (D8 σ x) (D8 σ y) (D8 σ z) rest σ K
 | some d, .call ⟨.builtin .append,⟨[x,y]⟩,⟨[T,T']⟩⟩=>match D8 σ y with
   | some (.str s)=>cond (Nat.blt d n) (IV P E n ops d T T' (D8 σ x) s rest σ K) False
   | _=>cond (Nat.blt d n && Nat.beq T T') (IU P E n ops d T (D8 σ x) (D8 σ y) rest σ K) False
 | some d, .call ⟨.builtin .unsafeSliceData,⟨[x]⟩,ts⟩=>O6 P E n ops ⟨o.dst,o.op,o.type,o.pos,o.after,none⟩ rest [] σ K
 | some d, .call ⟨.builtin .unsafeString,⟨[x,y]⟩,ts⟩=>O6 P E n ops ⟨o.dst,o.op,o.type,o.pos,o.after,none⟩ rest [] σ K
 | some d, .call ⟨.value (.func f),⟨args⟩,_⟩=>cond (Nat.blt d n) (match P9 (D8 σ) args with
   | some l=>cond (H1 l) (Ds P f (l ++ []) fun av=>B6 P E n ops rest (σ.put d av) K) (O6 P E n ops ⟨o.dst,o.op,o.type,o.pos,o.after,none⟩ rest l σ K)
   | none=>False) False
 | some d, .call ⟨.value (.tmp t),⟨args⟩,ts⟩=>match D8 σ (.tmp t),P9 (D8 σ) args with
   | some (.fo _ caps),some l=>O6 P E n ops ⟨o.dst,o.op,o.type,o.pos,o.after,none⟩ rest (l ++ caps) σ K
   | _,_=>cond (Nat.blt d n) (w7 P (.call ⟨.value (.tmp t),⟨args⟩,ts⟩) (D8 σ) σ.hp fun av=>B6 P E n ops rest (σ.put d av) K) False
 | some d, .buildSlice T len ⟨parts⟩=>match V5 (D8 σ) parts with
   | some ps=>cond (ps.all fun p=>H2 p.2) (cond (Nat.blt d n) (w7 P (.buildSlice T len ⟨parts⟩) (D8 σ) σ.hp fun av=>B6 P E n ops rest (σ.put d av) K) False) (O6 P E n ops ⟨o.dst,o.op,o.type,o.pos,o.after,none⟩ rest (ps.map (·.2)) σ K)
   | none=>False
 | some d, .slice T x lo hi none=>match D8 σ x with
   | some (.row i v len)=>O6 P E n ops ⟨o.dst,o.op,o.type,o.pos,o.after,none⟩ rest [.row i v len] σ K
   | _=>cond (Nat.blt d n) (w7 P (.slice T x lo hi none) (D8 σ) σ.hp fun av=>B6 P E n ops rest (σ.put d av) K) False
 | some d, .makeFunc f ⟨x :: xs⟩ ⟨[]⟩=>O6 P E n ops ⟨o.dst,o.op,o.type,o.pos,o.after,none⟩ rest [] σ K
 | some d, .makeFunc f ⟨[]⟩ ⟨xs⟩=>cond (Nat.blt d n) (match P9 (D8 σ) xs with
   | some l=>cond (H1 l) (w7 P (.makeFunc f ⟨[]⟩ ⟨xs⟩) (D8 σ) σ.hp fun av=>B6 P E n ops rest (σ.put d av) K) (O6 P E n ops ⟨o.dst,o.op,o.type,o.pos,o.after,none⟩ rest l σ K)
   | none=>False) False
 | some d,op=>cond (Nat.blt d n) (w7 P op (D8 σ) σ.hp fun av=>B6 P E n ops rest (σ.put d av) K) False
 | _,_=>False
theorem Gs {T:Nat} (h:Gr P E n ops ⟨none, .store T x y,ty,pos,after,none⟩ T (D8 σ x) (D8 σ y) rest σ K):B6 P E n ops (⟨none, .store T x y,ty,pos,after,none⟩ :: rest) σ K:=by
 unfold Gr at h
 split at h
 ·rename_i hx hy
  split at h
  ·rename_i hb
   obtain ⟨⟨ag,sz,tv,h⟩⟩:=h
   obtain ⟨hs,h⟩:=cond_false h
   simp only [Bool.and_eq_true,Nat.beq_eq,Nat.ble_eq] at hs
   obtain ⟨hf,h⟩:=Bq h
   obtain ⟨ho,h⟩:=Dx h
   exact Eg (ag:=ag) (sz:=sz) hx hy hb hf ho hs.1 hs.2 h
  ·exact h.elim
 ·rename_i hx hy
  split at h
  ·rename_i e sz ver' l hb
   obtain ⟨⟨rfl,hoff⟩,h⟩:=h
   obtain ⟨⟨ag,szT,tv,h⟩⟩:=h
   obtain ⟨hs,h3⟩:=cond_false h
   clear h
   cases ag with
   | true=>cases hs
   | false =>
    have h4:=h3
    clear h3
    cases hcl:H2 _ with
    | false =>
     rw [hcl] at h4
     exact h4.h
    | true =>
     rw [hcl] at h4
     obtain ⟨ho,h⟩:=Bp h4
     obtain ⟨h0,h1,hk⟩:=h
     rename_i k _ _ _
     have hlt:k < l.length:=by omega
     have hel:l[k]? = some l[k]:=List.getElem?_eq_getElem hlt
     have hs2:(Nat.beq szT 1 && R6 e) = true:=hs
     rw [Bool.and_eq_true] at hs2
     exact Eh (szT:=szT) hx hy hb hel hoff (Nat.eq_of_beq_eq_true hs2.1) hcl ho (hk _ (by rw [Int.toNat_natCast];exact hel)) hs2.2
  ·exact h.elim
 ·exact h.elim
theorem Kf {o:Oper} (hg:o.guard = none) (h:Ph P E n ops o rest σ K):B6 P E n ops (o :: rest) σ K:=by
 obtain ⟨dst,op,ty,pos,after,guard⟩:=o
 simp only at hg
 subst hg
 have quiet:∀ {d:Nat} {op:Op},Nat.blt d n = true → w7 P op (D8 σ) σ.hp (fun av=>B6 P E n ops rest (σ.put d av) K) → B6 P E n ops (⟨some d,op,ty,pos,after,none⟩ :: rest) σ K:=by
  intro d op hd h
  obtain ⟨av,hq,h⟩:=Nl (E:=E) (nx:=σ.nx) (ty:=ty) h
  exact GP hq hd h
 unfold Ph at h
 simp only at h
 split at h
 ·rename_i ho
  obtain ⟨hd,h⟩:=cond_false h
  obtain ⟨av,hx,h⟩:=F8 h
  obtain ⟨hf,h⟩:=Bq h
  exact Ln hx hf hd (D2 h)
 ·obtain ⟨hd,h⟩:=cond_false h
  obtain ⟨⟨l,tz,h⟩⟩:=h
  exact JE (l:=l) hd (D2 h)
 ·exact Gs h
 ·obtain ⟨hd,h⟩:=cond_false h
  unfold Nm at h
  split at h
  ·rename_i hx hy
   obtain ⟨⟨e,sz,bs,z,ts,tz,tb,hz,h⟩⟩:=h
   obtain ⟨hek,hq⟩:=cond_false h
   clear h
   obtain ⟨⟨rfl,h0,h1,h2⟩,hq⟩:=hq
   exact KT (e:=e) (z:=z) (by_:=bs) hx hy h0 h1 h2 hz (Nat.blt_eq ▸ hek) hd (D2 hq)
  ·exact h.elim
 ·obtain ⟨hd,h⟩:=cond_false h
  exact Ge hd (D2 h)
 ·unfold Ke at h
  split at h
  ·rename_i hx hy hz
   split at h
   ·rename_i hb hk
    obtain ⟨⟨k,e,t,z,tm,h⟩⟩:=h
    obtain ⟨hc,h⟩:=cond_false h
    simp only [Bool.and_eq_true] at hc
    exact Ej (T:=_) hx hb hy hk hc.1 h.h hz hc.2 h.k
   ·exact h.elim
  ·exact h.elim
 ·split at h
  ·rename_i hys
   obtain ⟨hd,h3⟩:=cond_false h
   clear h
   unfold IV at h3
   split at h3
   ·rename_i hx
    split at h3
    ·rename_i hb
     obtain ⟨rfl,h⟩:=h3
     obtain ⟨⟨e,sz,bs,z,ts,tz,tb,hz,h⟩⟩:=h
     obtain ⟨tu,h⟩:=h
     obtain ⟨hc,h5⟩:=cond_false h
     clear h
     simp only [Bool.and_eq_true,Nat.beq_eq,Nat.blt_eq] at hc
     obtain ⟨⟨⟨⟨rfl,rfl⟩,rfl⟩,rfl⟩,hbe⟩:=hc
     obtain ⟨⟨hlen,h⟩⟩:=h5
     exact Dk hx hb hys hbe hlen hd h
    ·exact h3.elim
   ·rename_i hx
    obtain ⟨⟨e,sz,bs,z,ts,tz,tb,hz,h⟩⟩:=h3
    obtain ⟨tu,h⟩:=h
    obtain ⟨hc,h5⟩:=cond_false h
    clear h
    simp only [Bool.and_eq_true,Nat.beq_eq,Nat.blt_eq] at hc
    obtain ⟨⟨rfl,rfl⟩,hbe⟩:=hc
    obtain ⟨⟨hlen,h⟩⟩:=h5
    exact Bh hx hys hbe hlen hd (D2 h)
   ·exact h3.elim
  rename_i hys
  clear hys
  obtain ⟨hd,h3⟩:=cond_false h
  clear h
  have h:=h3
  clear h3
  simp only [Bool.and_eq_true,Nat.beq_eq] at hd
  obtain ⟨hd,rfl⟩:=hd
  unfold IU at h
  split at h
  ·rename_i hx hy
   split at h
   ·rename_i hb
    obtain ⟨rfl,h⟩:=h
    obtain ⟨⟨e,sz,bs,z,ts,tz,tb,hz,h⟩⟩:=h
    obtain ⟨hc,h3⟩:=cond_false h
    clear h
    simp only [Bool.and_eq_true,Nat.beq_eq,Nat.blt_eq] at hc
    obtain ⟨⟨⟨⟨rfl,rfl⟩,rfl⟩,hpos⟩,hbe⟩:=hc
    obtain ⟨him,h⟩:=h3
    obtain ⟨hlen,h⟩:=h
    exact Dl (z:=z) (by_:=bs) hx hb hy him hz hpos hbe hlen.1 hlen.2 hd h
   ·exact h.elim
  ·rename_i hx hy
   split at h
   ·rename_i hb hb2
    obtain ⟨⟨rfl,rfl⟩,h⟩:=h
    obtain ⟨⟨e,sz,bs,z,ts,tz,tb,hz,h⟩⟩:=h
    obtain ⟨hc,h3⟩:=cond_false h
    clear h
    simp only [Bool.and_eq_true,Nat.beq_eq,Nat.blt_eq] at hc
    obtain ⟨⟨⟨⟨rfl,rfl⟩,rfl⟩,hpos⟩,hbe⟩:=hc
    obtain ⟨him,h⟩:=h3
    obtain ⟨hlen,h⟩:=h
    exact DI (z:=z) (by_:=bs) hx hb hy hb2 him hz hpos hbe hlen.1 hlen.2 hd h
   ·exact h.elim
  ·rename_i hx hy
   obtain ⟨⟨e,sz,bs,z,ts,tz,tb,hz,h⟩⟩:=h
   obtain ⟨hc,h3⟩:=cond_false h
   clear h
   simp only [Bool.and_eq_true,Nat.beq_eq,Nat.blt_eq] at hc
   obtain ⟨⟨rfl,hpos⟩,hbe⟩:=hc
   obtain ⟨him,h⟩:=h3
   obtain ⟨hlen,h⟩:=h
   exact Dm (z:=z) (by_:=bs) hx hy him hz hpos hbe hlen.1 hlen.2 hd (D2 h)
  ·exact h.elim
 ·exact h.h
 ·exact h.h
 ·obtain ⟨hd,h⟩:=cond_false h
  split at h
  ·rename_i l hl
   cases hc:H1 l with
   | true =>
     rw [hc] at h
     obtain ⟨⟨r,hr,h⟩⟩:=h
     rw [List.append_nil] at hr
     exact GP (Ed hr hl hc) hd h
   | false =>
     rw [hc] at h
     exact h.h
  ·exact h.elim
 ·split at h
  ·exact h.h
  ·obtain ⟨hd,h⟩:=cond_false h
   exact quiet hd h
 ·split at h
  ·rename_i ps hps
   cases hc:ps.all fun p=>H2 p.2 with
   | true =>
     rw [hc] at h
     obtain ⟨hd,h⟩:=cond_false h
     exact quiet hd h
   | false =>
     rw [hc] at h
     exact h.h
  ·exact h.elim
 ·split at h
  ·exact h.h
  ·obtain ⟨hd,h⟩:=cond_false h
   exact quiet hd h
 ·exact h.h
 ·obtain ⟨hd,h⟩:=cond_false h
  split at h
  ·rename_i l hl
   cases hc:H1 l with
   | true =>
     rw [hc] at h
     exact quiet hd h
   | false =>
     rw [hc] at h
     exact h.h
  ·exact h.elim
 ·obtain ⟨hd,h⟩:=cond_false h
  exact quiet hd h
 ·exact h.elim
structure I9 (b g:Bool) (A B:Prop):Prop where
 t:b = g → A
 f:b = (!g) → B
theorem MF {A B:Prop} (k:A):I9 true true A B:=⟨fun _=>k,fun h=>by cases h⟩
theorem MG {A B:Prop} (k:A):I9 false false A B:=⟨fun _=>k,fun h=>by cases h⟩
theorem MH {A B:Prop} (k:B):I9 true false A B:=⟨(fun h=>by cases h),fun _=>k⟩
theorem MI {A B:Prop} (k:B):I9 false true A B:=⟨(fun h=>by cases h),fun _=>k⟩
theorem MJ {p A B:Prop} [Decidable p] (h1:p → A) (h2:¬ p → B):I9 (decide p) true A B:=⟨fun h=>h1 (of_decide_eq_true h),fun h=>h2 (of_decide_eq_false h)⟩
theorem MK {p A B:Prop} [Decidable p] (h1:¬ p → A) (h2:p → B):I9 (decide p) false A B:=⟨fun h=>h1 (of_decide_eq_false h),fun h=>h2 (of_decide_eq_true h)⟩
theorem ML {b:Bool} {A B:Prop} (h1:b = true → A) (h2:b = false → B):I9 b true A B:=⟨h1,h2⟩
theorem MM {b:Bool} {A B:Prop} (h1:b = false → A) (h2:b = true → B):I9 b false A B:=⟨h1,h2⟩
theorem Kg {p A B:Prop} [Decidable p] (h1:¬ p → A) (h2:p → B):I9 (!decide p) true A B:=⟨fun h=>h1 (by simpa using h),fun h=>h2 (by simpa using h)⟩
theorem Kh {p A B:Prop} [Decidable p] (h1:p → A) (h2:¬ p → B):I9 (!decide p) false A B:=⟨fun h=>h1 (by simpa using h),fun h=>h2 (by simpa using h)⟩
theorem Ki {b:Bool} {A B:Prop} (h1:b = false → A) (h2:b = true → B):I9 (!b) true A B:=⟨fun h=>h1 (by simpa using h),fun h=>h2 (by simpa using h)⟩
theorem Kj {b:Bool} {A B:Prop} (h1:b = true → A) (h2:b = false → B):I9 (!b) false A B:=⟨fun h=>h1 (by simpa using h),fun h=>h2 (by simpa using h)⟩
def Pi (P:Program) (E:Env) (n:Nat) (ops:Array Oper) (l:List Oper) (σ:St) (K:St → Prop):Prop :=
 match l with
 | []=>K σ
 | ⟨dst,op,ty,pos,after,none⟩ :: rest=>Ph P E n ops ⟨dst,op,ty,pos,after,none⟩ rest σ K
 | ⟨some dd,op,ty,pos,after,some (j,g)⟩ :: rest=>match (ops[j]?).bind (·.dst) with
   | some dj=>cond (Nat.blt dd n) (match look σ.sl dj with
     | some (.v (.bool b))=>I9 b g (B6 P E n ops (⟨some dd,op,ty,pos,after,none⟩ :: rest) (σ.put dj (.v (.bool g))) K)
       (B6 P E n ops rest ((σ.put dj (.v (.bool !g))).put dd (.v undef)) K)
     | some (.v (.tuple t))=>B6 P E n ops rest (σ.put dd (.v undef)) K
     | _=>False) False
   | none=>False
 | ⟨none,_,_,_,_,some _⟩ :: _=>False
theorem A5 {l:List Oper} (h:Pi P E n ops l σ K):B6 P E n ops l σ K:=by
 unfold Pi at h
 split at h
 ·exact Le h
 ·exact Kf rfl h
 ·split at h
  ·rename_i dj hj
   obtain ⟨hdd,h⟩:=cond_false h
   split at h
   ·rename_i b hb
    exact GM hj hb hdd h.t h.f
   ·rename_i t hb
    exact BO hj hb rfl hdd h
   ·exact h.elim
  ·exact h.elim
 ·exact h.elim
structure Nn (P:Program) (E:Env) (n:Nat) (c:Code) (σ:St) (Q:Exit → St → Prop):Prop where
 h:E4 P E n (.loop c) σ Q
structure k5 (P:Program) (E:Env) (n:Nat) (id:Nat) (ops:Array Oper) (σ:St) (Q:Exit → St → Prop):Prop where
 h:E4 P E n (.region id ops true) σ Q
def JQ (P:Program) (E:Env) (n:Nat) (c:Code) (σ:St) (Q:Exit → St → Prop):Prop :=
 match c with
 | .seq a b=>E4 P E n a σ (GA (fun σ'=>E4 P E n b σ' Q) Q)
 | .region _ ops false=>B6 P E n ops ops.toList σ (fun σ'=>Q .normal σ')
 | .region id ops true=>k5 P E n id ops σ Q
 | .skip=>Q .normal σ
 | .ret=>Q .ret σ
 | .exit i=>Q (.exit i) σ
 | .block id c=>E4 P E n c σ (DX id Q)
 | .cond (.tmp t) a b=>match look σ.sl t with
   | some (.v (.bool c))=>W4 c (E4 P E n a (σ.put t (.v (.bool true))) Q) (E4 P E n b (σ.put t (.v (.bool false))) Q)
   | _=>False
 | .cond (.const (.bool true)) a b=>E4 P E n a σ Q
 | .cond (.const (.bool false)) a b=>E4 P E n b σ Q
 | .loop c=>Nn P E n c σ Q
 | _=>False
theorem Kk {c:Code} (h:JQ P E n c σ Q):E4 P E n c σ Q:=by
 unfold JQ at h
 split at h
 ·exact OC h
 ·exact Iu rfl h
 ·exact h.h
 ·exact Lf h
 ·exact OD h
 ·exact Lg h
 ·exact KD h
 ·split at h
  ·rename_i hc;exact Ix hc h.t h.f
  ·exact h.elim
 ·exact Iv rfl h
 ·exact Iw rfl h
 ·exact h.h
 ·exact h.elim
theorem D7 {ι:Type} {c:Code} (S:ι → St) (I:ι → Prop) (m:ι → Nat) (x0:ι) (hI:I x0) (h0:St.le E n σ (S x0))
  (h:∀ x,I x → E4 P E n c (S x) (GA (fun σ'=>∃ y,I y ∧ m y < m x ∧ St.le E n σ' (S y)) Q)):Nn P E n c σ Q:=⟨Lh S I m x0 hI h0 h⟩
end rules
end Go.Av
