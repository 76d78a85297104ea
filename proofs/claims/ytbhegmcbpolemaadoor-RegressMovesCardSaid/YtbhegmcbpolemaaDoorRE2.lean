/- Maps, tuples, closures, parts of strings and of rows. States that say less; freezing; what a function does. One rule for every operation: what is left to prove is reckoned by unfolding. The walk: operations that make or write memory, code, and what a function does. -/
import Derived.Test.YtbhegmcbpolemaaDoorRE1
set_option linter.unusedSimpArgs false
set_option linter.unusedVariables false
set_option linter.unnecessarySimpa false
namespace Go.Av
open Go Go.RowKit
class Ap (P:Program) (T:Nat) (k e:outParam Nat) (t:outParam TypeDesc) (z:outParam Value):Prop where
 out:P.underlying T = some (.map k e) ∧ P.underlying k = some t ∧ (P.info? e).bind (·.zero) = some z
section rules
variable {P:Program} {E:Env} {n nx:Nat} {hp:Hp} {ev:Operand → Option AV} {ops:Array Oper} {rest:List Oper} {σ:St} {K:St → Prop} {Q:Exit → St → Prop}
variable {d:Nat} {ty:TypeId} {pos:String} {after:Array Edge} {x y z:Operand}
def p8 (t:TypeDesc) (m:List (Key × AV)):Prop:=∀ p ∈ m,n7 t p.1 = true
theorem P9.map {θ:Th} {a:Act} {w:World} (h:P9 E θ nx hp ev a w) {i:Nat} {m:List (Key × AV)} (hb:A4 hp i = some (.map m)) :
  ∃ r es clock,θ i = .map (some r) ∧ w.heap[r]? = some (.map es clock) ∧ es.size = m.length ∧
   ∀ (j:Nat) (q:Key × AV) e,m[j]? = some q → es[j]? = some e → e.key = q.1.val ∧ Im (kx E θ nx hp w).U w q.2 e.val:=(h.owns i _ hb).2
theorem run_findKey {kt:TypeId} {t:TypeDesc} {k:Key} (ht:P.underlying kt = some t) {es:List MapEntry} {q:Option (Nat × Value)} (hq:Instr.findNow t k.val es 0 = some q) (w:World):(Instr.findKey kt k.val es).run P w = .ok q w:=by
 simp [Instr.findKey,Sem.run_bind,run_underlying ht,hq,Sem.run_pure]
def Aq (m:List (Key × AV)) (k:Key) (d:AV):AV:=match m8 m k with
 | some v=>v
 | none=>d
theorem Dr {T kt e:Nat} {t:TypeDesc} {zv:Value} [tm:Ap P T kt e t zv] {θ:Th} {a:Act} {w:World} (h:P9 E θ nx hp ev a w) {i:Nat} {m:List (Key × AV)} {kav:AV} {k:Key} (hx:ev x = some (.mp i)) (hb:A4 hp i = some (.map m)) (hy:ev y = some kav) (hk:keyOf kav = some k) (hkk:n7 t k = true) (hm:p8 t m) (ok:Bool) :
  ∃ v,(Instr.lookup T (a.eval x) (a.eval y) ok).run P w = .ok (if ok then .tuple #[v, .bool (m8 m k).isSome] else v) w ∧ C7 (kx E θ nx hp w) (Aq m k (R0 zv)) v:=by
 obtain ⟨hu,ht,hz⟩:=tm.out
 obtain ⟨r,es,clock,hθ,hr,hsz,hes⟩:=h.map hb
 obtain ⟨hv,hnx⟩:=Ki (h.rel hx)
 have hv':a.eval x = .map (some r):=by rw [hv];exact hθ
 have hky:=FG hk (h.rel hy)
 have hkind:=n8 hkk
 obtain ⟨q,hq,hspec⟩:=findNow_spec (t:=t) hkind m es.toList 0 (by simpa using hsz) (fun p hp=>n8 (hm p hp)) (fun j p e hj he=>(hes j p e hj (by simpa using he)).1)
 have hidx:=MQ (m:=m) (k:=k)
 simp only [Instr.lookup,Sem.run_bind,run_underlying hu,Result.andThen_ok,hv',hky,MapKept.run_getObj_map hr,Sem.run_pure,X1 ht hkind,run_findKey ht hq]
 cases hf:m.findIdx? (fun p=>decide (p.1 = k)) with
 | none =>
   rw [hf] at hspec hidx
   subst hspec
   simp only at hidx
   cases hi:P.info? e with
   | none=>rw [hi] at hz;simp at hz
   | some inf =>
     rw [hi] at hz
     simp only [Sem.run_bind,R9 hi (by simpa using hz),Result.andThen_ok,Sem.run_pure,hidx]
     refine ⟨zv,by cases ok <;> rfl,?_⟩
     simp only [Aq,hidx]
     exact .im (Bg zv)
 | some j =>
   rw [hf] at hspec hidx
   obtain ⟨e,he,rfl⟩:=hspec
   obtain ⟨p,hp1,hp2,hp3⟩:=hidx
   simp only [Sem.run_pure,Result.andThen_ok,hp3]
   refine ⟨e.val,by cases ok <;> rfl,?_⟩
   simp only [Aq,hp3]
   exact .im (hes j p e hp1 (by simpa using he)).2
theorem MR {T kt e:Nat} {t:TypeDesc} {zv:Value} [tm:Ap P T kt e t zv] {i:Nat} {m:List (Key × AV)} {kav:AV} {k:Key} (hx:ev x = some (.mp i)) (hb:A4 hp i = some (.map m)) (hy:ev y = some kav) (hk:keyOf kav = some k) (hkk:n7 t k = true) (hm:p8 t m) :
  D5 P E nx hp ev (.lookup T x y false) ty (Aq m k (R0 zv)) :=
 C5 fun _ _ _ θ a w h=>by
  obtain ⟨v,h1,h2⟩:=Dr (P:=P) (T:=T) h hx hb hy hk hkk hm false
  exact ⟨v,by simp only [execOp,Sem.run_bind,h1,Result.andThen_ok,Sem.run_pure];rfl,h2⟩
theorem Hr {T kt e:Nat} {t:TypeDesc} {zv:Value} [tm:Ap P T kt e t zv] {i:Nat} {m:List (Key × AV)} {kav:AV} {k:Key} (hx:ev x = some (.mp i)) (hb:A4 hp i = some (.map m)) (hy:ev y = some kav) (hk:keyOf kav = some k) (hkk:n7 t k = true) (hm:p8 t m) :
  D5 P E nx hp ev (.lookup T x y true) ty (.tup [Aq m k (R0 zv), .b (m8 m k).isSome]) :=
 C5 fun _ _ _ θ a w h=>by
  obtain ⟨v,h1,h2⟩:=Dr (P:=P) (T:=T) h hx hb hy hk hkk hm true
  refine ⟨.tuple #[v, .bool (m8 m k).isSome],by simp only [execOp,Sem.run_bind,h1,Result.andThen_ok,Sem.run_pure];rfl,?_⟩
  exact .tup [_,_] [v, .bool (m8 m k).isSome] rfl fun j u z hu hz=>by
   match j,hu,hz with
   | 0,hu,hz=>cases hu;cases hz;exact h2
   | 1,hu,hz=>cases hu;cases hz;exact .im (.v _)
theorem Ge (k:Key) (m:Nat):Instr.sameBits m k.val k.val = true:=by
 cases k with
 | s l =>
   simp only [Key.val,Instr.sameBits]
   show (l.toArray == l.toArray) = true
   simp
 | i k n=>simp [Key.val,Instr.sameBits]
theorem FH {k:Key} {v:AV}:∀ (m:List (Key × AV)),(match m.findIdx? (fun p=>decide (p.1 = k)) with
   | none=>AO m k v = m ++ [(k,v)]
   | some j=>AO m k v = m.set j (k,v))
 | []=>rfl
 | (k',v') :: r=>by
   rw [List.findIdx?_cons]
   by_cases e:k' = k
   ·simp only [e,decide_true,if_true]
    simp [AO]
   ·simp only [e,decide_false]
    have ih:=FH (k:=k) (v:=v) r
    cases hf:r.findIdx? (fun p=>decide (p.1 = k)) with
    | none=>rw [hf] at ih;simp [AO,e];exact ih
    | some j=>rw [hf] at ih;simp [AO,e];exact ih
theorem Eh {T kt e:Nat} {t:TypeDesc} {zv:Value} [tm:Ap P T kt e t zv] {i:Nat} {m:List (Key × AV)} {kav av:AV} {k:Key} (hx:D3 σ x = some (.mp i)) (hb:A4 σ.hp i = some (.map m)) (hy:D3 σ y = some kav) (hk:keyOf kav = some k) (hkk:n7 t k = true) (hm:p8 t m) (hz:D3 σ z = some av) (hcl:H7 av = true)
  (kk:B3 P E n ops rest (σ.set i (.map (AO m k av))) K):B3 P E n ops (⟨none, .mapUpdate T x y z,ty,pos,after,none⟩ :: rest) σ K :=
 Bl hb (fun θ a w h=>by
  obtain ⟨hu,ht,_⟩:=tm.out
  obtain ⟨r,es,clock,hθ,hr,hsz,hes⟩:=h.map hb
  obtain ⟨hv,hnx⟩:=Ki (h.rel hx)
  have hv':a.eval x = .map (some r):=by rw [hv];exact hθ
  have hky:=FG hk (h.rel hy)
  have hkind:=n8 hkk
  obtain ⟨q,hq,hspec⟩:=findNow_spec (t:=t) hkind m es.toList 0 (by simpa using hsz) (fun p hp=>n8 (hm p hp)) (fun j p e hj he=>(hes j p e hj (by simpa using he)).1)
  have hset:=FH (k:=k) (v:=av) m
  have hlt:r < w.heap.size:=(Array.getElem?_eq_some_iff.1 hr).1
  have hfin:∃ es' clock',(Instr.mapUpdate T (a.eval x) (a.eval y) (a.eval z)).run P w = .ok () { w with heap:=w.heap.setIfInBounds r (.map es' clock') } ∧ es'.size = (AO m k av).length ∧
    ∀ (j:Nat) (q:Key × AV) e,(AO m k av)[j]? = some q → es'[j]? = some e → e.key = q.1.val ∧ Im (kx E θ σ.nx σ.hp w).U w q.2 e.val:=by
   have himv:=(Q1 hcl).im (h.rel hz)
   cases hf:m.findIdx? (fun p=>decide (p.1 = k)) with
   | none =>
     rw [hf] at hspec hset
     subst hspec
     refine ⟨es.push { key:=k.val,val:=a.eval z,born:=clock },clock + 1,?_,by simp only [hset];simp [hsz],fun j q e hj he=>?_⟩
     ·simp only [Instr.mapUpdate,Sem.run_bind,run_underlying hu,Result.andThen_ok,hv',hky,MapKept.run_getObj_map hr,Sem.run_pure,X1 ht hkind,run_findKey ht hq,MapKept.run_setObj_map _ hr]
     ·simp only [hset] at hj
      rw [Array.getElem?_push] at he
      rw [List.getElem?_append] at hj
      split at hj
      ·rename_i hlt2
       rw [if_neg (by omega)] at he
       exact hes j q e hj he
      ·rename_i hge
       have:j = m.length:=by
        rcases Nat.lt_or_ge m.length j with h1 | h1
        ·rw [List.getElem?_eq_none (by simp;omega)] at hj;cases hj
        ·omega
       subst this
       rw [if_pos (by omega)] at he
       cases he
       simp at hj
       subst hj
       exact ⟨rfl,himv⟩
   | some j0 =>
     rw [hf] at hspec hset
     obtain ⟨e0,he0,rfl⟩:=hspec
     have hj0:j0 < m.length:=by
      have:=(List.getElem?_eq_some_iff.1 he0).1
      simp at this
      omega
     have hmj:m[j0]? = some m[j0]:=List.getElem?_eq_getElem hj0
     have hkeq:m[j0].1 = k:=by
      have:=List.findIdx?_eq_some_iff_getElem.1 hf
      exact of_decide_eq_true this.2.1
     have hek:e0.key = k.val:=by rw [(hes j0 _ e0 hmj (by simpa using he0)).1,hkeq]
     refine ⟨es.modify j0 fun e=>{ e with key:=k.val,val:=a.eval z },clock,?_,by simp only [hset];simp [hsz],fun j q e hj he=>?_⟩
     ·have he0':es[j0]? = some e0:=by simpa using he0
      simp only [Instr.mapUpdate,Sem.run_bind,run_underlying hu,Result.andThen_ok,hv',hky,MapKept.run_getObj_map hr,Sem.run_pure,X1 ht hkind,run_findKey ht hq,Nat.zero_add,he0',Option.map_some,Option.getD_some,Instr.keyThatStays,hek,Ge,if_true,MapKept.run_setObj_map _ hr]
     ·simp only [hset] at hj
      rw [Array.getElem?_modify] at he
      rw [List.getElem?_set] at hj
      by_cases ej:j0 = j
      ·subst ej
       rw [if_pos rfl] at he hj
       rw [if_pos hj0] at hj
       cases hj
       cases hh:es[j0]? with
       | none=>rw [hh] at he;simp at he
       | some e1=>rw [hh] at he;simp at he;subst he;exact ⟨rfl,himv⟩
      ·rw [if_neg ej] at he hj
       exact hes j q e hj he
  obtain ⟨es',clock',hrun,hsz',hes'⟩:=hfin
  refine ⟨{ w with heap:=w.heap.setIfInBounds r (.map es' clock') },by simp only [execOp,Sem.run_bind,hrun,Result.andThen_ok,Sem.run_pure],rfl,rfl,rfl,by simp,fun k hk=>?_,rfl,fun le=>?_⟩
  ·have:k ≠ r:=by intro e;subst e;exact hk (by rw [hθ];rfl)
   simp [Array.getElem?_setIfInBounds_ne (Ne.symm this)]
  ·refine ⟨r,es',clock',by simp [cx,D0,hθ],by simp [cx,hlt],hsz',fun j q e hj he=>⟨(hes' j q e hj he).1,((hes' j q e hj he).2.mono le.heap le.U)⟩⟩) kk
theorem FI {l:List AV} {av:AV} {k:Nat} (hx:ev x = some (.tup l)) (hk:l[k]? = some av):D5 P E nx hp ev (.extract x k) ty av :=
 C5 fun _ _ _ θ a w h=>by
  have:∃ cs:List Value,a.eval x = .tuple cs.toArray ∧ l.length = cs.length ∧ ∀ (j:Nat) u z,l[j]? = some u → cs[j]? = some z → C7 (kx E θ nx hp w) u z:=by
   have r:=h.rel hx
   generalize a.eval x = v at r
   cases r with
   | im hi=>cases hi with | tup l cs hl hc=>exact ⟨cs,rfl,hl,fun j u z hu hz=>.im (hc j u z hu hz)⟩
   | tup l cs hl hc=>exact ⟨cs,rfl,hl,hc⟩
  obtain ⟨cs,hv,hl,hr⟩:=this
  have hlt:k < cs.length:=by rw [← hl];exact (List.getElem?_eq_some_iff.1 hk).1
  have hc:cs[k]? = some cs[k]:=List.getElem?_eq_getElem hlt
  refine ⟨cs[k],?_,hr k av _ hk hc⟩
  simp only [execOp,hv,Instr.extract]
  simp [hc,Sem.run_bind,Sem.run_pure]
theorem Gf {f:Nat} {xs:List Operand} {caps:List AV} (ha:P7 ev xs = some caps) (hf:f < Bf):D5 P E nx hp ev (.makeFunc (.func f) #[] xs.toArray) ty (.fo f caps) :=
 C5 fun _ _ _ θ a w h=>by
  obtain ⟨hl,hr⟩:=W9 h xs caps ha
  exact ⟨.func (.func f) #[] (xs.map a.eval).toArray,by simp [execOp,Instr.makeFunc,Sem.run_bind,Sem.run_pure],by
   have:=C7.fo (c:=kx E θ nx hp w) f caps (xs.map a.eval) (by simp [hl]) fun j u z hu hz=>hr j u z hu hz
   unfold IL at this
   rwa [if_pos hf] at this⟩
theorem JV {f:Nat} {xs:List Operand} {caps:List AV} (ha:P7 ev xs = some caps) (hcl:G9 caps = true):D5 P E nx hp ev (.makeFunc (.func f) #[] xs.toArray) ty (.fn f caps) :=
 C5 fun _ _ _ θ a w h=>by
  obtain ⟨hl,hr⟩:=W9 h xs caps ha
  refine ⟨.func (.func f) #[] (xs.map a.eval).toArray,by simp [execOp,Instr.makeFunc,Sem.run_bind,Sem.run_pure], .im (.fn f caps _ (by simp [hl]) fun j u z hu hz=>?_)⟩
  exact (L0 hcl u (List.mem_of_getElem? hu)).im (hr j u z hu hz)
theorem Hs (l:List UInt8) (i j:Nat):((⟨l.toArray⟩:ByteArray).extract i j) = ⟨((l.take j).drop i).toArray⟩:=by
 apply ByteArray.ext
 simp [ByteArray.data_extract]
 rw [List.drop_take]
def V6 (ev:Operand → Option AV) (dflt:Nat):Option Operand → Option Int
 | none=>some dflt
 | some x=>match ev x with
   | some (.v (.int _ i))=>some i
   | _=>none
theorem x7 {k:IntKind} {i:Int} {m:Nat} (h0:0 ≤ i) (h1:i ≤ m) (c:BoundsCode) (w:World):(Instr.sliceBound (.int k i) m c).run P w = .ok i.toNat w:=by
 simp [Instr.sliceBound,asIntOf,Sem.run_bind,Sem.run_pure,h0,h1]
theorem Ar {isS:Bool} {len cap:Nat} {lo hi:Option Operand} {l h:Int} {θ:Th} {a:Act} {w:World} (hev:P9 E θ nx hp ev a w) (hl:V6 ev 0 lo = some l) (hh:V6 ev len hi = some h) (h0:0 ≤ l) (h1:l ≤ h) (h2:h ≤ cap) :
  (Instr.sliceBounds isS len cap (lo.map a.eval) (hi.map a.eval) none).run P w = .ok (l.toNat,h.toNat,cap) w:=by
 have hb:∀ (o:Option Operand) (df:Nat) (i:Int),V6 ev df o = some i → (o = none ∧ i = df) ∨ ∃ y k,o = some y ∧ a.eval y = .int k i:=by
  intro o df i ho
  cases o with
  | none=>exact .inl ⟨rfl,by simp [V6] at ho;exact ho.symm⟩
  | some y =>
    simp only [V6] at ho
    split at ho
    ·rename_i k j hj
     cases ho
     exact .inr ⟨y,k,rfl,(hev.rel hj).val⟩
    ·cases ho
 have h3:0 ≤ h:=by omega
 rcases hb lo 0 l hl with ⟨rfl,rfl⟩ | ⟨yl,kl,rfl,hyl⟩ <;> rcases hb hi len h hh with ⟨rfl,rfl⟩ | ⟨yh,kh,rfl,hyh⟩
 ·simp [Instr.sliceBounds,Sem.run_bind,Sem.run_pure]
 ·simp only [Instr.sliceBounds,Option.map_none,Option.map_some,Sem.run_bind,Sem.run_pure,Result.andThen_ok,hyh,x7 h3 h2]
  rfl
 ·simp only [Instr.sliceBounds,Option.map_none,Option.map_some,Sem.run_bind,Sem.run_pure,Result.andThen_ok,hyl,x7 h0 h1]
  rfl
 ·have h4:l ≤ (h.toNat:Int):=by omega
  simp only [Instr.sliceBounds,Option.map_some,Sem.run_bind,Sem.run_pure,Result.andThen_ok,hyl,hyh,x7 h3 h2,x7 h0 h4]
theorem Cr {T:Nat} [ts:O0 P T] {s:List UInt8} {lo hi:Option Operand} {l h:Int} (hx:ev x = some (.str s)) (hl:V6 ev 0 lo = some l) (hh:V6 ev s.length hi = some h) (h0:0 ≤ l) (h1:l ≤ h) (h2:h ≤ s.length) :
  D5 P E nx hp ev (.slice T x lo hi none) ty (.str ((s.take h.toNat).drop l.toNat)) :=
 C5 fun _ _ _ θ a w hs=>by
  have hv:=(hs.rel hx).sval
  refine ⟨.string ⟨((s.take h.toNat).drop l.toNat).toArray⟩,?_, .im (.str _)⟩
  have hb:=Ar (P:=P) (isS:=false) (cap:=s.length) hs hl hh h0 h1 h2
  have hsz:(ByteArray.mk s.toArray).size = s.length:=rfl
  simp only [execOp,hv,Instr.sliceAt,Instr.slice,Sem.run_bind,run_underlying ts.out,Result.andThen_ok,Option.isSome_none,Option.map_none,hsz,Bool.false_eq_true,if_false,hb,Hs,Sem.run_pure]
theorem JW {T e sz:Nat} [ts:J7 P T e sz] {s:List (List AV)} {lo hi:Option Operand} {l h:Int} (hx:ev x = some (.sl sz s)) (hl:V6 ev 0 lo = some l) (hh:V6 ev s.length hi = some h) (h0:0 ≤ l) (h1:l ≤ h) (h2:h ≤ s.length) :
  D5 P E nx hp ev (.slice T x lo hi none) ty (.sl sz ((s.take h.toNat).drop l.toNat)) :=
 C5 fun _ _ _ θ a w hs=>by
  obtain ⟨hu,inf,hi2,hsz⟩:=ts.out
  have hlen:((s.take h.toNat).drop l.toNat).length = h.toNat - l.toNat:=by rw [List.length_drop,List.length_take];omega
  rcases s6 (hs.rel hx) with ⟨hv,e⟩ | ⟨p,cap,f,hv,h3,h4,h5,h6,h7,h8⟩
  ·subst e
   have hb:=Ar (P:=P) (isS:=true) (cap:=0) hs hl hh h0 h1 (by simpa using h2)
   have e1:h = 0:=by simp at h2;omega
   have e2:l = 0:=by omega
   subst e1;subst e2
   refine ⟨.slice none 0 0,?_, .im (.slnil sz)⟩
   simp only [List.length_nil] at hb
   simp only [execOp,hv,Instr.sliceAt,Instr.slice,Sem.run_bind,run_underlying hu,Result.andThen_ok,Option.map_none,hb,Sem.run_pure,sizeOf,typeInfo,program,Sem.run,hi2]
   rfl
  ·have hb:=Ar (P:=P) (isS:=true) (cap:=cap) hs hl hh h0 h1 (by omega)
   refine ⟨.slice (some (if cap = l.toNat then p else p.add (l.toNat * sz))) (h.toNat - l.toNat) (cap - l.toNat),?_,?_⟩
   ·simp only [execOp,hv,Instr.sliceAt,Instr.slice,Sem.run_bind,run_underlying hu,Result.andThen_ok,Option.map_none,hb,Sem.run_pure,sizeOf,typeInfo,program,Sem.run,hi2,hsz]
    split <;> rfl
   ·rw [← hlen]
    have hget:∀ (i:Nat) el,((s.take h.toNat).drop l.toNat)[i]? = some el → s[l.toNat + i]? = some el ∧ l.toNat + i < s.length ∧ l.toNat ≠ cap:=by
     intro i el hi
     rw [List.getElem?_drop,List.getElem?_take] at hi
     split at hi
     ·have:=(List.getElem?_eq_some_iff.1 hi).1
      exact ⟨hi,this,by omega⟩
     ·cases hi
    refine .im (.sl sz _ _ _ (fun i j=>f (l.toNat + i) j) (by rw [hlen];omega) (by omega) (fun hne hs0=>?_) (fun el hel=>?_) (fun i hi j hj=>?_) (fun i el hi j u hu=>?_))
    ·have:s ≠ []:=by intro e;subst e;simp at hne
     split
     ·exact h5 this hs0
     ·rw [N1];exact h5 this hs0
    ·exact h6 el (List.mem_of_mem_take (List.mem_of_mem_drop hel))
    ·have hg:=hget i _ (List.getElem?_eq_getElem hi)
     rw [if_neg (fun e=>hg.2.2 e.symm),j6]
     have:=h7 (l.toNat + i) hg.2.1 j hj
     rw [Nat.add_mul,Nat.add_assoc] at this
     exact this
    ·have hg:=hget i _ hi
     exact h8 _ _ hg.1 j u hu
end rules
def CR (h h':Hp) (i v len:Nat):AV :=
 match A4 h i with
 | some (.row _ sz v1 l)=>cond (Nat.beq v v1) (match A4 h' i with
   | some (.row _ _ v2 _)=>.row i v2 len
   | _=>.sl sz l) .any
 | _=>.any
def CS (h h':Hp) (i v k off:Nat):AV :=
 match A4 h i with
 | some (.row _ sz v1 l)=>cond (Nat.beq v v1) (match A4 h' i with
   | some (.row _ _ v2 _)=>.elt i v2 k off
   | _=>match l[k]? with
     | some el=>.iptr (el.drop off)
     | none=>.any) .any
 | _=>.any
def CT (h h':Hp) (i v lo len:Nat):AV :=
 match A4 h i with
 | some (.row _ sz v1 l)=>cond (Nat.beq v v1) (match A4 h' i with
   | some (.row _ _ v2 _)=>.sub i v2 lo len
   | _=>.sl sz ((l.take (lo + len)).drop lo)) .any
 | _=>.any
def Ds (h h':Hp) (i off:Nat):AV :=
 match A4 h i with
 | some (.bx _ l)=>match A4 h' i with
   | some _=>.ref i off
   | none=>cond (G9 l) (.iptr (l.drop off)) (.ref i off)
 | _=>.ref i off
mutual
def F8 (h h':Hp):AV → AV
 | .row i v len=>CR h h' i v len
 | .elt i v k off=>CS h h' i v k off
 | .sub i v lo len=>CT h h' i v lo len
 | .ref i off=>Ds h h' i off
 | .agg l=>.agg (W1 h h' l)
 | .tup l=>.tup (W1 h h' l)
 | .fo f l=>.fo f (W1 h h' l)
 | x=>x
def W1 (h h':Hp):List AV → List AV
 | []=>[]
 | x :: r=>F8 h h' x :: W1 h h' r
end
theorem J6 (h h':Hp):∀ l,W1 h h' l = l.map (F8 h h')
 | []=>by simp [W1]
 | x :: r=>by simp [W1,J6 h h' r]
def x8 (h h':Hp):E3 → E3 → Prop
 | .bx τ l,b=>b = .bx τ (W1 h h' l)
 | .row e sz _ l,b=>∃ v,b = .row e sz v l
 | .map m,b=>b = .map m
 | .it s p,b=>b = .it s p
mutual
def M4 (m:Nat):AV → Bool
 | .ref i _=>Nat.blt i m
 | .row i _ _=>Nat.blt i m
 | .mp i=>Nat.blt i m
 | .elt i _ _ _=>Nat.blt i m
 | .sub i _ _ _=>Nat.blt i m
 | .agg l=>M9 m l
 | .tup l=>M9 m l
 | .fo _ l=>M9 m l
 | _=>true
def M9 (m:Nat):List AV → Bool
 | []=>true
 | x :: r=>M4 m x && M9 m r
end
theorem T7 {m:Nat}:∀ {l:List AV},M9 m l = true → ∀ x ∈ l,M4 m x = true
 | [],_,x,hx=>by cases hx
 | y :: r,h,x,hx=>by
   simp only [M9,Bool.and_eq_true] at h
   rcases List.mem_cons.1 hx with rfl | hx
   ·exact h.1
   ·exact T7 h.2 x hx
structure Cx.sub (c c':Cx):Prop where
 θ:c'.θ = c.θ
 w:c'.w = c.w
 X:∀ k,c'.X k → c.X k
 blk:∀ i b',A4 c'.hp i = some b' → ∃ b,A4 c.hp i = some b ∧ x8 c.hp c'.hp b b'
 apart:∀ i j b b' k,A4 c.hp i = some b → A4 c.hp j = some b' → FP c.θ i b k → FP c.θ j b' k → i = j
 fresh:∀ i b k,A4 c.hp i = some b → FP c.θ i b k → ¬ c.X k
 owns:∀ i b,A4 c.hp i = some b → K1 c i b
theorem MS {h h':Hp} {b b':E3} (e:x8 h h' b b'):L4 b' = L4 b:=by
 cases b with
 | bx τ l=>simp only [x8] at e;subst e;rfl
 | row e1 sz v l=>obtain ⟨v2,rfl⟩:=e;rfl
 | map m=>simp only [x8] at e;subst e;rfl
 | it s p=>simp only [x8] at e;subst e;rfl
theorem FP.cv {θ:Th} {i k:Nat} {h h':Hp} {b b':E3} (e:x8 h h' b b') (f:FP θ i b' k):FP θ i b k:=by
 unfold FP at f ⊢
 rwa [MS e] at f
theorem Cx.sub.U {c c':Cx} (h:c.sub c'):∀ k,c'.U k → c.U k:=by
 rintro k (hk | ⟨i,b,hi,hk⟩)
 ·exact .inl (h.X k hk)
 ·obtain ⟨b0,hb0,hcv⟩:=h.blk i b hi
  exact .inr ⟨i,b0,hb0,FP.cv hcv (by rw [← h.θ];exact hk)⟩
theorem Cx.sub.notU {c c':Cx} (h:c.sub c') {i:Nat} {b:E3} (hi:A4 c.hp i = some b) (hn:A4 c'.hp i = none) {k:Nat} (hk:FP c.θ i b k):¬ c'.U k:=by
 rintro (hx | ⟨j,b',hj,hk'⟩)
 ·exact h.fresh i b k hi hk (h.X k hx)
 ·obtain ⟨b0,hb0,hcv⟩:=h.blk j b' hj
  have:=h.apart i j b b0 k hi hb0 hk (FP.cv hcv (by rw [← h.θ];exact hk'))
  subst this
  rw [hn] at hj
  cases hj
theorem Cx.sub.im {c c':Cx} (h:c.sub c') {a:AV} {x:Value} (hi:Im c.U c.w a x):Im c'.U c'.w a x:=hi.mono (fun k _ _=>by rw [h.w]) fun k _ hu=>h.U k hu
theorem As {c c':Cx} (h:c.sub c') {i e sz v:Nat} {l:List (List AV)} (hi:A4 c.hp i = some (.row e sz v l)) (hn:A4 c'.hp i = none):Im c'.U c'.w (.sl sz l) (c.θ i):=by
 obtain ⟨xs,hown,hsz,hr,_⟩:=h.owns i _ hi
 rcases hown.2 with ⟨hv,hn0⟩ | ⟨g,cap,cur,hv,_,hg,hc,hm,hlen,hx⟩
 ·have:l = []:=List.eq_nil_of_length_eq_zero hn0
  subst this
  rw [hv]
  exact .slnil sz
 ·have hown':=hown
  rw [hv] at hown'
  rw [hv]
  have hnu:¬ c'.U g:=h.notU hi hn (.inl (by rw [hv];rfl))
  have hget:∀ i,i < l.length → ∀ j,j < sz → ∃ y,xs[i * sz + j]? = some y:=by
   intro i hi j hj
   have h1:(i + 1) * sz ≤ l.length * sz:=Nat.mul_le_mul_right _ hi
   rw [Nat.add_mul,Nat.one_mul] at h1
   have h2:i * sz + j < xs.length:=by rw [hown.1];omega
   exact ⟨_,List.getElem?_eq_getElem h2⟩
  refine .sl sz l ⟨g,0,none⟩ cap (fun i j=>xs.getD (i * sz + j) undef) hc hm (fun _ _=>hnu) hsz (fun i hi j hj=>?_) (fun k el hk j x hx=>?_)
  ·obtain ⟨y,hy⟩:=hget i hi j hj
   have:=hown'.cells (g:=g) rfl _ _ hy
   rw [E7,h.w]
   have e:xs.getD (i * sz + j) undef = y:=by rw [List.getD,hy];rfl
   rw [e]
   simpa [E7] using this
  ·obtain ⟨y,hy,him⟩:=hr k el hk j x hx
   have e:xs.getD (k * sz + j) undef = y:=by rw [List.getD,hy];rfl
   rw [e]
   exact h.im him
theorem Po {U:Nat → Prop} {w:World} {sz lo len:Nat} {l:List (List AV)} {v x:Value} (h:Im U w (.sl sz l) v) (hs:Pj v sz lo len x) (hl:lo + len ≤ l.length):Im U w (.sl sz ((l.take (lo + len)).drop lo)) x:=by
 have hlen:((l.take (lo + len)).drop lo).length = len:=by rw [List.length_drop,List.length_take];omega
 rcases hs with ⟨rfl,rfl,rfl,rfl⟩ | ⟨g,n,cap,rfl,rfl⟩
 ·have:(l.take (0 + 0)).drop 0 = []:=by simp
  rw [this];exact .slnil sz
 ·cases h with
  | sl sz l a cap f hcap hm hu hsz hc h =>
    have hget:∀ (i:Nat) el,((l.take (lo + len)).drop lo)[i]? = some el → l[lo + i]? = some el ∧ lo + i < l.length ∧ cap ≠ lo:=by
     intro i el hi
     rw [List.getElem?_drop,List.getElem?_take] at hi
     split at hi
     ·have:=(List.getElem?_eq_some_iff.1 hi).1
      exact ⟨hi,this,by omega⟩
     ·cases hi
    have key:∀ p:Addr,p = (if cap = lo then ⟨g,0,none⟩ else ⟨g,lo * sz,none⟩) → Im U w (.sl sz ((l.take (lo + len)).drop lo)) (.slice (some p) ((l.take (lo + len)).drop lo).length (cap - lo)):=fun p hp=>by
     refine .sl sz _ p _ (fun i j=>f (lo + i) j) (by rw [hlen];omega) (by omega) (fun hne hs0=>?_) (fun el hel=>?_) (fun i hi j hj=>?_) (fun i el hi j u hu=>?_)
     ·have:l ≠ []:=by intro e;subst e;simp at hne
      have h5:=hu this hs0
      rw [hp];split <;> exact h5
     ·exact hsz el (List.mem_of_mem_take (List.mem_of_mem_drop hel))
     ·have hg:=hget i _ (List.getElem?_eq_getElem hi)
      rw [hp,if_neg hg.2.2,E7]
      have:=hc (lo + i) hg.2.1 j hj
      rw [E7,Nat.zero_add,Nat.add_mul,Nat.add_assoc] at this
      exact this
     ·have hg:=hget i _ hi
      exact h _ _ hg.1 j u hu
    have:=key _ rfl
    rwa [hlen] at this
theorem Qn {c c':Cx} (h:c.sub c') {a:AV} {x:Value} (hi:Im c.U c.w a x):F8 c.hp c'.hp a = a ∨ C7 c' (F8 c.hp c'.hp a) x:=by
 induction hi with
 | v x=>exact .inl rfl
 | str l=>exact .inl rfl
 | fn f l cs hl hc ih=>exact .inl rfl
 | iptr l a f hu hc hh ih=>exact .inl rfl
 | err t p=>exact .inl rfl
 | any x=>exact .inl rfl
 | own e sz l x=>exact .inl rfl
 | slnil sz=>exact .inl rfl
 | sl sz l a cap f hcap hm hu hsz hc hh ih=>exact .inl rfl
 | agg l cs hl hc ih =>
   refine .inr ?_
   simp only [F8,J6]
   refine .agg _ cs (by simp [hl]) fun j u z hu hz=>?_
   simp only [List.getElem?_map,Option.map_eq_some_iff] at hu
   obtain ⟨u0,hu0,rfl⟩:=hu
   rcases ih j u0 z hu0 hz with e | e
   ·rw [e];exact .im (h.im (hc j u0 z hu0 hz))
   ·exact e
 | tup l cs hl hc ih =>
   refine .inr ?_
   simp only [F8,J6]
   refine .tup _ cs (by simp [hl]) fun j u z hu hz=>?_
   simp only [List.getElem?_map,Option.map_eq_some_iff] at hu
   obtain ⟨u0,hu0,rfl⟩:=hu
   rcases ih j u0 z hu0 hz with e | e
   ·rw [e];exact .im (h.im (hc j u0 z hu0 hz))
   ·exact e
theorem Bp {c c':Cx} (h:c.sub c') {a:AV} {x:Value} (r:C7 c a x):c.nx ≤ c'.nx ∨ M4 c'.nx (F8 c.hp c'.hp a) = true → C7 c' (F8 c.hp c'.hp a) x:=by
 induction r with
 | any x=>intro _;exact .any x
 | im hi =>
   intro _
   rcases Qn h hi with e | e
   ·rw [e];exact .im (h.im hi)
   ·exact e
 | agg l cs hl _ ih =>
   intro hlt
   simp only [F8,J6] at hlt ⊢
   refine .agg _ cs (by simp [hl]) fun j u z hu hz=>?_
   have hmem:=List.mem_of_getElem? hu
   simp only [List.getElem?_map,Option.map_eq_some_iff] at hu
   obtain ⟨u0,hu0,rfl⟩:=hu
   exact ih j u0 z hu0 hz (hlt.imp id fun h=>T7 (by simpa only [M4] using h) _ hmem)
 | tup l cs hl _ ih =>
   intro hlt
   simp only [F8,J6] at hlt ⊢
   refine .tup _ cs (by simp [hl]) fun j u z hu hz=>?_
   have hmem:=List.mem_of_getElem? hu
   simp only [List.getElem?_map,Option.map_eq_some_iff] at hu
   obtain ⟨u0,hu0,rfl⟩:=hu
   exact ih j u0 z hu0 hz (hlt.imp id fun h=>T7 (by simpa only [M4] using h) _ hmem)
 | fo f l cs hl _ ih =>
   intro hlt
   simp only [F8,J6] at hlt ⊢
   refine .fo f _ cs (by simp [hl]) fun j u z hu hz=>?_
   have hmem:=List.mem_of_getElem? hu
   simp only [List.getElem?_map,Option.map_eq_some_iff] at hu
   obtain ⟨u0,hu0,rfl⟩:=hu
   exact ih j u0 z hu0 hz (hlt.imp id fun h=>T7 (by simpa only [M4] using h) _ hmem)
 | ref i off b hi hθ =>
   intro hlt
   simp only [F8,Ds] at hlt ⊢
   have keep:(c.nx ≤ c'.nx ∨ M4 c'.nx (.ref i off) = true) → C7 c' (.ref i off) (.pointer (some ⟨b,off,none⟩)):=fun hlt=>by
    refine .ref i off b ?_ (by rw [h.θ];exact hθ)
    rcases hlt with h1 | h1
    ·omega
    ·simpa only [M4,Nat.blt_eq] using h1
   split at hlt
   ·rename_i l hb
    split at hlt
    ·exact keep hlt
    ·rename_i hn
     cases hcl:G9 l with
     | false=>rw [hcl] at hlt;exact keep hlt
     | true =>
       obtain ⟨b',arr,T,hθ',hh,hsz,hr⟩:=h.owns i _ hb
       have e:b' = b:=by rw [hθ] at hθ';injection hθ' with e;injection e with e;injection e with e;exact e.symm
       subst e
       have hnu:¬ c'.U b':=h.notU hb hn (.inl (by rw [hθ];rfl))
       refine .im (.iptr _ _ (fun j=>arr.getD (off + j) undef) (fun _=>hnu) (fun j hj=>?_) (fun j u hu=>?_))
       ·have hlt':off + j < arr.size:=by rw [List.length_drop] at hj;omega
        rw [E7,h.w,G3 hh]
        simp [Array.getD,hlt']
       ·rw [List.getElem?_drop] at hu
        have hlt':off + j < arr.size:=by have:=(List.getElem?_eq_some_iff.1 hu).1;omega
        have hget:arr[off + j]? = some (arr.getD (off + j) undef):=by simp [Array.getD,hlt']
        have:=hr _ u _ hu hget
        exact h.im ((L0 hcl u (List.mem_of_getElem? hu)).im this)
   ·exact keep hlt
 | row i ver len x hi hr =>
   intro hlt
   simp only [F8,CR]
   split
   ·rename_i e sz v1 l hb
    cases hv:Nat.beq ver v1 with
    | false=>exact .any x
    | true =>
      have hv':=Nat.eq_of_beq_eq_true hv
      subst hv'
      obtain ⟨_,hcur⟩:=hr e sz ver l hb
      obtain ⟨hlen,hx⟩:=hcur rfl
      simp only [cond_true]
      split
      ·rename_i e2 sz2 v2 l2 hb2
       have hnx:i < c'.nx:=by
        simp only [F8,CR,hb,hv,cond_true,hb2,M4,Nat.blt_eq] at hlt
        omega
       refine .row i v2 len x hnx fun e3 sz3 v3 l3 hb3=>?_
       rw [hb2] at hb3
       cases hb3
       refine ⟨Nat.le_refl _,fun _=>?_⟩
       obtain ⟨b,hb',hrow⟩:=h.blk i _ hb2
       rw [hb] at hb'
       cases hb'
       obtain ⟨v,hrow⟩:=hrow
       cases hrow
       exact ⟨hlen,by rw [h.θ];exact hx⟩
      ·rename_i hb2
       rw [hx]
       refine .im (As h hb ?_)
       cases hq:A4 c'.hp i with
       | none=>rfl
       | some b' =>
         obtain ⟨b,hb',hrow⟩:=h.blk i _ hq
         rw [hb] at hb'
         cases hb'
         obtain ⟨v,rfl⟩:=hrow
         exact absurd hq (hb2 _ _ _ _)
   ·exact .any x
 | mp i r hi hθ =>
   intro hlt
   refine .mp i r ?_ (by rw [h.θ];exact hθ)
   simp only [F8,M4,Nat.blt_eq] at hlt
   omega
 | sub i ver lo len x hi hr =>
   intro hlt
   simp only [F8,CT]
   split
   ·rename_i e sz v1 l hb
    cases hv:Nat.beq ver v1 with
    | false=>exact .any x
    | true =>
      have hv':=Nat.eq_of_beq_eq_true hv
      subst hv'
      obtain ⟨_,hcur⟩:=hr e sz ver l hb
      obtain ⟨hlen,hx⟩:=hcur rfl
      simp only [cond_true]
      split
      ·rename_i e2 sz2 v2 l2 hb2
       have hnx:i < c'.nx:=by
        simp only [F8,CT,hb,hv,cond_true,hb2,M4,Nat.blt_eq] at hlt
        omega
       refine .sub i v2 lo len x hnx fun e3 sz3 v3 l3 hb3=>?_
       rw [hb2] at hb3
       cases hb3
       refine ⟨Nat.le_refl _,fun _=>?_⟩
       obtain ⟨b,hb',hrow⟩:=h.blk i _ hb2
       rw [hb] at hb'
       cases hb'
       obtain ⟨v,hrow⟩:=hrow
       cases hrow
       exact ⟨hlen,by rw [h.θ];exact hx⟩
      ·rename_i hb2
       refine .im (Po (As h hb ?_) hx hlen)
       cases hq:A4 c'.hp i with
       | none=>rfl
       | some b' =>
         obtain ⟨b,hb',hrow⟩:=h.blk i _ hq
         rw [hb] at hb'
         cases hb'
         obtain ⟨v,rfl⟩:=hrow
         exact absurd hq (hb2 _ _ _ _)
   ·exact .any x
 | elt i ver k off x hi hr =>
   intro hlt
   simp only [F8,CS]
   split
   ·rename_i e sz v1 l hb
    cases hv:Nat.beq ver v1 with
    | false=>exact .any x
    | true =>
      have hv':=Nat.eq_of_beq_eq_true hv
      subst hv'
      obtain ⟨_,hcur⟩:=hr e sz ver l hb
      obtain ⟨g,m,cap,hθ,hx⟩:=hcur rfl
      simp only [cond_true]
      split
      ·rename_i e2 sz2 v2 l2 hb2
       have hnx:i < c'.nx:=by
        simp only [F8,CS,hb,hv,cond_true,hb2,M4,Nat.blt_eq] at hlt
        omega
       refine .elt i v2 k off x hnx fun e3 sz3 v3 l3 hb3=>?_
       rw [hb2] at hb3
       cases hb3
       refine ⟨Nat.le_refl _,fun _=>?_⟩
       obtain ⟨b,hb',hrow⟩:=h.blk i _ hb2
       rw [hb] at hb'
       cases hb'
       obtain ⟨v,hrow⟩:=hrow
       cases hrow
       exact ⟨g,m,cap,by rw [h.θ];exact hθ,hx⟩
      ·rename_i hb2
       split
       ·rename_i el hel
        have hn:A4 c'.hp i = none:=by
         cases hq:A4 c'.hp i with
         | none=>rfl
         | some b' =>
           obtain ⟨b,hb',hrow⟩:=h.blk i _ hq
           rw [hb] at hb'
           cases hb'
           obtain ⟨v,rfl⟩:=hrow
           exact absurd hq (hb2 _ _ _ _)
        have him:=As h hb hn
        rw [hθ] at him
        cases him with
        | sl sz l a cap' f hcap hm hu hsz hc hh =>
          have hlt2:k < l.length:=(List.getElem?_eq_some_iff.1 hel).1
          have hes:=hsz el (List.mem_of_getElem? hel)
          rw [hx]
          refine .im (.iptr _ _ (fun j=>f k (off + j)) (fun hne=>?_) (fun j hj=>?_) (fun j u hu'=>?_))
          ·have h1:=List.length_pos_iff.2 hne
           rw [List.length_drop] at h1
           exact hu (by intro e;subst e;simp at hlt2) (by omega)
          ·rw [List.length_drop] at hj
           have:=hc k hlt2 (off + j) (by omega)
           rw [E7] at this ⊢
           rw [← this]
           congr 2
           omega
          ·rw [List.getElem?_drop] at hu'
           exact hh k el hel (off + j) u hu'
       ·exact .any x
   ·exact .any x
theorem H9.cv {E:Env} {n:Nat} {θ:Th} {σ σ':St} {a:Act} {w:World} (h:H9 E n θ σ a w) (h0:E.n0 ≤ σ'.nx)
  (hs:∀ s x',look σ'.sl s = some x' → ∃ x,look σ.sl s = some x ∧ F8 σ.hp σ'.hp x = x' ∧ (σ.nx ≤ σ'.nx ∨ M4 σ'.nx x' = true))
  (hb:∀ i b',A4 σ'.hp i = some b' → (σ.nx ≤ σ'.nx ∨ i < σ'.nx) ∧ ∃ b,A4 σ.hp i = some b ∧ x8 σ.hp σ'.hp b b' ∧ (σ.nx ≤ σ'.nx ∨ ∀ τ l,b' = .bx τ l → M9 σ'.nx l = true))
  (hv:∀ i e sz v l,A4 σ'.hp i = some (.row e sz v l) → W8 e = true → σ.nx ≤ σ'.nx ∧ ∀ j e1 sz1 v1 l1 v2,A4 σ'.hp j = some (.row e1 sz1 v1 l1) → A4 σ.hp j = some (.row e1 sz1 v2 l1) → v1 = v2):H9 E n θ σ' a w:=by
 have sub:(cx E θ σ w).sub (cx E θ σ' w):=⟨rfl,rfl,fun _ h=>h,fun i b' hi=>by
  obtain ⟨_,b,h1,h2,_⟩:=hb i b' hi
  exact ⟨b,h1,h2⟩,h.apart,fun i b k hi hk=>(h.mine i b k hi hk).1,fun i b hi=>(h.owns i b hi).2⟩
 refine ⟨h.size,h.defers,h.fr,fun s x' hx=>?_,fun i b' hi=>?_,fun i j b1 b2 k hi hj=>?_,fun i b' k hi=>?_,h.X,⟨h0,fun i hi=>(h.base.2 i hi).imp id fun ⟨h1,h2⟩=>⟨h1,fun ⟨e',sz,v,l,hl,hk⟩=>h2 (by
  obtain ⟨_,b,g1,g2,_⟩:=hb i _ hl
  cases b with
  | bx _ _=>cases g2
  | map _=>cases g2
  | it _ _=>cases g2
  | row e1 sz1 v1 l1 =>
    obtain ⟨v2,g3⟩:=g2
    cases g3
    exact ⟨_,_,_,_,g1,hk⟩)⟩⟩⟩
 ·obtain ⟨x,h1,rfl,h2⟩:=hs s x' hx
  exact Bp sub (h.slots s x h1) h2
 ·obtain ⟨h0,b,h1,h2,h3⟩:=hb i b' hi
  obtain ⟨h4,h5⟩:=h.owns i b h1
  refine ⟨h0.elim (fun h=>by omega) id,?_⟩
  cases b with
  | bx τ l =>
    simp only [x8] at h2
    subst h2
    obtain ⟨b',arr,T,e1,e2,e3,e4⟩:=h5
    refine ⟨b',arr,T,e1,e2,by rw [J6,List.length_map];exact e3,fun j u z hu hz=>?_⟩
    rw [J6] at hu h3
    have hmem:=List.mem_of_getElem? hu
    simp only [List.getElem?_map,Option.map_eq_some_iff] at hu
    obtain ⟨u0,hu0,rfl⟩:=hu
    exact Bp sub (e4 j u0 z hu0 hz) (h3.imp id fun h=>T7 (h _ _ rfl) _ hmem)
  | row e sz v l =>
    obtain ⟨v2,rfl⟩:=h2
    obtain ⟨xs,e1,e2,e3,e4⟩:=h5
    exact ⟨xs,e1,e2,(fun k el hk j x hx=>by
     obtain ⟨y,hy,hi⟩:=e3 k el hk j x hx
     exact ⟨y,hy,sub.im hi⟩),fun hne=>⟨(e4 hne).1,fun k el hk j e' sz' l' hj=>by
     rcases (e4 hne).2 k el hk j e' sz' l' hj with ⟨q0,q1,g,m,cap,y,q2,q3,q4⟩ | ⟨g,m,cap,y,ys,q1,q2,q3,q4,q5,q6,q7⟩
     ·obtain ⟨hv1,hv2⟩:=hv i e sz v2 l hi q0
      refine .inl ⟨q0,q1,g,m,cap,y,q2,q3,?_⟩
      generalize e' - C6 = mm at q4 ⊢
      cases q4 with
      | im h=>cases h
      | row _ _ _ _ hm hr =>
        refine .row _ _ _ _ (Nat.lt_of_lt_of_le hm hv1) fun e1 sz1 v1 l1 hl1=>?_
        obtain ⟨_,b1,g1,g2,_⟩:=hb _ _ hl1
        cases b1 with
        | bx _ _=>cases g2
        | map _=>cases g2
        | it _ _=>cases g2
        | row e3 sz3 v3 l3 =>
          obtain ⟨v4,g3⟩:=g2
          cases g3
          have:=hv2 _ _ _ _ _ _ hl1 g1
          subst this
          exact hr _ _ _ _ g1
     exact .inr ⟨g,m,cap,y,ys,q1,q2,q3,q4,q5,fun q el' hq j' x hx=>by
      obtain ⟨z,hz,hi⟩:=q6 q el' hq j' x hx
      exact ⟨z,hz,sub.im hi⟩,q7⟩⟩⟩
  | map m =>
    simp only [x8] at h2
    subst h2
    obtain ⟨r,es,clock,e1,e2,e3,e4⟩:=h5
    exact ⟨r,es,clock,e1,e2,e3,fun j q e hj he=>⟨(e4 j q e hj he).1,sub.im (e4 j q e hj he).2⟩⟩
  | it t p =>
    simp only [x8] at h2
    subst h2
    exact h5
 ·intro hk1 hk2
  obtain ⟨_,b1',h1,g1,_⟩:=hb i b1 hi
  obtain ⟨_,b2',h2,g2,_⟩:=hb j b2 hj
  exact h.apart i j _ _ k h1 h2 (FP.cv g1 hk1) (FP.cv g2 hk2)
 ·intro hk
  obtain ⟨_,b1',h1,g1,_⟩:=hb i b' hi
  exact h.mine i _ k h1 (FP.cv g1 hk)
def Gg (m:Nat):List (Nat × AV) → Bool
 | []=>true
 | (_,x) :: r=>M4 m x && Gg m r
def G1 (m:Nat):Hp → Bool
 | []=>true
 | (i,some (.bx _ l)) :: r=>Nat.blt i m && M9 m l && G1 m r
 | (i,some (.row e _ _ _)) :: r=>Nat.blt i m && (!(W8 e) && G1 m r)
 | (i,_) :: r=>Nat.blt i m && G1 m r
theorem FJ {m:Nat}:∀ {l:List (Nat × AV)} {s:Nat} {x:AV},Gg m l = true → look l s = some x → M4 m x = true
 | [],s,x,_,h=>by cases h
 | (s0,x0) :: r,s,x,hs,h=>by
   simp only [Gg,Bool.and_eq_true] at hs
   rw [E1] at h
   by_cases e:s0 = s
   ·subst e;rw [if_pos rfl] at h;cases h;exact hs.1
   ·rw [if_neg e] at h;exact FJ hs.2 h
theorem X7 {m:Nat}:∀ {l:Hp} {i:Nat} {b:E3},G1 m l = true → A4 l i = some b → i < m ∧ ∀ τ c,b = .bx τ c → M9 m c = true
 | [],i,b,_,h=>by cases h
 | (i0,b0) :: r,i,b,hs,h=>by
   rw [D2] at h
   have hs':Nat.blt i0 m = true ∧ (∀ τ c,b0 = some (.bx τ c) → M9 m c = true) ∧ G1 m r = true:=by
    match b0,hs with
    | some (.bx τ c),hs=>simp only [G1,Bool.and_eq_true] at hs;exact ⟨hs.1.1,(fun _ c' e=>by cases e;exact hs.1.2),hs.2⟩
    | some (.row ..),hs=>simp only [G1,Bool.and_eq_true] at hs;exact ⟨hs.1,(fun _ c' e=>by cases e),hs.2.2⟩
    | some (.map ..),hs=>simp only [G1,Bool.and_eq_true] at hs;exact ⟨hs.1,(fun _ c' e=>by cases e),hs.2⟩
    | some (.it ..),hs=>simp only [G1,Bool.and_eq_true] at hs;exact ⟨hs.1,(fun _ c' e=>by cases e),hs.2⟩
    | none,hs=>simp only [G1,Bool.and_eq_true] at hs;exact ⟨hs.1,(fun _ c' e=>by cases e),hs.2⟩
   by_cases e:i0 = i
   ·subst e
    rw [if_pos rfl] at h
    subst h
    exact ⟨Nat.blt_eq ▸ hs'.1,fun τ c hc=>hs'.2.1 τ c (by rw [hc])⟩
   ·rw [if_neg e] at h;exact X7 hs'.2.2 h
theorem CU {m:Nat}:∀ {l:Hp} {i e sz v:Nat} {c:List (List AV)},G1 m l = true → A4 l i = some (.row e sz v c) → W8 e = false
 | [],i,e,sz,v,c,_,h=>by cases h
 | (i0,b0) :: r,i,e,sz,v,c,hs,h=>by
   rw [D2] at h
   by_cases e0:i0 = i
   ·subst e0
    rw [if_pos rfl] at h
    subst h
    simp only [G1,Bool.and_eq_true,Bool.not_eq_true'] at hs
    exact hs.2.1
   ·rw [if_neg e0] at h
    have hs':G1 m r = true:=by
     match b0,hs with
     | some (.row ..),hs=>simp only [G1,Bool.and_eq_true] at hs;exact hs.2.2
     | some (.bx ..),hs=>simp only [G1,Bool.and_eq_true] at hs;exact hs.2
     | some (.map ..),hs=>simp only [G1,Bool.and_eq_true] at hs;exact hs.2
     | some (.it ..),hs=>simp only [G1,Bool.and_eq_true] at hs;exact hs.2
     | none,hs=>simp only [G1,Bool.and_eq_true] at hs;exact hs.2
    exact CU hs' h
def x9 (σ:St) (h':Hp):List (Nat × AV) → Prop
 | []=>True
 | (s,x) :: r=>(look σ.sl s).map (F8 σ.hp h') = some x ∧ x9 σ h' r
def k7 (σ:St) (h':Hp):Hp → Prop
 | []=>True
 | (_,none) :: r=>k7 σ h' r
 | (i,some b) :: r=>(match A4 σ.hp i with
   | some b0=>x8 σ.hp h' b0 b
   | none=>False) ∧ k7 σ h' r
theorem x9.look {σ:St} {h':Hp}:∀ {l:List (Nat × AV)} {s:Nat} {x:AV},x9 σ h' l → look l s = some x → (look σ.sl s).map (F8 σ.hp h') = some x
 | [],s,x,_,h=>by cases h
 | (s0,x0) :: r,s,x,hs,h=>by
   rw [E1] at h
   by_cases e:s0 = s
   ·subst e;rw [if_pos rfl] at h;cases h;exact hs.1
   ·rw [if_neg e] at h;exact x9.look hs.2 h
theorem k7.look {σ:St} {h':Hp}:∀ {l:Hp} {i:Nat} {b:E3},k7 σ h' l → A4 l i = some b → ∃ b0,A4 σ.hp i = some b0 ∧ x8 σ.hp h' b0 b
 | [],i,b,_,h=>by cases h
 | (i0,none) :: r,i,b,hs,h=>by
   rw [D2] at h
   by_cases e:i0 = i
   ·subst e;rw [if_pos rfl] at h;cases h
   ·rw [if_neg e] at h;exact k7.look (l:=r) hs h
 | (i0,some b0) :: r,i,b,hs,h=>by
   rw [D2] at h
   by_cases e:i0 = i
   ·subst e
    rw [if_pos rfl] at h
    cases h
    have h1:=hs.1
    split at h1
    ·rename_i b1 hb1;exact ⟨b1,hb1,h1⟩
    ·exact h1.elim
   ·rw [if_neg e] at h;exact k7.look hs.2 h
theorem B5 {E:Env} {n m:Nat} {σ σ':St} (h0:E.n0 = m) (hm:Nat.ble m σ'.nx = true) (hs:x9 σ σ'.hp σ'.sl) (hh:k7 σ σ'.hp σ'.hp) (hn:Nat.ble σ'.nx σ.nx = true) (hl:Gg σ'.nx σ'.sl = true) (hb:G1 σ'.nx σ'.hp = true):St.le E n σ σ':=by
 rintro a w ⟨θ,h⟩
 refine ⟨θ,h.cv (h0 ▸ Nat.ble_eq ▸ hm) (fun s x' hx=>?_) (fun i b' hi=>?_) (fun i e sz v l hi hln=>?_)⟩
 ·have:=x9.look hs hx
  rw [Option.map_eq_some_iff] at this
  obtain ⟨x,h1,h2⟩:=this
  exact ⟨x,h1,h2, .inr (FJ hl hx)⟩
 ·obtain ⟨b0,h1,h2⟩:=k7.look hh hi
  obtain ⟨h3,h4⟩:=X7 hb hi
  exact ⟨.inr h3,b0,h1,h2, .inr h4⟩
 ·rw [CU hb hi] at hln;cases hln
def j7 (hp:Hp):Hp → Bool
 | []=>true
 | (i,some (.row _ _ v _)) :: r=>(match A4 hp i with
   | some (.row _ _ v' _)=>Nat.beq v v'
   | _=>true) && j7 hp r
 | _ :: r=>j7 hp r
theorem Bq {hp:Hp}:∀ {h:Hp},j7 hp h = true → ∀ j e1 sz1 v1 l1 e2 sz2 v2 l2,A4 h j = some (.row e1 sz1 v1 l1) → A4 hp j = some (.row e2 sz2 v2 l2) → v1 = v2
 | [],_,j,_,_,_,_,_,_,_,_,h,_=>by cases h
 | (i0,b0) :: r,hs,j,e1,sz1,v1,l1,e2,sz2,v2,l2,h,h2=>by
   rw [D2] at h
   by_cases e:i0 = j
   ·subst e
    rw [if_pos rfl] at h
    subst h
    simp only [j7,h2,Bool.and_eq_true] at hs
    exact Nat.eq_of_beq_eq_true hs.1
   ·rw [if_neg e] at h
    have hs':j7 hp r = true:=by
     match b0,hs with
     | some (.row ..),hs=>simp only [j7,Bool.and_eq_true] at hs;exact hs.2
     | some (.bx ..),hs=>exact hs
     | some (.map ..),hs=>exact hs
     | some (.it ..),hs=>exact hs
     | none,hs=>exact hs
    exact Bq hs' j e1 sz1 v1 l1 e2 sz2 v2 l2 h h2
theorem Dt {E:Env} {n m:Nat} {σ σ':St} (h0:E.n0 = m) (hm:Nat.ble m σ'.nx = true) (hs:x9 σ σ'.hp σ'.sl) (hh:k7 σ σ'.hp σ'.hp) (hn:Nat.beq σ'.nx σ.nx = true) (hl:Gg σ'.nx σ'.sl = true) (hvs:j7 σ.hp σ'.hp = true):St.le E n σ σ':=by
 rintro a w ⟨θ,h⟩
 have hnx:=Nat.eq_of_beq_eq_true hn
 refine ⟨θ,h.cv (h0 ▸ Nat.ble_eq ▸ hm) (fun s x' hx=>?_) (fun i b' hi=>?_) (fun i e sz v l _ _=>⟨by omega,fun j e1 sz1 v1 l1 v2 h1 h2=>Bq hvs _ _ _ _ _ _ _ _ _ h1 h2⟩)⟩
 ·have:=x9.look hs hx
  rw [Option.map_eq_some_iff] at this
  obtain ⟨x,h1,h2⟩:=this
  exact ⟨x,h1,h2, .inl (by omega)⟩
 ·obtain ⟨b0,h1,h2⟩:=k7.look hh hi
  exact ⟨.inl (by omega),b0,h1,h2, .inl (by omega)⟩
def Y7 (f:AV → AV):List (Nat × AV) → List (Nat × AV)
 | []=>[]
 | (s,x) :: r=>(s,f x) :: Y7 f r
def T8 (i:Nat):Hp → Hp
 | []=>[]
 | (k,b) :: r=>cond (Nat.beq k i) (T8 i r) ((k,b) :: T8 i r)
def y6 (f:AV → AV):Hp → Hp
 | []=>[]
 | (k,some (.bx τ l)) :: r=>(k,some (.bx τ (l.map f))) :: y6 f r
 | (k,b) :: r=>(k,b) :: y6 f r
theorem n9 (f:AV → AV):∀ (l:List (Nat × AV)) (s:Nat),look (Y7 f l) s = (look l s).map f
 | [],s=>rfl
 | (k,x) :: r,s=>by
   simp only [Y7,E1]
   by_cases e:k = s
   ·simp [e]
   ·simp [e,n9 f r s]
theorem T9 (i:Nat):∀ (l:Hp) (j:Nat),A4 (T8 i l) j = if i = j then none else A4 l j
 | [],j=>by simp [T8,A4,look]
 | (k,b) :: r,j=>by
   simp only [T8]
   cases h:Nat.beq k i with
   | true =>
     have:=Nat.eq_of_beq_eq_true h
     subst this
     rw [cond_true,T9 k r j,D2]
     by_cases e:k = j <;> simp [e]
   | false =>
     have hne:k ≠ i:=by intro e;subst e;simp at h
     rw [cond_false,D2,D2,T9 i r j]
     by_cases e:k = j
     ·subst e;simp [Ne.symm hne]
     ·simp [e]
def m9 (f:AV → AV):E3 → E3
 | .bx τ l=>.bx τ (l.map f)
 | b=>b
theorem AP (f:AV → AV):∀ (l:Hp) (j:Nat),A4 (y6 f l) j = (A4 l j).map (m9 f)
 | [],j=>by simp [y6,A4,look]
 | (k,b) :: r,j=>by
   have:y6 f ((k,b) :: r) = (k,b.map (m9 f)) :: y6 f r:=by
    cases b with
    | none=>rfl
    | some b=>cases b <;> rfl
   rw [this,D2,D2,AP f r j]
   by_cases e:k = j <;> simp [e]
def St.frz (σ:St) (i:Nat):St :=
 let h':=T8 i σ.hp
 { sl:=Y7 (F8 σ.hp h') σ.sl,nx:=σ.nx,hp:=y6 (F8 σ.hp h') h' }
theorem Ht {h h1 h2:Hp} (e:∀ j,(A4 h2 j) = (A4 h1 j).map (m9 (F8 h h1))) (i v len:Nat):CR h h2 i v len = CR h h1 i v len:=by
 unfold CR
 rw [e i]
 cases A4 h1 i with
 | none=>rfl
 | some b=>cases b <;> rfl
theorem Hu {h h1 h2:Hp} (e:∀ j,(A4 h2 j) = (A4 h1 j).map (m9 (F8 h h1))) (i v k off:Nat):CS h h2 i v k off = CS h h1 i v k off:=by
 unfold CS
 rw [e i]
 cases A4 h1 i with
 | none=>rfl
 | some b=>cases b <;> rfl
theorem Hv {h h1 h2:Hp} (e:∀ j,(A4 h2 j) = (A4 h1 j).map (m9 (F8 h h1))) (i v k off:Nat):CT h h2 i v k off = CT h h1 i v k off:=by
 unfold CT
 rw [e i]
 cases A4 h1 i with
 | none=>rfl
 | some b=>cases b <;> rfl
theorem Hw {h h1 h2:Hp} (e:∀ j,(A4 h2 j) = (A4 h1 j).map (m9 (F8 h h1))) (i off:Nat):Ds h h2 i off = Ds h h1 i off:=by
 unfold Ds
 rw [e i]
 cases A4 h1 i with
 | none=>rfl
 | some b=>cases b <;> rfl
mutual
theorem Br {h h1 h2:Hp} (e:∀ j,(A4 h2 j) = (A4 h1 j).map (m9 (F8 h h1))):∀ a,F8 h h2 a = F8 h h1 a
 | .row i v len=>by simp only [F8];exact Ht e i v len
 | .elt i v k off=>by simp only [F8];exact Hu e i v k off
 | .sub i v k off=>by simp only [F8];exact Hv e i v k off
 | .ref i off=>by simp only [F8];exact Hw e i off
 | .agg l=>by simp only [F8];rw [X8 e l]
 | .tup l=>by simp only [F8];rw [X8 e l]
 | .fo f l=>by simp only [F8];rw [X8 e l]
 | .any=>rfl
 | .v _=>rfl
 | .str _=>rfl
 | .iptr _=>rfl
 | .sl _ _=>rfl
 | .mp _=>rfl
 | .fn _ _=>rfl
 | .err=>rfl
 | .own _ _ _=>rfl
theorem X8 {h h1 h2:Hp} (e:∀ j,(A4 h2 j) = (A4 h1 j).map (m9 (F8 h h1))):∀ l,W1 h h2 l = W1 h h1 l
 | []=>rfl
 | x :: r=>by simp only [W1];rw [Br e x,X8 e r]
end
theorem Gh {E:Env} {n:Nat} {σ:St} (i:Nat):St.le E n σ (σ.frz i):=by
 rintro a w ⟨θ,h⟩
 have e:∀ j,A4 (σ.frz i).hp j = (A4 (T8 i σ.hp) j).map (m9 (F8 σ.hp (T8 i σ.hp))):=fun j=>AP _ _ _
 refine ⟨θ,h.cv h.base.1 (fun s x' hx=>?_) (fun j b' hj=>?_) (fun _ _ _ _ _ _ _=>⟨Nat.le_refl _,fun j e1 sz1 v1 l1 v2 h1 h2=>?_⟩)⟩
 ·have hx':(look σ.sl s).map (F8 σ.hp (T8 i σ.hp)) = some x':=by rw [← n9];exact hx
  rw [Option.map_eq_some_iff] at hx'
  obtain ⟨x,h1,h2⟩:=hx'
  exact ⟨x,h1,by rw [Br e];exact h2, .inl (Nat.le_refl _)⟩
 ·refine ⟨.inl (Nat.le_refl _),?_⟩
  rw [e j,Option.map_eq_some_iff] at hj
  obtain ⟨b,hb,rfl⟩:=hj
  rw [T9] at hb
  split at hb
  ·cases hb
  ·refine ⟨b,hb,?_, .inl (Nat.le_refl _)⟩
   cases b with
   | bx τ l=>simp only [x8,m9,X8 e,J6]
   | row e sz v l=>exact ⟨v,rfl⟩
   | map m=>rfl
   | it _ _=>rfl
 ·rw [e j,Option.map_eq_some_iff] at h1
  obtain ⟨b,hb,hbe⟩:=h1
  rw [T9] at hb
  split at hb
  ·cases hb
  ·rw [hb] at h2
   cases h2
   cases hbe;rfl
def k8:List Nat → Hp → Hp
 | [],h=>h
 | i :: r,h=>k8 r (T8 i h)
theorem Cs:∀ (is:List Nat) (h:Hp) (j:Nat),A4 (k8 is h) j = none ∨ A4 (k8 is h) j = A4 h j
 | [],h,j=>.inr rfl
 | i :: r,h,j=>by
   rcases Cs r (T8 i h) j with e | e
   ·exact .inl e
   ·rw [k8,e,T9]
    by_cases hij:i = j
    ·exact .inl (by rw [if_pos hij])
    ·exact .inr (by rw [if_neg hij])
mutual
def At:AV → Bool
 | .v _ | .str _ | .err=>true
 | .agg l | .tup l=>Du l
 | .sl _ []=>true
 | _=>false
def Du:List AV → Bool
 | []=>true
 | x :: r=>At x && Du r
end
theorem Au:∀ {l:List AV},Du l = true → ∀ x ∈ l,At x = true
 | [],_,x,hx=>by cases hx
 | y :: r,h,x,hx=>by
   simp only [Du,Bool.and_eq_true] at h
   rcases List.mem_cons.1 hx with rfl | hx
   ·exact h.1
   ·exact Au h.2 x hx
theorem Oc {U U':Nat → Prop} {w:World} {a:AV} {v:Value} (h:Im U w a v):At a = true → Im U' w a v:=by
 induction h with
 | v x=>intro _;exact .v x
 | str l=>intro _;exact .str l
 | agg l cs hl h ih=>intro hf;exact .agg l cs hl fun j x c hx hc=>ih j x c hx hc (Au (by simpa [At] using hf) x (List.mem_of_getElem? hx))
 | tup l cs hl h ih=>intro hf;exact .tup l cs hl fun j x c hx hc=>ih j x c hx hc (Au (by simpa [At] using hf) x (List.mem_of_getElem? hx))
 | fn f l cs hl h ih=>intro hf;cases hf
 | iptr l a f hu hc h ih=>intro hf;cases hf
 | err t p=>intro _;exact .err t p
 | any x=>intro _;exact .any x
 | own e sz l x=>intro _;exact .own e sz l x
 | slnil sz=>intro _;exact .slnil sz
 | sl sz l a cap f hcap hm hu hsz hc h ih =>
   intro hf
   cases l with
   | nil=>exact .sl sz [] a cap f hcap hm (fun h=>absurd rfl h) hsz hc (fun i e he=>by simp at he)
   | cons x r=>cases hf
theorem Kj {P:Program} {E:Env} {nx:Nat} {hp:Hp} {ev:Operand → Option AV} {ty:TypeId} {f:Nat} {xs:List Operand} {args caps L:List AV} {r:AV} {ts:Array TypeId} {g:Operand} (is:List Nat) (hc:B4 P f (L ++ caps) r) (ha:P7 ev xs = some args)
  (hL:W1 hp (k8 is hp) args = L) (hcl:G9 L = true) (hfl:At r = true)
  (hg:∀ θ a w,P9 E θ nx hp ev a w → ∃ cs:List Value,a.eval g = .func (.func f) #[] cs.toArray ∧ caps.length = cs.length ∧ ∀ (j:Nat) x c,caps[j]? = some x → cs[j]? = some c → Im (kx E θ nx hp w).U w x c) :
  D5 P E nx hp ev (.call ⟨.value g,xs.toArray,ts⟩) ty r:=by
 intro d pos after θ a w K hs hk
 obtain ⟨hl,hr⟩:=W9 hs xs args ha
 obtain ⟨cs,hge,hcl2,hcr⟩:=hg θ a w hs
 unfold BZ
 rw [GV hc.1 hge]
 let h':=k8 is hp
 let H:=y6 (F8 hp h') h'
 have e:∀ j,A4 H j = (A4 h' j).map (m9 (F8 hp h')):=fun j=>AP _ _ _
 have sub:(kx E θ nx hp w).sub (kx E θ nx H w):=⟨rfl,rfl,fun _ h=>h,fun j b' hj=>by
  have hj':A4 H j = some b':=hj
  rw [e j,Option.map_eq_some_iff] at hj'
  obtain ⟨b,hb,rfl⟩:=hj'
  rcases Cs is hp j with h | h
  ·have hb':A4 (k8 is hp) j = some b:=hb
   rw [h] at hb';cases hb'
  ·have hb':A4 (k8 is hp) j = some b:=hb
   rw [h] at hb'
   refine ⟨b,hb',?_⟩
   cases b with
   | bx τ l=>simp only [x8,m9,kx,X8 e,J6]
   | row e sz v l=>exact ⟨v,rfl⟩
   | map m=>rfl
   | it _ _=>rfl,hs.apart,hs.fresh,fun i b hi=>(hs.owns i b hi).2⟩
 have hX:=hc.2 (kx E θ nx H w).U w (xs.map a.eval ++ cs) (fun k hk=>hs.Ult k (sub.U k hk)) (hs.tab.mono (fun k _ hk=>sub.U k hk) fun _ _ _=>rfl) (by simp only [List.length_append, ← hL,J6,List.length_map,hl,hcl2]) fun j av v hj hv=>by
  have hLl:L.length = xs.length:=by rw [← hL,J6,List.length_map,hl]
  rw [List.getElem?_append] at hj hv
  have e1:(xs.map a.eval).length = L.length:=by simp [hLl]
  rw [e1] at hv
  split at hj
  ·rename_i hlt
   rw [if_pos hlt] at hv
   have hcv:=L0 hcl av (List.mem_of_getElem? hj)
   rw [← hL,J6,List.getElem?_map,Option.map_eq_some_iff] at hj
   obtain ⟨a0,ha0,rfl⟩:=hj
   have h1:=Bp sub (hr j a0 v ha0 hv) (.inl (Nat.le_refl _))
   have h2:F8 (kx E θ nx hp w).hp (kx E θ nx H w).hp a0 = F8 hp (k8 is hp) a0:=Br (h:=hp) (h1:=h') (h2:=H) e a0
   rw [h2] at h1
   exact hcv.im h1
  ·rename_i hlt
   rw [if_neg hlt] at hv
   exact sub.im (hcr _ av v hj hv)
 rw [← List.append_toArray] at hX
 refine Calls.mono hX ?_
 rintro e w' ⟨v,rfl,hv,hb⟩
 exact ⟨v,rfl,hk v w' hb (.im (Oc hv hfl))⟩
structure D4 (p A:Prop):Prop where
 h:p
 k:A
structure J4 {α:Type} (l:List α) (i:Int) (F:α → Prop):Prop where
 h0:0 ≤ i
 h:i < l.length
 k:∀ el,l[i.toNat]? = some el → F el
structure RL (a:AV) (F:AV → Prop):Prop where
 h:F a
structure Ei {α:Type} (l:List α) (F:Nat → Prop):Prop where
 k:F l.length
structure W6 (b:Bool) (A B:Prop):Prop where
 t:b = true → A
 f:b = false → B
structure Dv (P:Program) (f:Nat) (args:List AV) (F:AV → Prop):Prop where
 h:∃ r,GA P f args r ∧ F r
structure Qo (P:Program) (f:Nat) (hp:Hp) (l caps:List AV) (F:AV → Prop):Prop where
 h:∃ (is:List Nat) (L:List AV) (r:AV),W1 hp (k8 is hp) l = L ∧ G9 L = true ∧ B4 P f (L ++ caps) r ∧ At r = true ∧ F r
structure Bs (P:Program) (T:Nat) (F:Bool → Nat → Prop):Prop where
 h:∃ ag sz,G5 P T ag sz ∧ F ag sz
structure JX (P:Program) (T:Nat) (F:List AV → Prop):Prop where
 h:∃ l,I2 P T l ∧ F (l.map R0)
structure Ej (P:Program) (S f:Nat) (F:Nat → Nat → Prop):Prop where
 h:∃ off sz,L8 P S f off sz ∧ F off sz
structure Bd (P:Program) (T:Nat) (F:Nat → Nat → Prop):Prop where
 h:∃ e sz,J7 P T e sz ∧ F e sz
structure JY (P:Program) (T:Nat) (F:Nat → Nat → Prop):Prop where
 h:∃ len e sz,Ak P T len e sz ∧ F len sz
structure OK (P:Program) (T:Nat) (A:Prop):Prop where
 [h:KS P T]
 k:A
structure k9 (P:Program) (T:Nat) (A:Prop):Prop where
 h:O0 P T
 k:A
structure AY (P:Program) (T:Nat) (A:Prop):Prop where
 h:r9 P T
 k:A
structure Dw (P:Program) (T:Nat) (k1 k2:IntKind) (A:Prop):Prop where
 h:w7 P T k1 k2
 k:A
structure Aw (P:Program) (T:Nat) (k:IntKind) (A:Prop):Prop where
 h:p5 P T k
 k:A
structure Dx (P:Program) (T:Nat) (k1 k2 k3:IntKind) (A:Prop):Prop where
 h:CQ P T k1 k2 k3
 k:A
structure Dy (P:Program) (T:Nat) (A:Prop):Prop where
 h:CP P T
 k:A
structure Bt (P:Program) (T:Nat) (F:List AV → List (Nat × Nat) → Prop):Prop where
 h:∃ zs pl,I2 P T zs ∧ Q2 P T pl ∧ F (zs.map R0) pl
structure u5 (P:Program) (T:Nat) (F:Nat → Nat → Nat → List AV → Prop):Prop where
 h:∃ e sz bs z,J7 P T e sz ∧ I2 P e z ∧ M8 P e bs ∧ z.length = sz ∧ F e sz bs (z.map R0)
structure JZ (P:Program) (T:Nat) (F:TypeDesc → AV → Prop):Prop where
 h:∃ k e t z,Ap P T k e t z ∧ F t (R0 z)
inductive Dz (P:Program) (S T:Nat):AV → AV → Prop
 | bytes {e sz:Nat} (l:List UInt8) [O0 P S] [J7 P T e sz] [K3 P e .u8] (h:l.length ≤ 9223372036854775807):Dz P S T (.str l) (.sl 1 (l.map fun b=>[.v (.int .u8 b.toNat)]))
 | back {e sz:Nat} (l:List UInt8) [J7 P S e sz] [K3 P e .u8] [O0 P T]:Dz P S T (.sl 1 (l.map fun b=>[.v (.int .u8 b.toNat)])) (.str l)
 | int {k k':IntKind} (m:Int) [K3 P T k] [K3 P S k']:Dz P S T (.v (.int k' m)) (.v (.int k (k.wrap m)))
 | rune {k:IntKind} (m:Int) [K3 P S k] [O0 P T]:Dz P S T (.v (.int k m)) (.str (Utf8.encode m).data.toList)
structure V0 (P:Program) (S T:Nat) (a:AV) (F:AV → Prop):Prop where
 h:∃ r,Dz P S T a r ∧ F r
theorem Gi {p A:Prop} (h:p) (k:A):D4 p A:=⟨h,k⟩
theorem FK {α β:Type} {l:List β} {f:β → α} {k:Nat} {F:α → Prop} (h:k < l.length) (kk:∀ x,l[k]? = some x → F (f x)):J4 (l.map f) (k:Int) F :=
 ⟨by omega,by simpa using h,fun el hel=>by
  simp at hel
  obtain ⟨u,hu,rfl⟩:=hel
  exact kk u hu⟩
theorem Gj {α β:Type} {l:List β} {f:β → α} {i:Int} {F:α → Prop} (h0:0 ≤ i) (h:i < l.length) (kk:∀ x,l[i.toNat]? = some x → F (f x)):J4 (l.map f) i F :=
 ⟨h0,by simpa using h,fun el hel=>by
  simp at hel
  obtain ⟨u,hu,rfl⟩:=hel
  exact kk u hu⟩
theorem Kk {α:Type} {l:List α} {i:Int} {F:α → Prop} (h0:0 ≤ i) (h:i < l.length) (kk:∀ x,l[i.toNat]? = some x → F x):J4 l i F:=⟨h0,h,kk⟩
theorem N0 {α:Type} {l:List α} {i:Int} {x:α} {F:α → Prop} (h:l[i.toNat]? = some x) (h0:0 ≤ i) (kk:F x):J4 l i F:=by
 have h1:=(List.getElem?_eq_some_iff.1 h).1
 exact ⟨h0,by omega,fun el hel=>by rw [h] at hel;cases hel;exact kk⟩
theorem B6 {α β:Type} {l:List β} {f:β → α} {i:Int} {x:β} {F:α → Prop} (h:l[i.toNat]? = some x) (h0:0 ≤ i) (kk:F (f x)):J4 (l.map f) i F :=
 N0 (by simp [h]) h0 kk
theorem Od {α β:Type} {l:List β} {f:β → α} {F:Nat → Prop} (k:F l.length):Ei (l.map f) F:=⟨by rw [List.length_map];exact k⟩
theorem Qp {α:Type} {l:List α} {F:Nat → Prop} (k:F l.length):Ei l F:=⟨k⟩
theorem Pp {A B:Prop} (k:A):W6 true A B:=⟨fun _=>k,fun h=>by cases h⟩
theorem Pq {A B:Prop} (k:B):W6 false A B:=⟨(fun h=>by cases h),fun _=>k⟩
theorem Pr {p A B:Prop} [Decidable p] (h1:p → A) (h2:¬ p → B):W6 (decide p) A B:=⟨fun h=>h1 (of_decide_eq_true h),fun h=>h2 (of_decide_eq_false h)⟩
theorem Oe {p A B:Prop} [Decidable p] (h1:¬ p → A) (h2:p → B):W6 (!decide p) A B:=⟨fun h=>h1 (by simpa using h),fun h=>h2 (by simpa using h)⟩
theorem Ps {b:Bool} {A B:Prop} (h1:b = true → A) (h2:b = false → B):W6 b A B:=⟨h1,h2⟩
theorem Of {b:Bool} {A B:Prop} (h1:b = false → A) (h2:b = true → B):W6 (!b) A B:=⟨(fun h=>h1 (by simpa using h)),fun h=>h2 (by simpa using h)⟩
theorem A5 {P:Program} {f:Nat} {args:List AV} {r:AV} {F:AV → Prop} (h:B4 P f args r) (k:F r):Dv P f args F:=⟨⟨r, .inl h,k⟩⟩
theorem Ek {P:Program} {f:Nat} {args:List AV} {r:AV} {F:AV → Prop} (h:JT P f args r) (k:F r):Dv P f args F:=⟨⟨r, .inr h,k⟩⟩
theorem Qq {P:Program} {T:Nat} {ag:Bool} {sz:Nat} {F:Bool → Nat → Prop} [h:G5 P T ag sz] (k:F ag sz):Bs P T F:=⟨⟨ag,sz,h,k⟩⟩
theorem Pt {P:Program} {T:Nat} {l:List Value} {F:List AV → Prop} [h:I2 P T l] (k:F (l.map R0)):JX P T F:=⟨⟨l,h,k⟩⟩
theorem Qr {P:Program} {S f off sz:Nat} {F:Nat → Nat → Prop} [h:L8 P S f off sz] (k:F off sz):Ej P S f F:=⟨⟨off,sz,h,k⟩⟩
theorem RQ {P:Program} {T e sz:Nat} {F:Nat → Nat → Prop} [h:J7 P T e sz] (k:F e sz):Bd P T F:=⟨⟨e,sz,h,k⟩⟩
theorem Qs {P:Program} {T len e sz:Nat} {F:Nat → Nat → Prop} [h:Ak P T len e sz] (k:F len sz):JY P T F:=⟨⟨len,e,sz,h,k⟩⟩
theorem RR {P:Program} {T:Nat} {A:Prop} [h:KS P T] (k:A):OK P T A:=⟨k⟩
theorem Pu {P:Program} {T:Nat} {A:Prop} [h:O0 P T] (k:A):k9 P T A:=⟨h,k⟩
theorem Og {P:Program} {T:Nat} {A:Prop} [h:r9 P T] (k:A):AY P T A:=⟨h,k⟩
theorem Qt {P:Program} {T:Nat} {k:IntKind} {A:Prop} [h:p5 P T k] (kk:A):Aw P T k A:=⟨h,kk⟩
theorem Oh {P:Program} {T:Nat} {k1 k2 k3:IntKind} {A:Prop} [h:CQ P T k1 k2 k3] (k:A):Dx P T k1 k2 k3 A:=⟨h,k⟩
theorem Oi {P:Program} {T:Nat} {k1 k2:IntKind} {A:Prop} [h:w7 P T k1 k2] (k:A):Dw P T k1 k2 A:=⟨h,k⟩
theorem Oj {P:Program} {T:Nat} {A:Prop} [h:CP P T] (k:A):Dy P T A:=⟨h,k⟩
theorem Ok {P:Program} {T:Nat} {zs:List Value} {pl:List (Nat × Nat)} {F:List AV → List (Nat × Nat) → Prop} [h:I2 P T zs] [h2:Q2 P T pl] (k:F (zs.map R0) pl):Bt P T F:=⟨⟨zs,pl,h,h2,k⟩⟩
theorem Qu {P:Program} {T e sz bs:Nat} {z:List Value} {F:Nat → Nat → Nat → List AV → Prop} [h:J7 P T e sz] [h2:I2 P e z] [h3:M8 P e bs] (hz:z.length = sz) (k:F e sz bs (z.map R0)):u5 P T F:=⟨⟨e,sz,bs,z,h,h2,h3,hz,k⟩⟩
theorem Qv {P:Program} {T k e:Nat} {t:TypeDesc} {z:Value} {F:TypeDesc → AV → Prop} [h:Ap P T k e t z] (kk:F t (R0 z)):JZ P T F:=⟨⟨k,e,t,z,h,kk⟩⟩
theorem Ja {P:Program} {S T e sz:Nat} {l:List UInt8} {F:AV → Prop} [O0 P S] [J7 P T e sz] [K3 P e .u8] (h:l.length ≤ 9223372036854775807) (k:F (.sl 1 (l.map fun b=>[.v (.int .u8 b.toNat)]))):V0 P S T (.str l) F:=⟨⟨_, .bytes (e:=e) (sz:=sz) l h,k⟩⟩
theorem Kl {P:Program} {S T e sz:Nat} {l:List UInt8} {F:AV → Prop} [J7 P S e sz] [K3 P e .u8] [O0 P T] (k:F (.str l)):V0 P S T (.sl 1 (l.map fun b=>[.v (.int .u8 b.toNat)])) F:=⟨_, .back (e:=e) (sz:=sz) l,k⟩
theorem V1 {P:Program} {S T:Nat} {k k':IntKind} {m:Int} {F:AV → Prop} [K3 P T k] [K3 P S k'] (h:k.wrap m = m) (kk:F (.v (.int k m))):V0 P S T (.v (.int k' m)) F:=⟨⟨_, .int (k:=k) m,by rw [h];exact kk⟩⟩
theorem MT {P:Program} {S T:Nat} {k k':IntKind} {m:Int} {F:AV → Prop} [K3 P T k] [K3 P S k'] (kk:F (.v (.int k (k.wrap m)))):V0 P S T (.v (.int k' m)) F:=⟨⟨_, .int (k:=k) m,kk⟩⟩
theorem Km {P:Program} {S T:Nat} {k:IntKind} {m:Int} {F:AV → Prop} [K3 P S k] [O0 P T] (kk:F (.str (Utf8.encode m).data.toList)):V0 P S T (.v (.int k m)) F:=⟨⟨_, .rune (k:=k) m,kk⟩⟩
theorem cond_false {c:Bool} {A:Prop} (h:cond c A False):c = true ∧ A:=by
 cases c
 ·exact h.elim
 ·exact ⟨rfl,h⟩
def Jb:Value → Bool
 | .agg _ | .tuple _=>false
 | _=>true
theorem Bu {v:Value} (h:Jb v = true):v.oneCell' = true:=by cases v <;> first | rfl | cases h
def Gk (hp:Hp) (a:AV) (A:Prop):Prop :=
 match a with
 | .v x=>cond (Jb x) A False
 | .str _ | .sl _ _ | .iptr _ | .ref _ _ | .mp _ | .fn _ _ | .fo _ _=>A
 | .row i ver _=>match A4 hp i with
   | some (.row _ _ v' _)=>D4 (ver = v') A
   | _=>False
 | _=>False
theorem Bv {hp:Hp} {a:AV} {A:Prop} (h:Gk hp a A):One hp a ∧ A:=by
 unfold Gk at h
 split at h
 ·rename_i x
  obtain ⟨h1,h2⟩:=cond_false h
  exact ⟨One.v (Bu h1),h2⟩
 ·exact ⟨.str _,h⟩
 ·exact ⟨.sl _ _,h⟩
 ·exact ⟨.iptr _,h⟩
 ·exact ⟨.ref _ _,h⟩
 ·exact ⟨.mp _,h⟩
 ·exact ⟨.fn _ _,h⟩
 ·exact ⟨.fo _ _,h⟩
 ·split at h
  ·rename_i hl
   obtain ⟨rfl,h⟩:=h
   exact ⟨.row hl,h⟩
  ·exact h.elim
 ·exact h.elim
def Jc (hp:Hp):List AV → Prop → Prop
 | [],A=>A
 | x :: r,A=>Gk hp x (Jc hp r A)
theorem EA {hp:Hp}:∀ {l:List AV} {A:Prop},Jc hp l A → s9 hp l ∧ A
 | [],A,h=>⟨trivial,h⟩
 | x :: r,A,h=>by
   obtain ⟨h1,h2⟩:=Bv h
   obtain ⟨h3,h4⟩:=EA h2
   exact ⟨⟨h1,h3⟩,h4⟩
def Gl (hp:Hp) (a:AV) (A:Prop):Prop :=
 match a with
 | .agg _=>A
 | a=>Gk hp a A
theorem Bw {hp:Hp} {a:AV} {A:Prop} (h:Gl hp a A):Fits hp a ∧ A:=by
 unfold Gl at h
 split at h
 ·exact ⟨trivial,h⟩
 ·rename_i hn
  obtain ⟨h1,h2⟩:=Bv h
  refine ⟨?_,h2⟩
  cases a <;> first | exact h1 | exact trivial
def l9 (hp:Hp):List (Nat × AV) → Prop → Prop
 | [],A=>A
 | (_,a) :: r,A=>Gl hp a (l9 hp r A)
theorem P2 {hp:Hp}:∀ {l:List (Nat × AV)} {A:Prop},l9 hp l A → k6 hp l ∧ A
 | [],A,h=>⟨trivial,h⟩
 | (_,x) :: r,A,h=>by
   obtain ⟨h1,h2⟩:=Bw h
   obtain ⟨h3,h4⟩:=P2 h2
   exact ⟨⟨h1,h3⟩,h4⟩
def Pv (a:AV) (A:Prop):Prop :=
 match a with
 | .v x=>cond (Jb x) A False
 | .str _ | .sl _ _ | .iptr _ | .fn _ _=>A
 | _=>False
theorem MU {a:AV} {A:Prop} (h:Pv a A):M1 a ∧ A:=by
 unfold Pv at h
 split at h
 ·obtain ⟨h1,h2⟩:=cond_false h
  exact ⟨Bu h1,h2⟩
 ·exact ⟨trivial,h⟩
 ·exact ⟨trivial,h⟩
 ·exact ⟨trivial,h⟩
 ·exact ⟨trivial,h⟩
 ·exact h.elim
def MW:List AV → Prop → Prop
 | [],A=>A
 | x :: r,A=>Pv x (MW r A)
def EB:List (List AV) → Prop → Prop
 | [],A=>A
 | x :: r,A=>MW x (EB r A)
theorem FL:∀ {l:List AV} {A:Prop},MW l A → (∀ u ∈ l,M1 u) ∧ A
 | [],A,h=>⟨fun u hu=>by (cases hu),h⟩
 | x :: r,A,h=>by
   obtain ⟨h1,h2⟩:=MU h
   obtain ⟨h3,h4⟩:=FL h2
   refine ⟨fun u hu=>?_,h4⟩
   rcases List.mem_cons.1 hu with rfl | hu
   ·exact h1
   ·exact h3 u hu
theorem o0:∀ {l:List (List AV)} {A:Prop},EB l A → X0 l ∧ A
 | [],A,h=>⟨trivial,h⟩
 | x :: r,A,h=>by
   obtain ⟨h1,h2⟩:=FL h
   obtain ⟨h3,h4⟩:=o0 h2
   exact ⟨⟨h1,h3⟩,h4⟩
def L6 (x:Option AV) (F:AV → Prop):Prop :=
 match x with
 | some a=>F a
 | none=>False
theorem F4 {x:Option AV} {F:AV → Prop} (h:L6 x F):∃ a,x = some a ∧ F a:=by
 unfold L6 at h
 split at h
 ·exact ⟨_,rfl,h⟩
 ·exact h.elim
def Gm (op:BinOp) (k:IntKind) (a b:Int) (F:AV → Prop):Prop :=
 match op,k with
 | .add, .i64=>D4 (-9223372036854775808 ≤ a + b ∧ a + b ≤ 9223372036854775807) (F (.v (.int .i64 (a + b))))
 | .sub, .i64=>D4 (-9223372036854775808 ≤ a - b ∧ a - b ≤ 9223372036854775807) (F (.v (.int .i64 (a - b))))
 | .mul, .i64=>D4 (-9223372036854775808 ≤ a * b ∧ a * b ≤ 9223372036854775807) (F (.v (.int .i64 (a * b))))
 | .quo, .i64=>D4 (b ≠ 0 ∧ -9223372036854775808 ≤ a.tdiv b ∧ a.tdiv b ≤ 9223372036854775807) (F (.v (.int .i64 (a.tdiv b))))
 | .quo,k=>D4 (b ≠ 0) (F (.v (.int k (k.wrap (a.tdiv b)))))
 | .rem,k=>D4 (b ≠ 0) (F (.v (.int k (a.tmod b))))
 | op,k=>match Y5 op k a b with
   | some r=>F (.v r)
   | none=>False
def MX (op:BinOp) (a b:List UInt8) (F:AV → Prop):Prop :=
 match op with
 | .add=>D4 (a.length + b.length ≤ 9223372036854775807) (F (.str (a ++ b)))
 | op=>match JO op a b with
   | some r=>F (.v r)
   | none=>False
def Jd (P:Program) (T:Nat) (op:BinOp) (a b:Bool) (F:AV → Prop):Prop :=
 match op with
 | .eql=>Dy P T (F (.v (.bool (decide (a = b)))))
 | .neq=>Dy P T (F (.v (.bool (decide (a ≠ b)))))
 | _=>False
def Je (P:Program) (T:Nat) (op:BinOp) (l m:List AV) (F:AV → Prop):Prop :=
 match op,l,m with
 | .eql,[.v (.int k1 a1), .v (.int k2 a2)],[.v (.int k3 b1), .v (.int k4 b2)]=>cond (decide (k1 = k3 ∧ k2 = k4)) (Dw P T k1 k2 (F (.v (.bool (decide (a1 = b1 ∧ a2 = b2)))))) False
 | .neq,[.v (.int k1 a1), .v (.int k2 a2)],[.v (.int k3 b1), .v (.int k4 b2)]=>cond (decide (k1 = k3 ∧ k2 = k4)) (Dw P T k1 k2 (F (.v (.bool (!decide (a1 = b1 ∧ a2 = b2)))))) False
 | .eql,[.v (.int k1 a1), .v (.int k2 a2), .v (.int k3 a3)],[.v (.int l1 b1), .v (.int l2 b2), .v (.int l3 b3)]=>cond (decide (k1 = l1 ∧ k2 = l2 ∧ k3 = l3)) (Dx P T k1 k2 k3 (F (.v (.bool (decide (a1 = b1 ∧ a2 = b2 ∧ a3 = b3)))))) False
 | .neq,[.v (.int k1 a1), .v (.int k2 a2), .v (.int k3 a3)],[.v (.int l1 b1), .v (.int l2 b2), .v (.int l3 b3)]=>cond (decide (k1 = l1 ∧ k2 = l2 ∧ k3 = l3)) (Dx P T k1 k2 k3 (F (.v (.bool (!decide (a1 = b1 ∧ a2 = b2 ∧ a3 = b3)))))) False
 | .eql,[.str a1, .v (.int k2 a2)],[.str b1, .v (.int k4 b2)]=>cond (decide (k2 = k4)) (Aw P T k2 (F (.v (.bool (decide (a1 = b1 ∧ a2 = b2)))))) False
 | .neq,[.str a1, .v (.int k2 a2)],[.str b1, .v (.int k4 b2)]=>cond (decide (k2 = k4)) (Aw P T k2 (F (.v (.bool (!decide (a1 = b1 ∧ a2 = b2)))))) False
 | _,_,_=>False
def EC:Operand → Bool
 | .const .nilIface=>true
 | _=>false
def Gn (P:Program) (T:Nat) (op:BinOp) (x:Option AV) (F:AV → Prop):Prop :=
 match op,x with
 | .eql,some .err=>AY P T (F (.v (.bool false)))
 | .neq,some .err=>AY P T (F (.v (.bool true)))
 | .eql,some (.v .nilIface)=>AY P T (F (.v (.bool true)))
 | .neq,some (.v .nilIface)=>AY P T (F (.v (.bool false)))
 | _,_=>False
def Gp (P:Program) (T:Nat) (op:BinOp) (x y:Option AV) (F:AV → Prop):Prop :=
 match op,x,y with
 | .shl,some (.v (.int k a)),some (.v (.int _ b))=>D4 (0 ≤ b) (F (.v (.int k (k.wrap (a * 2 ^ (min b.toNat k.bits))))))
 | .shr,some (.v (.int k a)),some (.v (.int _ b))=>D4 (0 ≤ b) (F (.v (.int k (a.fdiv (2 ^ (min b.toNat k.bits))))))
 | op,some (.v (.int k a)),some (.v (.int k' b))=>cond (decide (k = k')) (Gm op k a b F) False
 | op,some (.str s),some (.str t)=>MX op s t F
 | op,some (.v (.bool a)),some (.v (.bool b))=>Jd P T op a b F
 | op,some (.agg l),some (.agg m)=>Je P T op l m F
 | _,_,_=>False
def ED (P:Program) (T:Nat) (hp:Hp) (x:Option AV) (F:AV → Prop):Prop :=
 match x with
 | some (.ref i off)=>match A4 hp i with
   | some (.bx τ l)=>Bs P T fun ag sz=>cond ag
     (cond (Nat.beq off 0 && Nat.beq l.length sz) (F (.agg l)) (D4 (((l.drop off).take sz).length = sz) (F (.agg ((l.drop off).take sz)))))
     (L6 (l[off]?) F)
   | _=>False
 | some (.iptr l)=>Bs P T fun ag sz=>cond ag
   (cond (Nat.beq l.length sz) (F (.agg l)) (D4 ((l.take sz).length = sz) (F (.agg (l.take sz)))))
   (match l with | av :: _=>F av | []=>False)
 | some (.elt i ver k off)=>match A4 hp i with
   | some (.row _ sz ver' l)=>D4 (ver = ver') (J4 l (k:Int) fun el=>Bs P T fun ag szT=>cond ag
     (cond (Nat.beq off 0 && Nat.beq szT sz) (F (.agg el)) False) (L6 (el[off]?) F))
   | _=>False
 | _=>False
def Gq (hp:Hp) (off:Nat) (x:Option AV) (F:AV → Prop):Prop :=
 match x with
 | some (.ref i o)=>F (.ref i (o + off))
 | some (.iptr l)=>F (.iptr (l.drop off))
 | some (.elt i ver k o)=>match A4 hp i with
   | some (.row _ _ ver' _)=>D4 (ver = ver') (F (.elt i ver k (o + off)))
   | _=>False
 | _=>False
def Bx (P:Program) (T:Nat) (hp:Hp) (x y:Option AV) (F:AV → Prop):Prop :=
 match x,y with
 | some (.sl sz l),some (.v (.int _ i))=>Bd P T fun _ sz'=>cond (Nat.beq sz sz') (J4 l i fun el=>F (.iptr el)) False
 | some (.row r ver len),some (.v (.int _ i))=>match A4 hp r with
   | some (.row _ sz ver' _)=>D4 (ver = ver') (Bd P T fun _ sz'=>cond (Nat.beq sz sz') (D4 (0 ≤ i ∧ i < len) (F (.elt r ver i.toNat 0))) False)
   | _=>False
 | some (.ref r o),some (.v (.int _ i))=>JY P T fun len sz=>D4 (0 ≤ i ∧ i < len) (F (.ref r (o + i.toNat * sz)))
 | some (.iptr l),some (.v (.int _ i))=>JY P T fun len sz=>cond (Nat.beq sz 1 && Nat.beq l.length len) (J4 l i fun av=>F (.iptr [av])) False
 | _,_=>False
def MY (hp:Hp) (x:Option AV) (F:AV → Prop):Prop :=
 match x with
 | some (.ref i o)=>F (.ref i o)
 | some (.iptr l)=>F (.iptr l)
 | some (.elt i ver k o)=>match A4 hp i with
   | some (.row _ _ ver' _)=>D4 (ver = ver') (F (.elt i ver k o))
   | _=>False
 | _=>False
def Ax (P:Program) (T:Nat) (hp:Hp) (x:Option AV) (F:AV → Prop):Prop :=
 match x with
 | some (.sl _ l)=>Bd P T fun _ _=>Ei l fun m=>F (.i m)
 | some (.str s)=>k9 P T (F (.i s.length))
 | some (.row r ver len)=>match A4 hp r with
   | some (.row _ _ ver' _)=>D4 (ver = ver') (Bd P T fun _ _=>F (.i len))
   | _=>False
 | some (.v (.slice none 0 0))=>Bd P T fun _ _=>F (.i 0)
 | _=>False
def GB (P:Program) (f:Nat) (hp:Hp) (l caps:List AV) (F:AV → Prop):Prop:=cond (G9 l) (Dv P f (l ++ caps) F) (Qo P f hp l caps F)
def EE (P:Program) (T:Nat) (ev:Operand → Option AV) (x:Option AV) (lo hi:Option Operand) (F:AV → Prop):Prop :=
 match x with
 | some (.str s)=>k9 P T (match V6 ev 0 lo,V6 ev s.length hi with
   | some l,some h=>D4 (0 ≤ l ∧ l ≤ h ∧ h ≤ s.length) (F (.str ((s.take h.toNat).drop l.toNat)))
   | _,_=>False)
 | some (.sl sz s)=>Bd P T fun _ sz'=>cond (Nat.beq sz sz') (match V6 ev 0 lo,V6 ev s.length hi with
   | some l,some h=>D4 (0 ≤ l ∧ l ≤ h ∧ h ≤ s.length) (F (.sl sz ((s.take h.toNat).drop l.toNat)))
   | _,_=>False) False
 | _=>False
def El (P:Program) (T:Nat) (hp:Hp) (ok:Bool) (x y:Option AV) (F:AV → Prop):Prop :=
 match x,y with
 | some (.mp i),some kav=>match A4 hp i,keyOf kav with
   | some (.map m),some k=>JZ P T fun t z=>cond (n7 t k) (D4 (p8 t m) (cond ok (RL (.tup [Aq m k z, .b (m8 m k).isSome]) F) (RL (Aq m k z) F))) False
   | _,_=>False
 | _,_=>False
def y7 (P:Program) (op:Op) (ev:Operand → Option AV) (hp:Hp) (F:AV → Prop):Prop :=
 match op with
 | .move x=>L6 (ev x) F
 | .assign x=>L6 (ev x) F
 | .pick c a b=>match ev c with
   | some (.v (.bool t))=>W6 t (L6 (ev a) F) (L6 (ev b) F)
   | _=>False
 | .binOp op T x y _=>cond (EC y) (Gn P T op (ev x) F) (Gp P T op (ev x) (ev y) F)
 | .unOp .not _ x=>match ev x with
   | some (.v (.bool b))=>F (.v (.bool (!b)))
   | _=>False
 | .unOp .neg _ x=>match ev x with
   | some (.v (.int .i64 a))=>D4 (-9223372036854775807 ≤ a ∧ a ≤ 9223372036854775807) (F (.v (.int .i64 (-a))))
   | some (.v (.int .u64 a))=>F (.v (.int .u64 (IntKind.u64.wrap (-a))))
   | _=>False
 | .unOp .xor _ x=>match ev x with
   | some (.v (.int .u64 a))=>D4 (0 ≤ a ∧ a ≤ 18446744073709551615) (F (.v (.int .u64 (18446744073709551615 - a))))
   | _=>False
 | .load T x=>ED P T hp (ev x) F
 | .fieldAddr S x f=>Ej P S f fun off sz=>cond (Nat.blt 0 sz) (Gq hp off (ev x) F) False
 | .indexAddr T x y=>Bx P T hp (ev x) (ev y) F
 | .index T x y=>match ev x,ev y with
   | some (.str s),some (.v (.int _ i))=>k9 P T (J4 s i fun b=>F (.v (.int .u8 b.toNat)))
   | _,_=>False
 | .nilCheck x=>MY hp (ev x) F
 | .convert S T x=>L6 (ev x) fun a=>V0 P S T a F
 | .call ⟨.builtin .len,⟨[x]⟩,⟨[T]⟩⟩=>Ax P T hp (ev x) F
 | .call ⟨.builtin .min,⟨[x,y]⟩,⟨[_,_]⟩⟩=>match ev x,ev y with
   | some (.v (.int k a)),some (.v (.int k' b))=>cond (decide (k = k')) (F (.v (.int k (min a b)))) False
   | _,_=>False
 | .call ⟨.builtin .max,⟨[x,y]⟩,⟨[_,_]⟩⟩=>match ev x,ev y with
   | some (.v (.int k a)),some (.v (.int k' b))=>cond (decide (k = k')) (F (.v (.int k (max a b)))) False
   | _,_=>False
 | .call ⟨.value (.func f),⟨args⟩,_⟩=>match P7 ev args with
   | some l=>GB P f hp l [] F
   | none=>False
 | .call ⟨.value (.tmp t),⟨args⟩,_⟩=>match ev (.tmp t),P7 ev args with
   | some (.fn f caps),some l=>GB P f hp l caps F
   | _,_=>False
 | .build T ⟨parts⟩=>match W0 ev parts with
   | some ps=>Bt P T fun zs pl=>l9 hp ps (L6 ((W5 pl zs ps).map AV.agg) F)
   | none=>False
 | .buildSlice T len ⟨parts⟩=>match W0 ev parts with
   | some ps=>u5 P T fun _ sz _ _=>cond (Y6 0 ps && Q3 sz (J9 ps) && Nat.beq ps.length len && Nat.blt 0 sz) (D4 (len * sz ≤ 16777216) (l9 hp ps (EB (J9 ps) (F (.sl sz (J9 ps)))))) False
   | none=>False
 | .lookup T x y ok=>El P T hp ok (ev x) (ev y) F
 | .slice T x lo hi none=>EE P T ev (ev x) lo hi F
 | .extract x k=>match ev x with
   | some (.tup l)=>L6 (l[k]?) F
   | _=>False
 | .makeFunc (.func f) ⟨[]⟩ ⟨xs⟩=>match P7 ev xs with
   | some caps=>cond (G9 caps) (F (.fn f caps)) False
   | none=>False
 | _=>False
section sound
variable {P:Program} {E:Env} {nx:Nat} {hp:Hp} {ev:Operand → Option AV} {ty:TypeId} {x y:Operand} {F:AV → Prop} {T T2:TypeId}
theorem Pw {op:BinOp} (h:Gp P T op (ev x) (ev y) F):∃ av,D5 P E nx hp ev (.binOp op T x y T2) ty av ∧ F av:=by
 unfold Gp at h
 split at h
 ·rename_i hx hy;exact ⟨_,OE hx hy h.h,h.k⟩
 ·rename_i hx hy;exact ⟨_,OG hx hy h.h,h.k⟩
 ·rename_i hx hy
  obtain ⟨hk,hq⟩:=cond_false h
  clear h
  have hk:=of_decide_eq_true hk
  subst hk
  unfold Gm at hq
  split at hq
  ·exact ⟨_,l8 hx hy (by simp only [Y5,H5 hq.h]),hq.k⟩
  ·exact ⟨_,l8 hx hy (by simp only [Y5,H5 hq.h]),hq.k⟩
  ·exact ⟨_,l8 hx hy (by simp only [Y5,H5 hq.h]),hq.k⟩
  ·have hq2:=Fy (P:=P) (E:=E) (nx:=nx) (hp:=hp) (ty:=ty) (T:=T) (T2:=T2) hx hy hq.h.1
   rw [H5 hq.h.2] at hq2
   exact ⟨_,hq2,hq.k⟩
  ·exact ⟨_,Fy hx hy hq.h,hq.k⟩
  ·exact ⟨_,OD hx hy hq.h,hq.k⟩
  ·split at hq
   ·rename_i hr;exact ⟨_,l8 hx hy hr,hq⟩
   ·exact hq.elim
 ·rename_i s t hx hy
  unfold MX at h
  split at h
  ·exact ⟨_,KX hx hy h.h,h.k⟩
  ·split at h
   ·rename_i hr;exact ⟨_,KW hx hy hr,h⟩
   ·exact h.elim
 ·rename_i a b hx hy
  unfold Jd at h
  split at h
  ·have:=h.h;exact ⟨_,Fz (T:=T) false hx hy,h.k⟩
  ·have:=h.h;exact ⟨_,Fz (T:=T) true hx hy,h.k⟩
  ·exact h.elim
 ·rename_i l m hx hy
  unfold Je at h
  split at h
  ·obtain ⟨hk,hq⟩:=cond_false h
   obtain ⟨rfl,rfl⟩:=of_decide_eq_true hk
   have:=hq.h;exact ⟨_,Am (T:=T) false hx hy,hq.k⟩
  ·obtain ⟨hk,hq⟩:=cond_false h
   obtain ⟨rfl,rfl⟩:=of_decide_eq_true hk
   have:=hq.h;exact ⟨_,Am (T:=T) true hx hy,hq.k⟩
  ·obtain ⟨hk,hq⟩:=cond_false h
   obtain ⟨rfl,rfl,rfl⟩:=of_decide_eq_true hk
   have:=hq.h;exact ⟨_,Ao (T:=T) false hx hy,hq.k⟩
  ·obtain ⟨hk,hq⟩:=cond_false h
   obtain ⟨rfl,rfl,rfl⟩:=of_decide_eq_true hk
   have:=hq.h;exact ⟨_,Ao (T:=T) true hx hy,hq.k⟩
  ·obtain ⟨hk,hq⟩:=cond_false h
   obtain rfl:=of_decide_eq_true hk
   have:=hq.h;exact ⟨_,Dk (T:=T) false hx hy,hq.k⟩
  ·obtain ⟨hk,hq⟩:=cond_false h
   obtain rfl:=of_decide_eq_true hk
   have:=hq.h;exact ⟨_,Dk (T:=T) true hx hy,hq.k⟩
  ·exact h.elim
 ·exact h.elim
theorem MZ {op:BinOp} (hy:EC y = true) (h:Gn P T op (ev x) F):∃ av,D5 P E nx hp ev (.binOp op T x y T2) ty av ∧ F av:=by
 obtain rfl:y = .const .nilIface:=by
  unfold EC at hy
  split at hy
  ·rfl
  ·cases hy
 unfold Gn at h
 split at h
 ·rename_i hx;have:=h.h;exact ⟨_,GR (T:=T) false hx,h.k⟩
 ·rename_i hx;have:=h.h;exact ⟨_,GR (T:=T) true hx,h.k⟩
 ·rename_i hx;have:=h.h;exact ⟨_,GS (T:=T) false hx,h.k⟩
 ·rename_i hx;have:=h.h;exact ⟨_,GS (T:=T) true hx,h.k⟩
 ·exact h.elim
theorem Ol (h:ED P T hp (ev x) F):∃ av,D5 P E nx hp ev (.load T x) ty av ∧ F av:=by
 unfold ED at h
 split at h
 ·rename_i i off hx
  split at h
  ·rename_i l hb
   obtain ⟨⟨ag,sz,tv,h⟩⟩:=h
   cases ag with
   | true =>
     change cond (Nat.beq off 0 && Nat.beq l.length sz) _ _ at h
     cases hc:(Nat.beq off 0 && Nat.beq l.length sz) with
     | true =>
       rw [hc] at h
       simp only [Bool.and_eq_true,Nat.beq_eq] at hc
       obtain ⟨rfl,hs⟩:=hc
       exact ⟨_,Dg (sz:=sz) hx hb hs,h⟩
     | false =>
       rw [hc] at h
       exact ⟨_,e9 (sz:=sz) hx hb rfl h.h,h.k⟩
   | false =>
     obtain ⟨av,hl,h⟩:=F4 h
     exact ⟨_,Df (sz:=sz) hx hb hl,h⟩
  ·exact h.elim
 ·rename_i l hx
  obtain ⟨⟨ag,sz,tv,h⟩⟩:=h
  cases ag with
  | true =>
    change cond (Nat.beq l.length sz) _ _ at h
    cases hc:Nat.beq l.length sz with
    | true =>
      rw [hc] at h
      exact ⟨_,T4 (sz:=sz) hx (by rw [← Nat.eq_of_beq_eq_true hc,List.take_length]) (Nat.eq_of_beq_eq_true hc),h⟩
    | false =>
      rw [hc] at h
      exact ⟨_,T4 (sz:=sz) hx rfl h.h,h.k⟩
  | false =>
    cases l with
    | nil=>exact h.elim
    | cons av r=>exact ⟨_,Ci (sz:=sz) hx,h⟩
 ·rename_i i ver k off hx
  split at h
  ·rename_i e sz ver' l hb
   obtain ⟨rfl,hq⟩:=h
   obtain ⟨h0,h1,hk⟩:=hq
   have hlt:k < l.length:=by omega
   have hel:l[k]? = some l[k]:=List.getElem?_eq_getElem hlt
   obtain ⟨⟨ag,szT,tv,h⟩⟩:=hk l[k] (by rw [Int.toNat_natCast];exact hel)
   cases ag with
   | true =>
     obtain ⟨hc,h2⟩:=cond_false h
     simp only [Bool.and_eq_true,Nat.beq_eq] at hc
     obtain ⟨rfl,hs⟩:=hc
     exact ⟨_,Eb hx hb hel hs,h2⟩
   | false =>
     obtain ⟨av,hl,h⟩:=F4 h
     exact ⟨_,JP (szT:=szT) hx hb hel hl,h⟩
  ·exact h.elim
 ·exact h.elim
theorem Ma {S f off sz:Nat} [tf:L8 P S f off sz] (hz:Nat.blt 0 sz = true) (h:Gq hp off (ev x) F):∃ av,D5 P E nx hp ev (.fieldAddr S x f) ty av ∧ F av:=by
 unfold Gq at h
 split at h
 ·rename_i hx;exact ⟨_,Cj (off:=off) (sz:=sz) hx hz,h⟩
 ·rename_i hx;exact ⟨_,Bi (off:=off) (sz:=sz) hx hz,h⟩
 ·rename_i hx
  split at h
  ·rename_i hb
   obtain ⟨rfl,h⟩:=h
   exact ⟨_,Hl (off:=off) (sz:=sz) hx hb hz,h⟩
  ·exact h.elim
 ·exact h.elim
theorem Mb (h:Bx P T hp (ev x) (ev y) F):∃ av,D5 P E nx hp ev (.indexAddr T x y) ty av ∧ F av:=by
 unfold Bx at h
 split at h
 ·rename_i hx hy
  obtain ⟨⟨e,sz',ts,h⟩⟩:=h
  obtain ⟨hz,hq⟩:=cond_false h
  clear h
  have:=Nat.eq_of_beq_eq_true hz
  subst this
  obtain ⟨h0,h1,hk⟩:=hq
  rename_i sz l kk i
  have hlt:i.toNat < l.length:=by omega
  have hel:l[i.toNat]? = some l[i.toNat]:=List.getElem?_eq_getElem hlt
  exact ⟨_,Dh (e:=e) hx hy h0 hel,hk _ hel⟩
 ·rename_i hx hy
  split at h
  ·rename_i hb
   obtain ⟨rfl,h⟩:=h
   obtain ⟨⟨e,sz',ts,h⟩⟩:=h
   obtain ⟨hz,hq⟩:=cond_false h
   clear h
   have:=Nat.eq_of_beq_eq_true hz
   subst this
   exact ⟨_,Hm (e:=e) hx hb hy hq.h.1 hq.h.2,hq.k⟩
  ·exact h.elim
 ·rename_i hx hy
  obtain ⟨⟨len,e,sz,ta,h⟩⟩:=h
  exact ⟨_,Hn (e:=e) (sz:=sz) hx hy h.h.1 h.h.2,h.k⟩
 ·rename_i l kk i hx hy
  obtain ⟨⟨len,e,sz,ta,h⟩⟩:=h
  obtain ⟨hz,hq⟩:=cond_false h
  rw [Bool.and_eq_true] at hz
  have h1:=Nat.eq_of_beq_eq_true hz.1
  have h2:=Nat.eq_of_beq_eq_true hz.2
  subst h1
  obtain ⟨h0,h1,hk⟩:=hq
  have hlt:i.toNat < l.length:=by omega
  have hel:l[i.toNat]? = some l[i.toNat]:=List.getElem?_eq_getElem hlt
  exact ⟨_,GU (e:=e) hx hy h2 h0 hel,hk _ hel⟩
 ·exact h.elim
theorem Px (h:MY hp (ev x) F):∃ av,D5 P E nx hp ev (.nilCheck x) ty av ∧ F av:=by
 unfold MY at h
 split at h
 ·rename_i hx;exact ⟨_,Ka hx,h⟩
 ·rename_i hx;exact ⟨_,JQ hx,h⟩
 ·rename_i hx
  split at h
  ·rename_i hb
   obtain ⟨rfl,h⟩:=h
   exact ⟨_,Kb hx hb,h⟩
  ·exact h.elim
 ·exact h.elim
theorem Py (h:Ax P T hp (ev x) F):∃ av,D5 P E nx hp ev (.call ⟨.builtin .len, #[x], #[T]⟩) ty av ∧ F av:=by
 unfold Ax at h
 split at h
 ·rename_i hx
  obtain ⟨⟨e,sz,ts,h⟩⟩:=h
  exact ⟨_,GT (e:=e) (sz:=sz) hx,h.k⟩
 ·rename_i hx
  obtain ⟨ts,h⟩:=h
  exact ⟨_,FD hx,h⟩
 ·rename_i hx
  split at h
  ·rename_i hb
   obtain ⟨rfl,h⟩:=h
   obtain ⟨⟨e,sz,ts,h⟩⟩:=h
   exact ⟨_,KZ (e:=e) (sz:=sz) hx hb,h⟩
  ·exact h.elim
 ·rename_i hx
  obtain ⟨⟨e,sz,ts,h⟩⟩:=h
  exact ⟨_,FE (e:=e) (sz:=sz) hx,h⟩
 ·exact h.elim
theorem Mc {lo hi:Option Operand} (h:EE P T ev (ev x) lo hi F):∃ av,D5 P E nx hp ev (.slice T x lo hi none) ty av ∧ F av:=by
 unfold EE at h
 split at h
 ·rename_i hx
  obtain ⟨ts,h⟩:=h
  split at h
  ·rename_i hl hh;exact ⟨_,Cr hx hl hh h.h.1 h.h.2.1 h.h.2.2,h.k⟩
  ·exact h.elim
 ·rename_i hx
  obtain ⟨⟨e,sz',ts,h⟩⟩:=h
  obtain ⟨hz,hq⟩:=cond_false h
  clear h
  have:=Nat.eq_of_beq_eq_true hz
  subst this
  split at hq
  ·rename_i hl hh;exact ⟨_,JW (e:=e) hx hl hh hq.h.1 hq.h.2.1 hq.h.2.2,hq.k⟩
  ·exact hq.elim
 ·exact h.elim
theorem Kn {ok:Bool} (h:El P T hp ok (ev x) (ev y) F):∃ av,D5 P E nx hp ev (.lookup T x y ok) ty av ∧ F av:=by
 unfold El at h
 split at h
 ·rename_i hx hy
  split at h
  ·rename_i hb hk
   obtain ⟨⟨k,e,t,z,tm,h⟩⟩:=h
   obtain ⟨hkb,hq⟩:=cond_false h
   cases ok with
   | true=>exact ⟨_,Hr (T:=T) hx hb hy hk hkb hq.h,hq.k.h⟩
   | false=>exact ⟨_,MR (T:=T) hx hb hy hk hkb hq.h,hq.k.h⟩
  ·exact h.elim
 ·exact h.elim
theorem OL {op:Op} (h:y7 P op ev hp F):∃ av,D5 P E nx hp ev op ty av ∧ F av:=by
 unfold y7 at h
 split at h
 ·obtain ⟨a,hx,h⟩:=F4 h;exact ⟨a,KV hx,h⟩
 ·obtain ⟨a,hx,h⟩:=F4 h;exact ⟨a,GO hx,h⟩
 ·split at h
  ·rename_i t hc
   obtain ⟨h1,h2⟩:=h
   cases t with
   | true=>obtain ⟨a,hx,h⟩:=F4 (h1 rfl);exact ⟨a,MI hc hx,h⟩
   | false=>obtain ⟨a,hx,h⟩:=F4 (h2 rfl);exact ⟨a,MJ hc hx,h⟩
  ·exact h.elim
 ·rename_i y _
  cases hn:EC y with
  | true=>rw [hn] at h;exact MZ hn h
  | false=>rw [hn] at h;exact Pw h
 ·split at h
  ·rename_i hx;exact ⟨_,OH hx,h⟩
  ·exact h.elim
 ·split at h
  ·rename_i a hx
   have h1:=h.h
   refine ⟨_,OI hx,?_⟩
   rw [H5 (by omega)]
   exact h.k
  ·rename_i a hx;exact ⟨_,OI hx,h⟩
  ·exact h.elim
 ·split at h
  ·rename_i hx;exact ⟨_,Ob hx h.h,h.k⟩
  ·exact h.elim
 ·exact Ol h
 ·obtain ⟨⟨off,sz,tf,h⟩⟩:=h
  obtain ⟨hz,h⟩:=cond_false h
  exact Ma (off:=off) (sz:=sz) hz h
 ·exact Mb h
 ·split at h
  ·rename_i s k i hx hy
   obtain ⟨ts,h0,h1,hk⟩:=h
   have hlt:i.toNat < s.length:=by omega
   have hel:s[i.toNat]? = some s[i.toNat]:=List.getElem?_eq_getElem hlt
   exact ⟨_,Ck hx hy h0 hel,hk _ hel⟩
  ·exact h.elim
 ·exact Px h
 ·obtain ⟨a,hx,h⟩:=F4 h
  obtain ⟨⟨r,hr,h⟩⟩:=h
  cases hr with
  | bytes l hl=>rename_i e sz _ _ _;exact ⟨_,Cn (e:=e) (sz:=sz) hx hl,h⟩
  | back l=>rename_i e sz _ _ _;exact ⟨_,Co (e:=e) (sz:=sz) hx,h⟩
  | int m=>exact ⟨_,Di hx,h⟩
  | rune m=>exact ⟨_,Cp hx,h⟩
 ·exact Py h
 ·split at h
  ·rename_i hx hy
   obtain ⟨hk,h2⟩:=cond_false h
   have:=of_decide_eq_true hk
   subst this
   exact ⟨_,Ql hx hy,h2⟩
  ·exact h.elim
 ·split at h
  ·rename_i hx hy
   obtain ⟨hk,h2⟩:=cond_false h
   have:=of_decide_eq_true hk
   subst this
   exact ⟨_,OJ hx hy,h2⟩
  ·exact h.elim
 ·split at h
  ·rename_i l hl
   unfold GB at h
   cases hc:G9 l with
   | true =>
     rw [hc] at h
     obtain ⟨⟨r,hr,h⟩⟩:=h
     rw [List.append_nil] at hr
     exact ⟨_,Ec hr hl hc,h⟩
   | false =>
     rw [hc] at h
     obtain ⟨⟨is,L,r,hL,hcl,hr,hfl,h⟩⟩:=h
     exact ⟨_,Kj is hr hl hL hcl hfl fun _ _ _ _=>⟨[],rfl,rfl,fun j x c hx=>by simp at hx⟩,h⟩
  ·exact h.elim
 ·split at h
  ·rename_i f caps l hg hl
   unfold GB at h
   cases hc:G9 l with
   | true =>
     rw [hc] at h
     obtain ⟨⟨r,hr,h⟩⟩:=h
     exact ⟨_,ML hg hr hl hc,h⟩
   | false =>
     rw [hc] at h
     obtain ⟨⟨is,L,r,hL,hcl,hr,hfl,h⟩⟩:=h
     refine ⟨_,Kj is hr hl hL hcl hfl fun θ a w h=>?_,h⟩
     have:=(h.rel hg)
     generalize a.eval _ = v at this
     cases this with
     | im hi=>cases hi with | fn f l cs hl hc=>exact ⟨cs,rfl,hl,hc⟩
  ·exact h.elim
 ·split at h
  ·rename_i ps hps
   obtain ⟨⟨zs,pl,tz,tp,h⟩⟩:=h
   obtain ⟨hf,h⟩:=P2 h
   obtain ⟨a,ha,h⟩:=F4 h
   rw [Option.map_eq_some_iff] at ha
   obtain ⟨l,hl,rfl⟩:=ha
   exact ⟨_,IR (T:=_) hps hf hl,h⟩
  ·exact h.elim
 ·split at h
  ·rename_i ps hps
   obtain ⟨⟨e,sz,bs,z,ts,tz,tb,hz,h⟩⟩:=h
   obtain ⟨hc,h⟩:=cond_false h
   simp only [Bool.and_eq_true,Nat.beq_eq,Nat.blt_eq] at hc
   obtain ⟨hs,h⟩:=h
   obtain ⟨hf,h⟩:=P2 h
   obtain ⟨hi,h⟩:=o0 h
   exact ⟨_,Bo (e:=e) (z:=z) hps hf hc.1.1.1 hc.1.1.2 hc.1.2 hz hs hc.2 hi,h⟩
  ·exact h.elim
 ·exact Kn h
 ·exact Mc h
 ·split at h
  ·rename_i hx
   obtain ⟨a,ha,h⟩:=F4 h
   exact ⟨a,FI hx ha,h⟩
  ·exact h.elim
 ·split at h
  ·rename_i caps hc
   obtain ⟨hcl,h⟩:=cond_false h
   exact ⟨_,JV hc hcl,h⟩
  ·exact h.elim
 ·exact h.elim
end sound
def Rd (a:AV):Prop:=∃ U w v,Im U w a v
theorem Rd.sl {sz:Nat} {l:List (List AV)} (h:Rd (.sl sz l)):l.length ≤ 9223372036854775807:=by
 obtain ⟨U,w,v,h⟩:=h
 cases h with
 | slnil=>simp
 | sl sz l a cap f hcap hm hu hsz hc h=>unfold maxLen at hm;omega
theorem Rd.agg {l:List AV} (h:Rd (.agg l)):∀ x ∈ l,Rd x:=by
 obtain ⟨U,w,v,h⟩:=h
 cases h with
 | agg l cs hl h =>
   intro x hx
   obtain ⟨j,hj,rfl⟩:=List.getElem_of_mem hx
   have h2:j < cs.length:=by omega
   exact ⟨U,w,_,h j _ _ (List.getElem?_eq_getElem hj) (List.getElem?_eq_getElem h2)⟩
theorem Rd.elem {sz:Nat} {l:List (List AV)} (h:Rd (.sl sz l)):∀ e ∈ l,∀ x ∈ e,Rd x:=by
 obtain ⟨U,w,v,h⟩:=h
 cases h with
 | slnil=>intro e he;cases he
 | sl sz l a cap f hcap hm hu hsz hc h =>
   intro e he x hx
   obtain ⟨i,hi,rfl⟩:=List.getElem_of_mem he
   obtain ⟨j,hj,rfl⟩:=List.getElem_of_mem hx
   exact ⟨U,w,_,h i _ (List.getElem?_eq_getElem hi) j _ (List.getElem?_eq_getElem hj)⟩
def l4:List AV → Nat → List (Nat × AV)
 | [],_=>[]
 | a :: r,k=>(k,a) :: l4 r (k + 1)
theorem Ay:∀ (l:List AV) (k s:Nat) (x:AV),look (l4 l k) s = some x → k ≤ s ∧ l[s - k]? = some x
 | [],_,_,_,h=>by cases h
 | a :: r,k,s,x,h=>by
   simp only [l4,E1] at h
   by_cases e:k = s
   ·subst e;simp at h;subst h;simp
   ·rw [if_neg e] at h
    obtain ⟨h1,h2⟩:=Ay r (k + 1) s x h
    refine ⟨by omega,?_⟩
    have:s - k = (s - (k + 1)) + 1:=by omega
    rw [this]
    simpa using h2
def L9 (tmps:Array Value):ResultVar → Sem Value
 | .tmp t=>pure (tmps.getD t undef)
 | .cell a t=>do loadVar t (← asAddr (tmps.getD a undef))
theorem DK {P:Program} {w:World} {tmps:Array Value}:∀ {rvs:List ResultVar} {vs:List Value},rvs.length = vs.length → (∀ (j:Nat) rv v,rvs[j]? = some rv → vs[j]? = some v → (L9 tmps rv).run P w = .ok v w) → (rvs.mapM (L9 tmps)).run P w = .ok vs w
 | [],[],_,_=>by simp [Sem.run_pure]
 | rv :: r,v :: s,hl,h=>by
   have h1:=h 0 rv v rfl rfl
   have h2:=DK (rvs:=r) (vs:=s) (by simpa using hl) (fun j rv v hj hv=>h (j + 1) rv v (by simpa using hj) (by simpa using hv))
   simp [List.mapM_cons,Sem.run_bind,h1,h2]
 | [],_ :: _,hl,_=>by simp at hl
 | _ :: _,[],hl,_=>by simp at hl
theorem Ct {P:Program} {w:World} {fn:Func} {tmps:Array Value} {rvs:List ResultVar} {vs:List Value} (h:fn.results = rvs.toArray) (hne:rvs.length ≠ 1) (hl:rvs.length = vs.length) (hv:∀ (j:Nat) rv v,rvs[j]? = some rv → vs[j]? = some v → (L9 tmps rv).run P w = .ok v w) :
  (results fn tmps).run P w = .ok (.tuple vs.toArray) w:=by
 have hm:=DK (P:=P) (w:=w) (tmps:=tmps) hl hv
 have e:results fn tmps = (do let vs ← fn.results.mapM (L9 tmps);pure (if h:vs.size = 1 then vs[0] else .tuple vs)):=by
  unfold results
  congr
 rw [e,h,List.mapM_toArray]
 simp only [Sem.run_bind,map_eq_pure_bind,hm,Sem.run_pure,Result.andThen_ok]
 rw [dif_neg (by simp;omega)]
theorem Gr {P:Program} {w:World} {fn:Func} {tmps:Array Value} {rv:ResultVar} {v:Value} (h:fn.results = [rv].toArray) (hv:(L9 tmps rv).run P w = .ok v w) :
  (results fn tmps).run P w = .ok v w:=by
 have hm:=DK (P:=P) (w:=w) (tmps:=tmps) (rvs:=[rv]) (vs:=[v]) rfl (fun j rv' v' hj hv'=>by
  cases j with
  | zero=>simp at hj hv';subst hj hv';exact hv
  | succ j=>simp at hj)
 have e:results fn tmps = (do let vs ← fn.results.mapM (L9 tmps);pure (if h:vs.size = 1 then vs[0] else .tuple vs)):=by
  unfold results
  congr
 rw [e,h,List.mapM_toArray]
 simp only [Sem.run_bind,map_eq_pure_bind,hm,Sem.run_pure,Result.andThen_ok]
 rfl
inductive NL:AV → AV → Prop
 | refl (a:AV):NL a a
 | any (a:AV):NL a .any
 | nil (sz:Nat):NL (.v (.slice none 0 0)) (.sl sz [])
 | agg (l m:List AV) (h:l.length = m.length) (hh:∀ (j:Nat) x y,l[j]? = some x → m[j]? = some y → NL x y):NL (.agg l) (.agg m)
 | tup (l m:List AV) (h:l.length = m.length) (hh:∀ (j:Nat) x y,l[j]? = some x → m[j]? = some y → NL x y):NL (.tup l) (.tup m)
 | sl (sz:Nat) (l m:List (List AV)) (h:l.length = m.length) (hl:∀ (i:Nat) e e',l[i]? = some e → m[i]? = some e' → e.length = e'.length) (hh:∀ (i:Nat) e e',l[i]? = some e → m[i]? = some e' → ∀ (j:Nat) x y,e[j]? = some x → e'[j]? = some y → NL x y):NL (.sl sz l) (.sl sz m)
theorem O6 {α β:Type} {l:List α} {m:List β} (h:l.length = m.length) {j:Nat} {y:β} (hy:m[j]? = some y):∃ x,l[j]? = some x:=by
 have:=(List.getElem?_eq_some_iff.1 hy).1
 exact ⟨_,List.getElem?_eq_getElem (by omega)⟩
theorem NL.im {U:Nat → Prop} {w:World} {a b:AV} (h:NL a b):∀ {v:Value},Im U w a v → Im U w b v:=by
 induction h with
 | refl a=>intro v h;exact h
 | any a=>intro v h;exact .any v
 | nil sz=>intro v h;cases h;exact .slnil sz
 | agg l m hl hh ih =>
   intro v h
   cases h with
   | agg l cs hc h =>
     refine .agg m cs (by omega) fun j y c hy hc2=>?_
     obtain ⟨x,hx⟩:=O6 hl hy
     exact ih j x y hx hy (h j x c hx hc2)
 | tup l m hl hh ih =>
   intro v h
   cases h with
   | tup l cs hc h =>
     refine .tup m cs (by omega) fun j y c hy hc2=>?_
     obtain ⟨x,hx⟩:=O6 hl hy
     exact ih j x y hx hy (h j x c hx hc2)
 | sl sz l m hl hlen hh ih =>
   intro v h
   cases h with
   | slnil =>
     have:m = []:=List.eq_nil_of_length_eq_zero (by rw [← hl];rfl)
     subst this
     exact .slnil sz
   | sl sz l a cap f hcap hm hu hsz hc h =>
     rw [hl]
     refine .sl sz m a cap f (by omega) hm (fun hne=>hu (fun e=>hne (List.eq_nil_of_length_eq_zero (by rw [← hl,e];rfl)))) (fun e he=>?_) (fun i hi=>hc i (by omega)) (fun i e' he' j y hy=>?_)
     ·obtain ⟨i,hi,rfl⟩:=List.getElem_of_mem he
      obtain ⟨x,hx⟩:=O6 hl (List.getElem?_eq_getElem hi)
      rw [← hlen i x _ hx (List.getElem?_eq_getElem hi)]
      exact hsz x (List.mem_of_getElem? hx)
     ·obtain ⟨e,he⟩:=O6 hl he'
      obtain ⟨x,hx⟩:=O6 (hlen i e e' he he') hy
      exact ih i e e' he he' j x y hx hy (h i e he j x hx)
theorem Ko {c:Cx} {a b:AV} (h:NL a b):∀ {v:Value},C7 c a v → C7 c b v:=by
 induction h with
 | refl a=>intro v h;exact h
 | any a=>intro v h;exact .any v
 | nil sz=>intro v h;rw [h.val];exact .im (.slnil sz)
 | agg l m hl hh ih =>
   intro v h
   obtain ⟨cs,rfl,hc,hr⟩:=p7 h
   refine .agg m cs (by omega) fun j y z hy hz=>?_
   obtain ⟨x,hx⟩:=O6 hl hy
   exact ih j x y hx hy (hr j x z hx hz)
 | tup l m hl hh ih =>
   intro v h
   have:∃ cs:List Value,v = .tuple cs.toArray ∧ l.length = cs.length ∧ ∀ (j:Nat) u z,l[j]? = some u → cs[j]? = some z → C7 c u z:=by
    cases h with
    | im hi=>cases hi with | tup l cs hl hc=>exact ⟨cs,rfl,hl,fun j u z hu hz=>.im (hc j u z hu hz)⟩
    | tup l cs hl hc=>exact ⟨cs,rfl,hl,hc⟩
   obtain ⟨cs,rfl,hc,hr⟩:=this
   refine .tup m cs (by omega) fun j y z hy hz=>?_
   obtain ⟨x,hx⟩:=O6 hl hy
   exact ih j x y hx hy (hr j x z hx hz)
 | sl sz l m hl hlen hh ih =>
   intro v h
   cases h with
   | im hi=>exact .im ((NL.sl sz l m hl hlen hh).im hi)
def Jf (P:Program) (σ:St):ResultVar → AV → Prop
 | .tmp t,a=>∃ a',(look σ.sl t).map (F8 σ.hp []) = some a' ∧ NL a' a
 | .cell t T,a=>∃ i τ l sz,look σ.sl t = some (.ref i 0) ∧ A4 σ.hp i = some (.bx τ l) ∧ G5 P T true sz ∧ l.length = sz ∧ NL (.agg (W1 σ.hp [] l)) a
def Az (P:Program) (σ:St):List ResultVar → List AV → Prop
 | [],[]=>True
 | v :: r,a :: s=>Jf P σ v a ∧ Az P σ r s
 | _,_=>False
theorem Az.get {P:Program} {σ:St}:∀ {rvs:List ResultVar} {as:List AV},Az P σ rvs as → rvs.length = as.length ∧ ∀ (j:Nat) rv a,rvs[j]? = some rv → as[j]? = some a → Jf P σ rv a
 | [],[],_=>⟨rfl,fun j rv a h=>by simp at h⟩
 | v :: r,a :: s,h=>by
   obtain ⟨h1,h2⟩:=Az.get h.2
   refine ⟨by simp [h1],fun j rv b hj hb=>?_⟩
   cases j with
   | zero=>simp at hj hb;subst hj hb;exact h.1
   | succ j=>exact h2 j rv b (by simpa using hj) (by simpa using hb)
 | [],_ :: _,h=>h.elim
 | _ :: _,[],h=>h.elim
def Pz (P:Program) (rs:Array ResultVar) (r:AV) (σ:St):Prop :=
 (∃ rvs as,rs = rvs.toArray ∧ rvs.length ≠ 1 ∧ Az P σ rvs as ∧ r = .tup as) ∨
 (∃ t,rs = #[.tmp t] ∧ (look σ.sl t).map (F8 σ.hp []) = some r) ∨
 (∃ t sz,rs = #[.tmp t] ∧ look σ.sl t = some (.v (.slice none 0 0)) ∧ r = .sl sz []) ∨
 (∃ t u a b,rs = #[.tmp t, .tmp u] ∧ (look σ.sl t).map (F8 σ.hp []) = some a ∧ (look σ.sl u).map (F8 σ.hp []) = some b ∧ r = .tup [a,b]) ∨
 (∃ t T i τ l,rs = #[.cell t T] ∧ look σ.sl t = some (.ref i 0) ∧ A4 σ.hp i = some (.bx τ l) ∧ r = .agg (W1 σ.hp [] l))
def G2 (P:Program) (rs:Array ResultVar) (r:AV):Exit → St → Prop
 | .ret,σ=>Pz P rs r σ
 | .normal,σ=>Pz P rs r σ
 | _,_=>False
theorem C2 {P:Program} {t:Nat} {r r':AV} {σ:St} (h:(look σ.sl t).map (F8 σ.hp []) = some r') (e:r' = r):G2 P #[.tmp t] r .ret σ:=.inr (.inl ⟨t,rfl,e ▸ h⟩)
theorem u6 {P:Program} {rs:List ResultVar} {vs:List AV} {r:AV} {σ:St} (hn:(Nat.beq rs.length 1) = false) (h:Az P σ rs vs) (e:.tup vs = r):G2 P rs.toArray r .ret σ:=.inl ⟨rs,vs,rfl,(fun h=>by rw [h] at hn;cases hn),h,e.symm⟩
theorem P3 {P:Program} {t:Nat} {a' a:AV} {σ:St} (h:(look σ.sl t).map (F8 σ.hp []) = some a') (e:NL a' a):Jf P σ (.tmp t) a:=⟨a',h,e⟩
theorem I0 {P:Program} {t T i u sz τ:Nat} {l:List AV} {a b b' r:AV} {σ:St} [tv:G5 P T true sz] (h:look σ.sl t = some (.ref i 0)) (hb:A4 σ.hp i = some (.bx τ l)) (hl:Nat.beq l.length sz = true) (na:NL (.agg (W1 σ.hp [] l)) a) (h2:(look σ.sl u).map (F8 σ.hp []) = some b') (nb:NL b' b) (e:.tup [a,b] = r):G2 P #[.cell t T, .tmp u] r .ret σ :=
 u6 (rs:=[.cell t T, .tmp u]) (vs:=[a,b]) rfl ⟨⟨i,τ,l,sz,h,hb,tv,Nat.eq_of_beq_eq_true hl,na⟩,⟨b',h2,nb⟩,trivial⟩ e
theorem BA {P:Program} {t u:Nat} {a b r:AV} {σ:St} (h:(look σ.sl t).map (F8 σ.hp []) = some a) (h2:(look σ.sl u).map (F8 σ.hp []) = some b) (e:.tup [a,b] = r):G2 P #[.tmp t, .tmp u] r .ret σ:=.inr (.inr (.inr (.inl ⟨t,u,a,b,rfl,h,h2,e.symm⟩)))
theorem Om {P:Program} {t sz:Nat} {r:AV} {σ:St} (h:look σ.sl t = some (.v (.slice none 0 0))) (e:.sl sz [] = r):G2 P #[.tmp t] r .ret σ:=.inr (.inr (.inl ⟨t,sz,rfl,h,e.symm⟩))
theorem K8 {P:Program} {t T i τ:Nat} {l:List AV} {r:AV} {σ:St} (h:look σ.sl t = some (.ref i 0)) (h2:A4 σ.hp i = some (.bx τ l)) (e:.agg (W1 σ.hp [] l) = r):G2 P #[.cell t T] r .ret σ:=.inr (.inr (.inr (.inr ⟨t,T,i,τ,l,rfl,h,h2,e.symm⟩)))
section rules
variable {P:Program} {E:Env} {n:Nat} {ops:Array Oper} {rest:List Oper} {σ:St} {K:St → Prop} {Q:Exit → St → Prop}
variable {d:Nat} {ty:TypeId} {pos:String} {after:Array Edge} {x y:Operand}
theorem Kp {fn:Func} {r:AV} {X:Nat → Prop} {w w':World} {htb:N8 (fun k=>X k ∨ (fun _=>False) k) w} {rf:Bool} {θ:Th} {σ':St} {a:Act} (hs:H9 ⟨w,X,fun _=>False,fun _=>undef,0,htb,rf⟩ n θ σ' a w') (hdf:a.defers = []) (hcl:J8 r)
  (hcells:∀ t T,fn.results = #[.cell t T] → ∃ sz,G5 P T true sz ∧ ∀ l,r = .agg l → l.length = sz) (hret:Pz P fn.results r σ'):bodyPost P fn (fun e w''=>∃ v,e = .returned v ∧ Im X w'' r v ∧ Below w.heap.size w w'') .ret a w':=by
 have hbel:Below w.heap.size w w':=⟨hs.fr.os,hs.fr.tape,hs.fr.output,hs.fr.size,fun k hk=>hs.fr.block k hk (fun h=>h)⟩
 have hcv:=hs.cv (σ':=⟨Y7 (F8 σ'.hp []) σ'.sl,σ'.nx,[]⟩) (Nat.zero_le _) (fun s x' hx=>by
  rw [n9,Option.map_eq_some_iff] at hx
  obtain ⟨x,h1,h2⟩:=hx
  exact ⟨x,h1,h2, .inl (Nat.le_refl _)⟩) (fun i b' hi=>by cases hi) (fun i e sz v l hi=>by cases hi)
 have toX:∀ {a:AV} {v:Value},J8 a → C7 (cx ⟨w,X,fun _=>False,fun _=>undef,0,htb,rf⟩ θ ⟨Y7 (F8 σ'.hp []) σ'.sl,σ'.nx,[]⟩ w') a v → Im X w' a v:=fun hc hi=>(hc.im hi).mono (fun _ _ _=>rfl) fun k _ hu=>.inl hu
 have slot:∀ {t:Nat} {r:AV},(look σ'.sl t).map (F8 σ'.hp []) = some r → look (Y7 (F8 σ'.hp []) σ'.sl) t = some r:=fun h=>by rw [n9];exact h
 rcases hret with ⟨rvs,as,h1,hn1,hrv,rfl⟩ | ⟨t,h1,h2⟩ | ⟨t,sz,h1,h2,rfl⟩ | ⟨t,u,a1,b1,h1,h2,h3,rfl⟩ | ⟨t,T,i,τ,l,h1,h2,h3,rfl⟩
 ·obtain ⟨hlen,hget⟩:=Az.get hrv
  have hcls:∀ a ∈ as,J8 a:=by cases hcl with | tup hk=>exact hk
  have one:∀ (rv:ResultVar) (b:AV),J8 b → Jf P σ' rv b → ∃ v,(L9 a.tmps rv).run P w' = .ok v w' ∧ Im X w' b v:=by
   intro rv b hb hv
   cases rv with
   | tmp t =>
     obtain ⟨a',h1,h2⟩:=hv
     exact ⟨_,by simp [L9,Sem.run_pure],toX hb (Ko h2 (hcv.slots t a' (slot h1)))⟩
   | cell t T =>
     obtain ⟨i,τ,l,sz,h2,h3,tv,hlsz,hnl⟩:=hv
     obtain ⟨b1,hθ,hv,_⟩:=O4 (hs.slots t _ h2)
     obtain ⟨b',arr,T',hθ',hh,hsz,hr⟩:=(hs.owns i _ h3).2
     have hbb:θ i = .pointer (some ⟨b1,0,none⟩):=hθ
     have hbb':θ i = .pointer (some ⟨b',0,none⟩):=hθ'
     rw [hbb] at hbb'
     cases hbb'
     have hh':w'.heap[b1]? = some (.cells arr T' (0,0)):=hh
     have sub:(cx ⟨w,X,fun _=>False,fun _=>undef,0,htb,rf⟩ θ σ' w').sub (cx ⟨w,X,fun _=>False,fun _=>undef,0,htb,rf⟩ θ ⟨Y7 (F8 σ'.hp []) σ'.sl,σ'.nx,[]⟩ w'):=⟨rfl,rfl,fun _ h=>h,(fun i b' hi=>by cases hi),hs.apart,fun i b k hi hk=>(hs.mine i b k hi hk).1,fun i b hi=>(hs.owns i b hi).2⟩
     have hload:=K7 (P:=P) (T:=T) (sz:=sz) (w:=w') (a:=⟨b1,0,none⟩) (cs:=arr.toList) (by rw [Array.length_toList,hsz,hlsz]) (fun j v hj=>by rw [E7,G3 hh'];simpa using hj)
     refine ⟨.agg arr,by simp [L9,hv,Sem.run_bind,Sem.run_pure,asAddr,hload],toX hb (Ko hnl (by
      have:=C7.agg (c:=cx ⟨w,X,fun _=>False,fun _=>undef,0,htb,rf⟩ θ ⟨Y7 (F8 σ'.hp []) σ'.sl,σ'.nx,[]⟩ w') (W1 σ'.hp [] l) arr.toList (by rw [J6];simp [hsz]) (fun j x y hx hy=>by
       rw [J6] at hx
       simp only [List.getElem?_map,Option.map_eq_some_iff] at hx
       obtain ⟨u0,hu0,rfl⟩:=hx
       exact Bp sub (hr j u0 y hu0 (by simpa using hy)) (.inl (Nat.le_refl _)))
      simpa using this))⟩
  have all:∀ (m:Nat),m ≤ rvs.length → ∃ vs:List Value,vs.length = m ∧ ∀ (j:Nat) rv v,rvs[j]? = some rv → vs[j]? = some v → (L9 a.tmps rv).run P w' = .ok v w' ∧ ∀ b,as[j]? = some b → Im X w' b v:=by
   intro m
   induction m with
   | zero=>intro _;exact ⟨[],rfl,fun j rv v _ h=>by simp at h⟩
   | succ m ih =>
     intro hm
     obtain ⟨vs,hl,hvs⟩:=ih (by omega)
     have hrvm:rvs[m]? = some rvs[m]:=List.getElem?_eq_getElem (by omega)
     have ham:as[m]? = some (as[m]'(by omega)):=List.getElem?_eq_getElem (by omega)
     obtain ⟨v,hv1,hv2⟩:=one rvs[m] (as[m]'(by omega)) (hcls _ (List.getElem_mem _)) (hget m _ _ hrvm ham)
     refine ⟨vs ++ [v],by simp [hl],fun j rv u hj hu=>?_⟩
     by_cases e:j < m
     ·rw [List.getElem?_append_left (by omega)] at hu
      exact hvs j rv u hj hu
     ·rw [List.getElem?_append_right (by omega),hl] at hu
      have ej:j = m:=by
       have:=(List.getElem?_eq_some_iff.1 hu).1
       simp at this;omega
      subst ej
      simp at hu
      subst hu
      rw [hrvm] at hj
      cases hj
      exact ⟨hv1,fun b hb=>by rw [ham] at hb;cases hb;exact hv2⟩
  obtain ⟨vs,hvl,hvs⟩:=all rvs.length (Nat.le_refl _)
  refine ⟨hdf,_,Ct h1 hn1 hvl.symm (fun j rv v hj hv=>(hvs j rv v hj hv).1),_,rfl, .tup as vs (by omega) fun j b v hb hv=>?_,hbel⟩
  obtain ⟨rv,hrv2⟩:=O6 hlen hb
  exact (hvs j rv v hrv2 hv).2 b hb
 ·exact ⟨hdf,_,results_tmp h1 _ _ _,_,rfl,toX hcl (hcv.slots t r (slot h2)),hbel⟩
 ·exact ⟨hdf,_,results_tmp h1 _ _ _,_,rfl,by rw [(hs.slots t _ h2).val];exact .slnil sz,hbel⟩
 ·refine ⟨hdf,_,results_tmp2 h1 _ _ _,_,rfl,?_,hbel⟩
  refine toX hcl (.tup [a1,b1] [_,_] rfl fun j x y hx hy=>?_)
  match j,hx,hy with
  | 0,hx,hy=>cases hx;cases hy;exact hcv.slots t _ (slot h2)
  | 1,hx,hy=>cases hx;cases hy;exact hcv.slots u _ (slot h3)
 ·obtain ⟨b,hθ,hv,_⟩:=O4 (hs.slots t _ h2)
  obtain ⟨b',arr,T',hθ',hh,hsz,hr⟩:=(hs.owns i _ h3).2
  have hbb:θ i = .pointer (some ⟨b,0,none⟩):=hθ
  have hbb':θ i = .pointer (some ⟨b',0,none⟩):=hθ'
  rw [hbb] at hbb'
  cases hbb'
  obtain ⟨sz,tv,hlen⟩:=hcells t T h1
  have hlsz:=hlen _ rfl
  rw [J6,List.length_map] at hlsz
  have hh':w'.heap[b]? = some (.cells arr T' (0,0)):=hh
  have sub:(cx ⟨w,X,fun _=>False,fun _=>undef,0,htb,rf⟩ θ σ' w').sub (cx ⟨w,X,fun _=>False,fun _=>undef,0,htb,rf⟩ θ ⟨Y7 (F8 σ'.hp []) σ'.sl,σ'.nx,[]⟩ w'):=⟨rfl,rfl,fun _ h=>h,(fun i b' hi=>by cases hi),hs.apart,fun i b k hi hk=>(hs.mine i b k hi hk).1,fun i b hi=>(hs.owns i b hi).2⟩
  refine ⟨hdf, .agg arr,?_,_,rfl,toX hcl (by
   have:=C7.agg (c:=cx ⟨w,X,fun _=>False,fun _=>undef,0,htb,rf⟩ θ ⟨Y7 (F8 σ'.hp []) σ'.sl,σ'.nx,[]⟩ w') (W1 σ'.hp [] l) arr.toList (by rw [J6];simp [hsz]) (fun j x y hx hy=>by
    rw [J6] at hx
    simp only [List.getElem?_map,Option.map_eq_some_iff] at hx
    obtain ⟨u0,hu0,rfl⟩:=hx
    exact Bp sub (hr j u0 y hu0 (by simpa using hy)) (.inl (Nat.le_refl _)))
   simpa using this),hbel⟩
  have hload:=K7 (P:=P) (T:=T) (sz:=sz) (w:=w') (a:=⟨b,0,none⟩) (cs:=arr.toList) (by rw [Array.length_toList,hsz,hlsz]) (fun j v hj=>by rw [E7,G3 hh'];simpa using hj)
  rw [Array.getD_eq_getD_getElem?] at hv
  simp [results,h1,hv,Sem.run_bind,Sem.run_pure,asAddr,hload]
theorem Hx {f : Nat} {fn : Func} {code : Code} {args : List AV} {r : AV} {rs : Array ResultVar} (hf : P.funcs[f]? = some fn) (hname : (fn.name == "runtime.NumGoroutine") = false) (hb : fn.body = some code) (hn : fn.ntmps = n) (hrs : fn.results = rs)
  (hargs:Nat.ble args.length n = true) (hcl:H7 r = true) (hcells:∀ t T,rs = #[.cell t T] → ∃ sz,G5 P T true sz ∧ ∀ l,r = .agg l → l.length = sz)
  (h:(∀ a ∈ args,Rd a) → ∀ E,E.n0 = 0 → E2 P E n code ⟨l4 args 0,0,[]⟩ (G2 P rs r)):B4 P f args r:=by
 subst hn hrs
 have hcl:=Q1 hcl
 refine ⟨⟨fn,hf,hname,by rw [hb];rfl⟩,fun X w vs hX htab hl hvs=>?_⟩
 have htb:N8 (fun k=>X k ∨ (fun _=>False) k) w:=htab.mono (fun k _ h=>h.elim id False.elim) fun _ _ _=>rfl
 have hrd:∀ a ∈ args,Rd a:=by
  intro a ha
  obtain ⟨j,hj,rfl⟩:=List.getElem_of_mem ha
  have h2:j < vs.length:=by omega
  exact ⟨X,w,_,hvs j _ _ (List.getElem?_eq_getElem hj) (List.getElem?_eq_getElem h2)⟩
 refine calls_of_wp hf hb ?_
 have hle:args.length ≤ fn.ntmps:=Nat.ble_eq ▸ hargs
 have start:T5 ⟨w,X,fun _=>False,fun _=>undef,0,htb,false⟩ fn.ntmps ⟨l4 args 0,0,[]⟩ { tmps:=vs.toArray ++ Array.replicate (fn.ntmps - vs.toArray.size) undef,defers:=[] } w:=by
  refine ⟨⟨fun _=>undef,fun _ _=>none⟩,?_, .nil,⟨rfl,rfl,rfl,Nat.le_refl _,fun _ _ _=>rfl⟩,fun s x hs=>?_,fun i b hi=>?_,fun i j b b' k hi=>?_,fun i b k hi=>?_,hX,⟨Nat.le_refl _,fun i hi=>?_⟩⟩
  ·simp;omega
  ·obtain ⟨_,hx⟩:=Ay args 0 s x hs
   rw [Nat.sub_zero] at hx
   have hlt:s < vs.length:=by rw [← hl];exact (List.getElem?_eq_some_iff.1 hx).1
   have hv:vs[s]? = some vs[s]:=List.getElem?_eq_getElem hlt
   have e:(vs.toArray ++ Array.replicate (fn.ntmps - vs.toArray.size) undef).getD s undef = vs[s]:=by
    rw [Array.getD_eq_getD_getElem?,Array.getElem?_append]
    simp [hlt]
   rw [e]
   refine .im ((hvs s x _ hx hv).mono (fun _ _ _=>rfl) fun k _ hu=>?_)
   rcases hu with hu | ⟨i,b,hi,_⟩
   ·exact hu
   ·cases hi
  ·cases hi
  ·cases hi
  ·cases hi
  ·exact absurd hi (Nat.not_lt_zero _)
 refine wp_mono (h hrd ⟨w,X,fun _=>False,fun _=>undef,0,htb,false⟩ rfl _ w start) ?_
 rintro e a w' ⟨σ',hq,θ,hs⟩
 have fin:=Kp (P:=P) (fn:=fn) (r:=r) hs (hs.defers.1 rfl) hcl hcells
 cases e with
 | normal=>exact fin hq
 | ret=>exact fin hq
 | exit id=>exact hq.elim
 | goto l=>exact hq.elim
 | panic c=>exact hq.elim
 | outgrown=>exact hq.elim
theorem B4.congr {f:Nat} {args:List AV} {r r':AV} (h:B4 P f args r) (e:r = r'):B4 P f args r':=e ▸ h
theorem IY {l:List Oper} {σ':St} (h:St.le E n σ σ') (k:B3 P E n ops l σ' K):B3 P E n ops l σ K:=fun a w hs=>k a w (h a w hs)
theorem U0 {d e sz:Nat} (hd:look σ.sl d = some (.v (.slice none 0 0))) (he:Nat.blt e C4 = true:=by rfl):St.le E n σ ((σ.new (.row e sz 0 [])).put d (.row σ.nx 0 0)):=by
 rintro a w ⟨θ,h⟩
 have h2:=h.grow (w':=w) (Below.refl _ _) (.slice none 0 0) (.row e sz 0 []) (fun k hk=>by cases hk) (fun le=>⟨[],⟨by simp, .inl ⟨by simp [cx,D0],rfl⟩⟩,(fun el hel=>by cases hel),(fun k el hk=>by simp at hk), .lt (Nat.blt_eq ▸ he)⟩) (K6 (Nat.blt_eq ▸ he))
 refine ⟨_,h2.size,h2.defers,h2.fr,fun s x hs=>?_,h2.owns,h2.apart,h2.mine,h2.X,h2.base⟩
 simp only [St.put,E1] at hs
 by_cases ed:d = s
 ·subst ed
  rw [if_pos rfl] at hs
  cases hs
  have hv:=(h.slots d _ hd).val
  rw [hv]
  refine .row _ _ _ _ (by simp [cx,St.new,St.put]) fun e' sz' v' l' hl=>?_
  simp only [cx,St.new,St.put,D2,if_pos] at hl
  cases hl
  exact ⟨Nat.le_refl _,fun _=>⟨rfl,by simp [cx,D0]⟩⟩
 ·rw [if_neg ed] at hs
  exact h2.slots s x hs
structure O7 (P:Program) (E:Env) (n:Nat) (ops:Array Oper) (o:Oper) (rest:List Oper) (l:List AV) (σ:St) (K:St → Prop):Prop where
 h:B3 P E n ops (o :: rest) σ K
mutual
def Md:AV → Option Nat
 | .ref i _ | .row i _ _ | .elt i _ _ _=>some i
 | .agg l | .tup l | .fo _ l=>FM l
 | _=>none
def FM:List AV → Option Nat
 | []=>none
 | x :: r=>match Md x with
   | some i=>some i
   | none=>FM r
end
theorem Kq {o:Oper} {l:List AV} (i:Nat) (h:B3 P E n ops (o :: rest) (σ.frz i) K):O7 P E n ops o rest l σ K:=⟨IY (Gh i) h⟩
def lits:List Nat:=[0,1,2,3,4,5,6,7,8,9,10,11,12,13,14,15,16,17,18,19,20,21,22,23,24,25,26,27,28,29,30,31,32,33,34,35,36,37,38,39,40,41,42,43,44,45,46,47,48,49,50,51,52,53,54,55,56,57,58,59,60,61,62,63]
def Bz:List Nat → Nat → Option Nat
 | [],_=>none
 | x :: _,0=>some x
 | _ :: r,k + 1=>Bz r k
theorem IZ:∀ (l:List Nat) (m:Nat),Bz l m = l[m]?
 | [],m=>by simp [Bz]
 | x :: r,0=>by simp [Bz]
 | x :: r,k + 1=>by simp [Bz,IZ r k]
theorem Kr {m k:Nat} (h:Bz lits m = some k):k = m:=by
 by_cases hm:m < 64
 ·have h2:∀ j,j < 64 → Bz lits j = some j:=by decide
  rw [h2 m hm] at h
  exact (Option.some.inj h).symm
 ·rw [IZ,List.getElem?_eq_none (by simp [lits];omega)] at h
  cases h
def E6 (m:Nat) (F:Nat → Prop):Prop :=
 match Bz lits m with
 | some k=>F k
 | none=>F m
theorem C8 {m:Nat} {F:Nat → Prop} (h:E6 m F):F m:=by
 unfold E6 at h
 split at h
 ·rename_i hk;rw [Kr hk] at h;exact h
 ·exact h
def Gs (P:Program) (E:Env) (n:Nat) (ops:Array Oper) (o:Oper) (T:Nat) (x y:Option AV) (rest:List Oper) (σ:St) (K:St → Prop):Prop :=
 match x,y with
 | some (.ref i off),some av=>match A4 σ.hp i with
   | some (.bx τ l)=>Bs P T fun _ sz=>cond (Nat.beq (H1 av).length sz && Nat.ble (off + sz) l.length) (Gl σ.hp av (Jc σ.hp (H1 av) (B3 P E n ops rest (σ.set i (.bx τ (X6 l off (H1 av)))) K))) False
   | _=>False
 | some (.elt i ver k off),some av=>match A4 σ.hp i with
   | some (.row e sz ver' l)=>D4 (ver = ver' ∧ off < sz) (Bs P T fun ag szT=>cond (cond ag false (Nat.beq szT 1 && R4 e)) (cond (H7 av) (Gk σ.hp av (J4 l (k:Int) fun el=>B3 P E n ops rest (σ.set i (.row e sz ver (l.set k (el.set off av)))) K)) (O7 P E n ops o rest [av] σ K)) False)
   | _=>False
 | _,_=>False
def OM (P:Program) (E:Env) (n:Nat) (ops:Array Oper) (d T:Nat) (x y:Option AV) (rest:List Oper) (σ:St) (K:St → Prop):Prop :=
 match x,y with
 | some (.v (.int .i64 m)),some (.v (.int .i64 m'))=>u5 P T fun e sz bs z=>cond (Nat.blt e H0) (D4 (m = m' ∧ 0 ≤ m ∧ bs * m.toNat ≤ 281474976710656 ∧ m ≤ 9223372036854775807) (E6 σ.nx fun nx=>B3 P E n ops rest ((σ.new (.row e sz 0 (List.replicate m.toNat z))).put d (.row nx 0 m.toNat)) K)) False
 | _,_=>False
def Ia (P:Program) (E:Env) (n:Nat) (ops:Array Oper) (d T:Nat) (x y:Option AV) (rest:List Oper) (σ:St) (K:St → Prop):Prop :=
 match x,y with
 | some (.row i ver len),some (.sl sz' m)=>match A4 σ.hp i with
   | some (.row e sz ver' l)=>D4 (ver = ver') (u5 P T fun e' sz2 bs _=>cond (Nat.beq e e' && Nat.beq sz sz2 && Nat.beq sz sz' && Nat.blt 0 sz && Nat.blt e C6) (D4 (∀ el ∈ m,∀ u ∈ el,M1 u) (D4 ((len + m.length) * bs ≤ 140737488355328 ∧ len + m.length ≤ 9223372036854775807)
     (B3 P E n ops rest ((σ.set i (.row e sz (ver + 1) (l ++ m))).put d (.row i (ver + 1) (len + m.length))) K))) False)
   | _=>False
 | some (.row i ver len),some (.row j ver2 len2)=>match A4 σ.hp i,A4 σ.hp j with
   | some (.row e sz ver' l),some (.row _ sz' ver2' m)=>D4 (ver = ver' ∧ ver2 = ver2') (u5 P T fun e' sz2 bs _=>cond (Nat.beq e e' && Nat.beq sz sz2 && Nat.beq sz sz' && Nat.blt 0 sz && Nat.blt e C6) (D4 (∀ el ∈ m,∀ u ∈ el,M1 u) (D4 ((len + m.length) * bs ≤ 140737488355328 ∧ len + m.length ≤ 9223372036854775807)
     (B3 P E n ops rest ((σ.set i (.row e sz (ver + 1) (l ++ m))).put d (.row i (ver + 1) (len + m.length))) K))) False)
   | _,_=>False
 | some (.v (.slice none 0 0)),some (.sl sz' m)=>u5 P T fun e sz bs _=>cond (Nat.beq sz sz' && Nat.blt 0 sz && Nat.blt e C6) (D4 (∀ el ∈ m,∀ u ∈ el,M1 u) (D4 ((0 + m.length) * bs ≤ 140737488355328 ∧ 0 + m.length ≤ 9223372036854775807)
   (E6 σ.nx fun nx=>B3 P E n ops rest (((σ.new (.row e sz 0 [])).set nx (.row e sz 1 ([] ++ m))).put d (.row nx 1 (0 + m.length))) K))) False
 | _,_=>False
def Ib (P:Program) (E:Env) (n:Nat) (ops:Array Oper) (d T T2:Nat) (x:Option AV) (s:List UInt8) (rest:List Oper) (σ:St) (K:St → Prop):Prop :=
 match x with
 | some (.row i ver len)=>match A4 σ.hp i with
   | some (.row e sz ver' l)=>D4 (ver = ver') (u5 P T fun e' sz2 bs _=>k9 P T2 (cond (Nat.beq e e' && Nat.beq sz 1 && Nat.beq sz2 1 && Nat.beq bs 1 && Nat.blt e C6) (OK P e (D4 (len + s.length ≤ 140737488355328) (B3 P E n ops rest ((σ.set i (.row e 1 (ver + 1) (l ++ Bc s))).put d (.row i (ver + 1) (len + s.length))) K))) False))
   | _=>False
 | some (.v (.slice none 0 0))=>u5 P T fun e sz bs _=>k9 P T2 (cond (Nat.beq sz 1 && Nat.beq bs 1 && Nat.blt e C6) (OK P e (D4 (0 + s.length ≤ 140737488355328) (E6 σ.nx fun nx=>B3 P E n ops rest (((σ.new (.row e 1 0 [])).set nx (.row e 1 1 ([] ++ Bc s))).put d (.row nx 1 (0 + s.length))) K))) False)
 | _=>False
def Ks (P:Program) (E:Env) (n:Nat) (ops:Array Oper) (T:Nat) (x y z:Option AV) (rest:List Oper) (σ:St) (K:St → Prop):Prop :=
 match x,y,z with
 | some (.mp i),some kav,some av=>match A4 σ.hp i,keyOf kav with
   | some (.map m),some k=>JZ P T fun t _=>cond (n7 t k && H7 av) (D4 (p8 t m) (B3 P E n ops rest (σ.set i (.map (AO m k av))) K)) False
   | _,_=>False
 | _,_,_=>False
def QA (P:Program) (E:Env) (n:Nat) (ops:Array Oper) (o:Oper) (rest:List Oper) (σ:St) (K:St → Prop):Prop :=
 match o.dst,o.op with
 | some d, .box T x=>cond (Nat.blt d n) (L6 (D3 σ x) fun av=>Gl σ.hp av (E6 σ.nx fun nx=>B3 P E n ops rest ((σ.new (.box (H1 av))).put d (.ref nx 0)) K)) False
 | some d, .alloc T=>cond (Nat.blt d n) (JX P T fun l=>E6 σ.nx fun nx=>B3 P E n ops rest ((σ.new (.box l)).put d (.ref nx 0)) K) False
 | none, .store T x y=>Gs P E n ops ⟨o.dst,o.op,o.type,o.pos,o.after,none⟩ T (D3 σ x) (D3 σ y) rest σ K
 | some d, .makeSlice T x y=>cond (Nat.blt d n) (OM P E n ops d T (D3 σ x) (D3 σ y) rest σ K) False
 | some d, .makeMap T none=>cond (Nat.blt d n) (E6 σ.nx fun nx=>B3 P E n ops rest ((σ.new (.map [])).put d (.mp nx)) K) False
 | none, .mapUpdate T x y z=>Ks P E n ops T (D3 σ x) (D3 σ y) (D3 σ z) rest σ K
 | some d, .call ⟨.builtin .append,⟨[x,y]⟩,⟨[T,T']⟩⟩=>match D3 σ y with
   | some (.str s)=>cond (Nat.blt d n) (Ib P E n ops d T T' (D3 σ x) s rest σ K) False
   | _=>cond (Nat.blt d n && Nat.beq T T') (Ia P E n ops d T (D3 σ x) (D3 σ y) rest σ K) False
 | some d, .call ⟨.builtin .unsafeSliceData,⟨[x]⟩,ts⟩=>O7 P E n ops ⟨o.dst,o.op,o.type,o.pos,o.after,none⟩ rest [] σ K
 | some d, .call ⟨.builtin .unsafeString,⟨[x,y]⟩,ts⟩=>O7 P E n ops ⟨o.dst,o.op,o.type,o.pos,o.after,none⟩ rest [] σ K
 | some d, .call ⟨.value (.func f),⟨args⟩,_⟩=>cond (Nat.blt d n) (match P7 (D3 σ) args with
   | some l=>cond (G9 l) (Dv P f (l ++ []) fun av=>B3 P E n ops rest (σ.put d av) K) (O7 P E n ops ⟨o.dst,o.op,o.type,o.pos,o.after,none⟩ rest l σ K)
   | none=>False) False
 | some d, .call ⟨.value (.tmp t),⟨args⟩,ts⟩=>match D3 σ (.tmp t),P7 (D3 σ) args with
   | some (.fo _ caps),some l=>O7 P E n ops ⟨o.dst,o.op,o.type,o.pos,o.after,none⟩ rest (l ++ caps) σ K
   | _,_=>cond (Nat.blt d n) (y7 P (.call ⟨.value (.tmp t),⟨args⟩,ts⟩) (D3 σ) σ.hp fun av=>B3 P E n ops rest (σ.put d av) K) False
 | some d, .buildSlice T len ⟨parts⟩=>match W0 (D3 σ) parts with
   | some ps=>cond (ps.all fun p=>H7 p.2) (cond (Nat.blt d n) (y7 P (.buildSlice T len ⟨parts⟩) (D3 σ) σ.hp fun av=>B3 P E n ops rest (σ.put d av) K) False) (O7 P E n ops ⟨o.dst,o.op,o.type,o.pos,o.after,none⟩ rest (ps.map (·.2)) σ K)
   | none=>False
 | some d, .slice T x lo hi none=>match D3 σ x with
   | some (.row i v len)=>O7 P E n ops ⟨o.dst,o.op,o.type,o.pos,o.after,none⟩ rest [.row i v len] σ K
   | _=>cond (Nat.blt d n) (y7 P (.slice T x lo hi none) (D3 σ) σ.hp fun av=>B3 P E n ops rest (σ.put d av) K) False
 | some d, .makeFunc f ⟨x :: xs⟩ ⟨[]⟩=>O7 P E n ops ⟨o.dst,o.op,o.type,o.pos,o.after,none⟩ rest [] σ K
 | some d, .makeFunc f ⟨[]⟩ ⟨xs⟩=>cond (Nat.blt d n) (match P7 (D3 σ) xs with
   | some l=>cond (G9 l) (y7 P (.makeFunc f ⟨[]⟩ ⟨xs⟩) (D3 σ) σ.hp fun av=>B3 P E n ops rest (σ.put d av) K) (O7 P E n ops ⟨o.dst,o.op,o.type,o.pos,o.after,none⟩ rest l σ K)
   | none=>False) False
 | some d,op=>cond (Nat.blt d n) (y7 P op (D3 σ) σ.hp fun av=>B3 P E n ops rest (σ.put d av) K) False
 | _,_=>False
theorem Gt {T:Nat} (h:Gs P E n ops ⟨none, .store T x y,ty,pos,after,none⟩ T (D3 σ x) (D3 σ y) rest σ K):B3 P E n ops (⟨none, .store T x y,ty,pos,after,none⟩ :: rest) σ K:=by
 unfold Gs at h
 split at h
 ·rename_i hx hy
  split at h
  ·rename_i hb
   obtain ⟨⟨ag,sz,tv,h⟩⟩:=h
   obtain ⟨hs,h⟩:=cond_false h
   simp only [Bool.and_eq_true,Nat.beq_eq,Nat.ble_eq] at hs
   obtain ⟨hf,h⟩:=Bw h
   obtain ⟨ho,h⟩:=EA h
   exact Ef (ag:=ag) (sz:=sz) hx hy hb hf ho hs.1 hs.2 h
  ·exact h.elim
 ·rename_i hx hy
  split at h
  ·rename_i e sz ver' l hb
   obtain ⟨⟨rfl,hoff⟩,h⟩:=h
   obtain ⟨⟨ag,szT,tv,h⟩⟩:=h
   obtain ⟨hs,h3⟩:=cond_false h
   clear h
   cases ag with
   | true=>cases hs
   | false =>
    have h4:=h3
    clear h3
    cases hcl:H7 _ with
    | false =>
     rw [hcl] at h4
     exact h4.h
    | true =>
     rw [hcl] at h4
     obtain ⟨ho,h⟩:=Bv h4
     obtain ⟨h0,h1,hk⟩:=h
     rename_i k _ _ _
     have hlt:k < l.length:=by omega
     have hel:l[k]? = some l[k]:=List.getElem?_eq_getElem hlt
     have hs2:(Nat.beq szT 1 && R4 e) = true:=hs
     rw [Bool.and_eq_true] at hs2
     exact Eg (szT:=szT) hx hy hb hel hoff (Nat.eq_of_beq_eq_true hs2.1) hcl ho (hk _ (by rw [Int.toNat_natCast];exact hel)) hs2.2
  ·exact h.elim
 ·exact h.elim
theorem Kt {o:Oper} (hg:o.guard = none) (h:QA P E n ops o rest σ K):B3 P E n ops (o :: rest) σ K:=by
 obtain ⟨dst,op,ty,pos,after,guard⟩:=o
 simp only at hg
 subst hg
 have quiet:∀ {d:Nat} {op:Op},Nat.blt d n = true → y7 P op (D3 σ) σ.hp (fun av=>B3 P E n ops rest (σ.put d av) K) → B3 P E n ops (⟨some d,op,ty,pos,after,none⟩ :: rest) σ K:=by
  intro d op hd h
  obtain ⟨av,hq,h⟩:=OL (E:=E) (nx:=σ.nx) (ty:=ty) h
  exact GN hq hd h
 unfold QA at h
 simp only at h
 split at h
 ·rename_i ho
  obtain ⟨hd,h⟩:=cond_false h
  obtain ⟨av,hx,h⟩:=F4 h
  obtain ⟨hf,h⟩:=Bw h
  exact MM hx hf hd (C8 h)
 ·obtain ⟨hd,h⟩:=cond_false h
  obtain ⟨⟨l,tz,h⟩⟩:=h
  exact JU (l:=l) hd (C8 h)
 ·exact Gt h
 ·obtain ⟨hd,h⟩:=cond_false h
  unfold OM at h
  split at h
  ·rename_i hx hy
   obtain ⟨⟨e,sz,bs,z,ts,tz,tb,hz,h⟩⟩:=h
   obtain ⟨hek,hq⟩:=cond_false h
   clear h
   obtain ⟨⟨rfl,h0,h1,h2⟩,hq⟩:=hq
   exact Kh (e:=e) (z:=z) (by_:=bs) hx hy h0 h1 h2 hz (Nat.blt_eq ▸ hek) hd (C8 hq)
  ·exact h.elim
 ·obtain ⟨hd,h⟩:=cond_false h
  exact Gd hd (C8 h)
 ·unfold Ks at h
  split at h
  ·rename_i hx hy hz
   split at h
   ·rename_i hb hk
    obtain ⟨⟨k,e,t,z,tm,h⟩⟩:=h
    obtain ⟨hc,h⟩:=cond_false h
    simp only [Bool.and_eq_true] at hc
    exact Eh (T:=_) hx hb hy hk hc.1 h.h hz hc.2 h.k
   ·exact h.elim
  ·exact h.elim
 ·split at h
  ·rename_i hys
   obtain ⟨hd,h3⟩:=cond_false h
   clear h
   unfold Ib at h3
   split at h3
   ·rename_i hx
    split at h3
    ·rename_i hb
     obtain ⟨rfl,h⟩:=h3
     obtain ⟨⟨e,sz,bs,z,ts,tz,tb,hz,h⟩⟩:=h
     obtain ⟨tu,h⟩:=h
     obtain ⟨hc,h5⟩:=cond_false h
     clear h
     simp only [Bool.and_eq_true,Nat.beq_eq,Nat.blt_eq] at hc
     obtain ⟨⟨⟨⟨rfl,rfl⟩,rfl⟩,rfl⟩,hbe⟩:=hc
     obtain ⟨⟨hlen,h⟩⟩:=h5
     exact Dn hx hb hys hbe hlen hd h
    ·exact h3.elim
   ·rename_i hx
    obtain ⟨⟨e,sz,bs,z,ts,tz,tb,hz,h⟩⟩:=h3
    obtain ⟨tu,h⟩:=h
    obtain ⟨hc,h5⟩:=cond_false h
    clear h
    simp only [Bool.and_eq_true,Nat.beq_eq,Nat.blt_eq] at hc
    obtain ⟨⟨rfl,rfl⟩,hbe⟩:=hc
    obtain ⟨⟨hlen,h⟩⟩:=h5
    exact Bn hx hys hbe hlen hd (C8 h)
   ·exact h3.elim
  rename_i hys
  clear hys
  obtain ⟨hd,h3⟩:=cond_false h
  clear h
  have h:=h3
  clear h3
  simp only [Bool.and_eq_true,Nat.beq_eq] at hd
  obtain ⟨hd,rfl⟩:=hd
  unfold Ia at h
  split at h
  ·rename_i hx hy
   split at h
   ·rename_i hb
    obtain ⟨rfl,h⟩:=h
    obtain ⟨⟨e,sz,bs,z,ts,tz,tb,hz,h⟩⟩:=h
    obtain ⟨hc,h3⟩:=cond_false h
    clear h
    simp only [Bool.and_eq_true,Nat.beq_eq,Nat.blt_eq] at hc
    obtain ⟨⟨⟨⟨rfl,rfl⟩,rfl⟩,hpos⟩,hbe⟩:=hc
    obtain ⟨him,h⟩:=h3
    obtain ⟨hlen,h⟩:=h
    exact Do (z:=z) (by_:=bs) hx hb hy him hz hpos hbe hlen.1 hlen.2 hd h
   ·exact h.elim
  ·rename_i hx hy
   split at h
   ·rename_i hb hb2
    obtain ⟨⟨rfl,rfl⟩,h⟩:=h
    obtain ⟨⟨e,sz,bs,z,ts,tz,tb,hz,h⟩⟩:=h
    obtain ⟨hc,h3⟩:=cond_false h
    clear h
    simp only [Bool.and_eq_true,Nat.beq_eq,Nat.blt_eq] at hc
    obtain ⟨⟨⟨⟨rfl,rfl⟩,rfl⟩,hpos⟩,hbe⟩:=hc
    obtain ⟨him,h⟩:=h3
    obtain ⟨hlen,h⟩:=h
    exact DI (z:=z) (by_:=bs) hx hb hy hb2 him hz hpos hbe hlen.1 hlen.2 hd h
   ·exact h.elim
  ·rename_i hx hy
   obtain ⟨⟨e,sz,bs,z,ts,tz,tb,hz,h⟩⟩:=h
   obtain ⟨hc,h3⟩:=cond_false h
   clear h
   simp only [Bool.and_eq_true,Nat.beq_eq,Nat.blt_eq] at hc
   obtain ⟨⟨rfl,hpos⟩,hbe⟩:=hc
   obtain ⟨him,h⟩:=h3
   obtain ⟨hlen,h⟩:=h
   exact Dp (z:=z) (by_:=bs) hx hy him hz hpos hbe hlen.1 hlen.2 hd (C8 h)
  ·exact h.elim
 ·exact h.h
 ·exact h.h
 ·obtain ⟨hd,h⟩:=cond_false h
  split at h
  ·rename_i l hl
   cases hc:G9 l with
   | true =>
     rw [hc] at h
     obtain ⟨⟨r,hr,h⟩⟩:=h
     rw [List.append_nil] at hr
     exact GN (Ec hr hl hc) hd h
   | false =>
     rw [hc] at h
     exact h.h
  ·exact h.elim
 ·split at h
  ·exact h.h
  ·obtain ⟨hd,h⟩:=cond_false h
   exact quiet hd h
 ·split at h
  ·rename_i ps hps
   cases hc:ps.all fun p=>H7 p.2 with
   | true =>
     rw [hc] at h
     obtain ⟨hd,h⟩:=cond_false h
     exact quiet hd h
   | false =>
     rw [hc] at h
     exact h.h
  ·exact h.elim
 ·split at h
  ·exact h.h
  ·obtain ⟨hd,h⟩:=cond_false h
   exact quiet hd h
 ·exact h.h
 ·obtain ⟨hd,h⟩:=cond_false h
  split at h
  ·rename_i l hl
   cases hc:G9 l with
   | true =>
     rw [hc] at h
     exact quiet hd h
   | false =>
     rw [hc] at h
     exact h.h
  ·exact h.elim
 ·obtain ⟨hd,h⟩:=cond_false h
  exact quiet hd h
 ·exact h.elim
structure J1 (b g:Bool) (A B:Prop):Prop where
 t:b = g → A
 f:b = (!g) → B
theorem Me {A B:Prop} (k:A):J1 true true A B:=⟨fun _=>k,fun h=>by cases h⟩
theorem Mf {A B:Prop} (k:A):J1 false false A B:=⟨fun _=>k,fun h=>by cases h⟩
theorem Mg {A B:Prop} (k:B):J1 true false A B:=⟨(fun h=>by cases h),fun _=>k⟩
theorem Mh {A B:Prop} (k:B):J1 false true A B:=⟨(fun h=>by cases h),fun _=>k⟩
theorem Mi {p A B:Prop} [Decidable p] (h1:p → A) (h2:¬ p → B):J1 (decide p) true A B:=⟨fun h=>h1 (of_decide_eq_true h),fun h=>h2 (of_decide_eq_false h)⟩
theorem Mj {p A B:Prop} [Decidable p] (h1:¬ p → A) (h2:p → B):J1 (decide p) false A B:=⟨fun h=>h1 (of_decide_eq_false h),fun h=>h2 (of_decide_eq_true h)⟩
theorem Mk {b:Bool} {A B:Prop} (h1:b = true → A) (h2:b = false → B):J1 b true A B:=⟨h1,h2⟩
theorem Ml {b:Bool} {A B:Prop} (h1:b = false → A) (h2:b = true → B):J1 b false A B:=⟨h1,h2⟩
theorem Ku {p A B:Prop} [Decidable p] (h1:¬ p → A) (h2:p → B):J1 (!decide p) true A B:=⟨fun h=>h1 (by simpa using h),fun h=>h2 (by simpa using h)⟩
theorem Kv {p A B:Prop} [Decidable p] (h1:p → A) (h2:¬ p → B):J1 (!decide p) false A B:=⟨fun h=>h1 (by simpa using h),fun h=>h2 (by simpa using h)⟩
theorem Kw {b:Bool} {A B:Prop} (h1:b = false → A) (h2:b = true → B):J1 (!b) true A B:=⟨fun h=>h1 (by simpa using h),fun h=>h2 (by simpa using h)⟩
theorem Kx {b:Bool} {A B:Prop} (h1:b = true → A) (h2:b = false → B):J1 (!b) false A B:=⟨fun h=>h1 (by simpa using h),fun h=>h2 (by simpa using h)⟩
def QB (P:Program) (E:Env) (n:Nat) (ops:Array Oper) (l:List Oper) (σ:St) (K:St → Prop):Prop :=
 match l with
 | []=>K σ
 | ⟨dst,op,ty,pos,after,none⟩ :: rest=>QA P E n ops ⟨dst,op,ty,pos,after,none⟩ rest σ K
 | ⟨some dd,op,ty,pos,after,some (j,g)⟩ :: rest=>match (ops[j]?).bind (·.dst) with
   | some dj=>cond (Nat.blt dd n) (match look σ.sl dj with
     | some (.v (.bool b))=>J1 b g (B3 P E n ops (⟨some dd,op,ty,pos,after,none⟩ :: rest) (σ.put dj (.v (.bool g))) K)
       (B3 P E n ops rest ((σ.put dj (.v (.bool !g))).put dd (.v undef)) K)
     | some (.v (.tuple t))=>B3 P E n ops rest (σ.put dd (.v undef)) K
     | _=>False) False
   | none=>False
 | ⟨none,_,_,_,_,some _⟩ :: _=>False
theorem A6 {l:List Oper} (h:QB P E n ops l σ K):B3 P E n ops l σ K:=by
 unfold QB at h
 split at h
 ·exact MD h
 ·exact Kt rfl h
 ·split at h
  ·rename_i dj hj
   obtain ⟨hdd,h⟩:=cond_false h
   split at h
   ·rename_i b hb
    exact GK hj hb hdd h.t h.f
   ·rename_i t hb
    exact BX hj hb rfl hdd h
   ·exact h.elim
  ·exact h.elim
 ·exact h.elim
structure ON (P:Program) (E:Env) (n:Nat) (c:Code) (σ:St) (Q:Exit → St → Prop):Prop where
 h:E2 P E n (.loop c) σ Q
structure l5 (P:Program) (E:Env) (n:Nat) (id:Nat) (ops:Array Oper) (σ:St) (Q:Exit → St → Prop):Prop where
 h:E2 P E n (.region id ops true) σ Q
def Jg (P:Program) (E:Env) (n:Nat) (c:Code) (σ:St) (Q:Exit → St → Prop):Prop :=
 match c with
 | .seq a b=>E2 P E n a σ (Fx (fun σ'=>E2 P E n b σ' Q) Q)
 | .region _ ops false=>B3 P E n ops ops.toList σ (fun σ'=>Q .normal σ')
 | .region id ops true=>l5 P E n id ops σ Q
 | .skip=>Q .normal σ
 | .ret=>Q .ret σ
 | .exit i=>Q (.exit i) σ
 | .block id c=>E2 P E n c σ (DZ id Q)
 | .cond (.tmp t) a b=>match look σ.sl t with
   | some (.v (.bool c))=>W6 c (E2 P E n a (σ.put t (.v (.bool true))) Q) (E2 P E n b (σ.put t (.v (.bool false))) Q)
   | _=>False
 | .cond (.const (.bool true)) a b=>E2 P E n a σ Q
 | .cond (.const (.bool false)) a b=>E2 P E n b σ Q
 | .loop c=>ON P E n c σ Q
 | _=>False
theorem Ky {c:Code} (h:Jg P E n c σ Q):E2 P E n c σ Q:=by
 unfold Jg at h
 split at h
 ·exact OZ h
 ·exact JJ rfl h
 ·exact h.h
 ·exact ME h
 ·exact Oa h
 ·exact MF h
 ·exact KR h
 ·split at h
  ·rename_i hc;exact JM hc h.t h.f
  ·exact h.elim
 ·exact JK rfl h
 ·exact JL rfl h
 ·exact h.h
 ·exact h.elim
theorem H2 {ι:Type} {c:Code} (S:ι → St) (I:ι → Prop) (m:ι → Nat) (x0:ι) (hI:I x0) (h0:St.le E n σ (S x0))
  (h:∀ x,I x → E2 P E n c (S x) (Fx (fun σ'=>∃ y,I y ∧ m y < m x ∧ St.le E n σ' (S y)) Q)):ON P E n c σ Q:=⟨MG S I m x0 hI h0 h⟩
end rules
end Go.Av
