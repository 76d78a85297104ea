/- Maps, tuples, closures, parts of strings and of rows. States that say less; freezing; what a function does. One rule for every operation: what is left to prove is reckoned by unfolding. The walk: operations that make or write memory, code, and what a function does. -/
import Derived.Test.YtiphlhoclaogjaaGreatDoorQE1
set_option linter.unusedSimpArgs false
set_option linter.unusedVariables false
set_option linter.unnecessarySimpa false
set_option maxHeartbeats 64000000
namespace Go.Av
open Go Go.RowKit
class EM(P:Program)(T:Nat)(k e:outParam Nat)(t:outParam TypeDesc)(z:outParam Value):Prop where
 out:P.underlying T=some (.map k e)∧P.underlying k=some t∧(P.info? e).bind (·.zero)=some z
section rules
variable {P:Program} {E:Env} {n nx:Nat} {hp:Hp} {ev:Operand→Option AV} {ops:Array Oper} {rest:List Oper} {σ:St} {K:St→Prop} {Q:Exit→St→Prop}
variable {d:Nat} {ty:TypeId} {pos:String} {after:Array Edge} {x y z:Operand}
def r8(t:TypeDesc)(m:List (Key×AV)):Prop:=∀p∈m,DY t p.1=true
theorem t9.map{θ:Th}{a:Act}{w:World}(h:t9 E θ nx hp ev a w){i:Nat}{m:List (Key×AV)}(hb:A5 hp i=some (.map m)):
  ∃r es clock,θ i=.map (some r)∧w.heap[r]?=some (.map es clock)∧es.size=m.length ∧
   ∀(j:Nat) (q:Key×AV) e,m[j]?=some q→es[j]?=some e→e.key=q.1.val∧Im (kx E θ nx hp w).U w q.2 e.val:=(h.owns i _ hb).2
theorem run_findKey{kt:TypeId}{t:TypeDesc}{k:Key}(ht:P.underlying kt=some t){es:List MapEntry}{q:Option (Nat×Value)}(hq:Instr.findNow t k.val es 0=some q)(w:World):(Instr.findKey kt k.val es).run P w=.ok q w:=by
 simp[Instr.findKey,Sem.run_bind,run_underlying ht,hq,Sem.run_pure]
def u6(m:List (Key×AV))(k:Key)(d:AV):AV:=match m8 m k with
 |some v=>v
 |none=>d
theorem Mp{T kt e:Nat}{t:TypeDesc}{zv:Value}[tm:EM P T kt e t zv]{θ:Th}{a:Act}{w:World}(h:t9 E θ nx hp ev a w){i:Nat}{m:List (Key×AV)}{rt:AV}{k:Key}(hx:ev x=some (.mp i))(hb:A5 hp i=some (.map m))(hy:ev y=some rt)(hk:keyOf rt=some k)(pK:DY t k=true)(hm:r8 t m)(ok:Bool):
  ∃v,(Instr.lookup T (a.eval x) (a.eval y) ok).run P w=.ok (if ok then .tuple #[v,.bool (m8 m k).isSome]else v) w∧D8 (kx E θ nx hp w) (u6 m k (d9 zv)) v:=by
 obtain⟨hu,ht,hz⟩:=tm.out
 obtain⟨r,es,clock,hθ,hr,hsz,uk⟩:=h.map hb
 obtain⟨hv,oH⟩:=aA (h.rel hx)
 have oo:a.eval x=.map (some r):=by rw[hv];exact hθ
 have un:=Pe hk (h.rel hy)
 have pj:=EL pK
 obtain⟨q,hq,pi⟩:=findNow_spec (t:=t) pj m es.toList 0 (by simpa using hsz) (fun p hp=>EL (hm p hp)) (fun j p e hj he=>(uk j p e hj (by simpa using he)).1)
 have ol:=dD (m:=m) (k:=k)
 simp only[Instr.lookup,Sem.run_bind,run_underlying hu,Result.andThen_ok,oo,un,MapKept.run_getObj_map hr,Sem.run_pure,Ba ht pj,run_findKey ht hq]
 cases hf:m.findIdx? (fun p=>decide (p.1=k))with
 |none =>
  rw[hf]at pi ol
  subst pi
  simp only at ol
  cases hi:P.info? e with
  |none=>rw[hi]at hz;simp at hz
  |some inf =>
   rw[hi]at hz
   simp only[Sem.run_bind,k7 hi (by simpa using hz),Result.andThen_ok,Sem.run_pure,ol]
   refine⟨zv,by cases ok<;>rfl,?_⟩
   simp only[u6,ol]
   exact .im (Ic zv)
 |some j =>
  rw[hf]at pi ol
  obtain⟨e,he,rfl⟩:=pi
  obtain⟨p,hp1,hp2,hp3⟩:=ol
  simp only[Sem.run_pure,Result.andThen_ok,hp3]
  refine⟨e.val,by cases ok<;>rfl,?_⟩
  simp only[u6,hp3]
  exact .im (uk j p e hp1 (by simpa using he)).2
theorem dE{T kt e:Nat}{t:TypeDesc}{zv:Value}[tm:EM P T kt e t zv]{i:Nat}{m:List (Key×AV)}{rt:AV}{k:Key}(hx:ev x=some (.mp i))(hb:A5 hp i=some (.map m))(hy:ev y=some rt)(hk:keyOf rt=some k)(pK:DY t k=true)(hm:r8 t m):
  G6 P E nx hp ev (.lookup T x y false) ty (u6 m k (d9 zv)) :=
 E3 fun _ _ _ θ a w h=>by
  obtain⟨v,h1,h2⟩:=Mp (P:=P) (T:=T) h hx hb hy hk pK hm false
  exact⟨v,by simp only[execOp,Sem.run_bind,h1,Result.andThen_ok,Sem.run_pure];rfl,h2⟩
theorem VA{T kt e:Nat}{t:TypeDesc}{zv:Value}[tm:EM P T kt e t zv]{i:Nat}{m:List (Key×AV)}{rt:AV}{k:Key}(hx:ev x=some (.mp i))(hb:A5 hp i=some (.map m))(hy:ev y=some rt)(hk:keyOf rt=some k)(pK:DY t k=true)(hm:r8 t m):
  G6 P E nx hp ev (.lookup T x y true) ty (.tup [u6 m k (d9 zv),.b (m8 m k).isSome]) :=
 E3 fun _ _ _ θ a w h=>by
  obtain⟨v,h1,h2⟩:=Mp (P:=P) (T:=T) h hx hb hy hk pK hm true
  refine⟨.tuple #[v,.bool (m8 m k).isSome],by simp only[execOp,Sem.run_bind,h1,Result.andThen_ok,Sem.run_pure];rfl,?_⟩
  exact .tup [_,_] [v,.bool (m8 m k).isSome] rfl fun j u z hu hz=>by
   match j,hu,hz with
   |0,hu,hz=>cases hu;cases hz;exact h2
   |1,hu,hz=>cases hu;cases hz;exact .im (.v _)
theorem SG(k:Key)(m:Nat):Instr.sameBits m k.val k.val=true:=by
 cases k with
 |s l =>
  simp only[Key.val,Instr.sameBits]
  show (l.toArray == l.toArray)=true
  simp
 |i k n=>simp[Key.val,Instr.sameBits]
theorem Pf{k:Key}{v:AV}:∀(m:List (Key×AV)),(match m.findIdx? (fun p=>decide (p.1=k))with
   |none=>b8 m k v=m++[(k,v)]
   |some j=>b8 m k v=m.set j (k,v))
 |[]=>rfl
 |(k',v')::r=>by
  rw[List.findIdx?_cons]
  by_cases e:k'=k
  ·simp only[e,decide_true,if_true]
   simp[b8]
  ·simp only[e,decide_false]
   have ih:=Pf (k:=k) (v:=v) r
   cases hf:r.findIdx? (fun p=>decide (p.1=k))with
   |none=>rw[hf]at ih;simp[b8,e];exact ih
   |some j=>rw[hf]at ih;simp[b8,e];exact ih
theorem OZ{T kt e:Nat}{t:TypeDesc}{zv:Value}[tm:EM P T kt e t zv]{i:Nat}{m:List (Key×AV)}{rt av:AV}{k:Key}(hx:F4 σ x=some (.mp i))(hb:A5 σ.hp i=some (.map m))(hy:F4 σ y=some rt)(hk:keyOf rt=some k)(pK:DY t k=true)(hm:r8 t m)(hz:F4 σ z=some av)(nz:J1 av=true)
  (kk:B1 P E n ops rest (σ.set i (.map (b8 m k av))) K):B1 P E n ops (⟨none,.mapUpdate T x y z,ty,pos,after,none⟩::rest) σ K :=
 Ik hb (fun θ a w h=>by
  obtain⟨hu,ht,_⟩:=tm.out
  obtain⟨r,es,clock,hθ,hr,hsz,uk⟩:=h.map hb
  obtain⟨hv,oH⟩:=aA (h.rel hx)
  have oo:a.eval x=.map (some r):=by rw[hv];exact hθ
  have un:=Pe hk (h.rel hy)
  have pj:=EL pK
  obtain⟨q,hq,pi⟩:=findNow_spec (t:=t) pj m es.toList 0 (by simpa using hsz) (fun p hp=>EL (hm p hp)) (fun j p e hj he=>(uk j p e hj (by simpa using he)).1)
  have od:=Pf (k:=k) (v:=av) m
  have nf:r<w.heap.size:=(Array.getElem?_eq_some_iff.1 hr).1
  have oB:∃wZ rF,(Instr.mapUpdate T (a.eval x) (a.eval y) (a.eval z)).run P w=.ok () { w with heap:=w.heap.setIfInBounds r (.map wZ rF) }∧wZ.size=(b8 m k av).length ∧
    ∀(j:Nat) (q:Key×AV) e,(b8 m k av)[j]?=some q→wZ[j]?=some e→e.key=q.1.val∧Im (kx E θ σ.nx σ.hp w).U w q.2 e.val:=by
   have wk:=(S3 nz).im (h.rel hz)
   cases hf:m.findIdx? (fun p=>decide (p.1=k))with
   |none =>
    rw[hf]at pi od
    subst pi
    refine⟨es.push { key:=k.val,val:=a.eval z,born:=clock },clock+1,?_,by simp only[od];simp[hsz],fun j q e hj he=>?_⟩
    ·simp only[Instr.mapUpdate,Sem.run_bind,run_underlying hu,Result.andThen_ok,oo,un,MapKept.run_getObj_map hr,Sem.run_pure,Ba ht pj,run_findKey ht hq,MapKept.run_setObj_map _ hr]
    ·simp only[od]at hj
     rw[Array.getElem?_push]at he
     rw[List.getElem?_append]at hj
     split at hj
     ·rename_i qx
      rw[if_neg (by omega)]at he
      exact uk j q e hj he
     ·rename_i qL
      have:j=m.length:=by
       rcases Nat.lt_or_ge m.length j with h1|h1
       ·rw[List.getElem?_eq_none (by simp;omega)]at hj;cases hj
       ·omega
      subst this
      rw[if_pos (by omega)]at he
      cases he
      simp at hj
      subst hj
      exact⟨rfl,wk⟩
   |some j0 =>
    rw[hf]at pi od
    obtain⟨e0,yB,rfl⟩:=pi
    have pp:j0<m.length:=by
     have:=(List.getElem?_eq_some_iff.1 yB).1
     simp at this
     omega
    have hmj:m[j0]?=some m[j0]:=List.getElem?_eq_getElem pp
    have wC:m[j0].1=k:=by
     have:=List.findIdx?_eq_some_iff_getElem.1 hf
     exact of_decide_eq_true this.2.1
    have qg:e0.key=k.val:=by rw[(uk j0 _ e0 hmj (by simpa using yB)).1,wC]
    refine⟨es.modify j0 fun e=>{ e with key:=k.val,val:=a.eval z },clock,?_,by simp only[od];simp[hsz],fun j q e hj he=>?_⟩
    ·have AB6:es[j0]?=some e0:=by simpa using yB
     simp only[Instr.mapUpdate,Sem.run_bind,run_underlying hu,Result.andThen_ok,oo,un,MapKept.run_getObj_map hr,Sem.run_pure,Ba ht pj,run_findKey ht hq,Nat.zero_add,AB6,Option.map_some,Option.getD_some,Instr.keyThatStays,qg,SG,if_true,MapKept.run_setObj_map _ hr]
    ·simp only[od]at hj
     rw[Array.getElem?_modify]at he
     rw[List.getElem?_set]at hj
     by_cases ej:j0=j
     ·subst ej
      rw[if_pos rfl]at he hj
      rw[if_pos pp]at hj
      cases hj
      cases hh:es[j0]? with
      |none=>rw[hh]at he;simp at he
      |some e1=>rw[hh]at he;simp at he;subst he;exact⟨rfl,wk⟩
     ·rw[if_neg ej]at he hj
      exact uk j q e hj he
  obtain⟨wZ,rF,oI,AA6,xB⟩:=oB
  refine⟨{ w with heap:=w.heap.setIfInBounds r (.map wZ rF) },by simp only[execOp,Sem.run_bind,oI,Result.andThen_ok,Sem.run_pure],rfl,rfl,rfl,by simp,fun k hk=>?_,rfl,fun le=>?_⟩
  ·have:k≠r:=by intro e;subst e;exact hk (by rw[hθ];rfl)
   simp[Array.getElem?_setIfInBounds_ne (Ne.symm this)]
  ·refine⟨r,wZ,rF,by simp[cx,E7,hθ],by simp[cx,nf],AA6,fun j q e hj he=>⟨(xB j q e hj he).1,((xB j q e hj he).2.mono le.heap le.U)⟩⟩) kk
theorem Pg{l:List AV}{av:AV}{k:Nat}(hx:ev x=some (.tup l))(hk:l[k]?=some av):G6 P E nx hp ev (.extract x k) ty av :=
 E3 fun _ _ _ θ a w h=>by
  have:∃cs:List Value,a.eval x=.tuple cs.toArray∧l.length=cs.length∧∀(j:Nat) u z,l[j]?=some u→cs[j]?=some z→D8 (kx E θ nx hp w) u z:=by
   have r:=h.rel hx
   generalize a.eval x=v at r
   cases r with
   |im hi=>cases hi with|tup l cs hl hc=>exact⟨cs,rfl,hl,fun j u z hu hz=>.im (hc j u z hu hz)⟩
   |tup l cs hl hc=>exact⟨cs,rfl,hl,hc⟩
  obtain⟨cs,hv,hl,hr⟩:=this
  have nf:k<cs.length:=by rw[←hl];exact(List.getElem?_eq_some_iff.1 hk).1
  have hc:cs[k]?=some cs[k]:=List.getElem?_eq_getElem nf
  refine⟨cs[k],?_,hr k av _ hk hc⟩
  simp only[execOp,hv,Instr.extract]
  simp[hc,Sem.run_bind,Sem.run_pure]
theorem SH{f:Nat}{xs:List Operand}{caps:List AV}(ha:l6 ev xs=some caps)(hf:f<Gv):G6 P E nx hp ev (.makeFunc (.func f) #[] xs.toArray) ty (.fo f caps) :=
 E3 fun _ _ _ θ a w h=>by
  obtain⟨hl,hr⟩:=BX h xs caps ha
  exact⟨.func (.func f) #[] (xs.map a.eval).toArray,by simp[execOp,Instr.makeFunc,Sem.run_bind,Sem.run_pure],by
   have:=D8.fo (c:=kx E θ nx hp w) f caps (xs.map a.eval) (by simp[hl]) fun j u z hu hz=>hr j u z hu hz
   unfold Rj at this
   rwa[if_pos hf]at this⟩
theorem Xg{f:Nat}{xs:List Operand}{caps:List AV}(ha:l6 ev xs=some caps)(nz:I6 caps=true):G6 P E nx hp ev (.makeFunc (.func f) #[] xs.toArray) ty (.fn f caps) :=
 E3 fun _ _ _ θ a w h=>by
  obtain⟨hl,hr⟩:=BX h xs caps ha
  refine⟨.func (.func f) #[] (xs.map a.eval).toArray,by simp[execOp,Instr.makeFunc,Sem.run_bind,Sem.run_pure],.im (.fn f caps _ (by simp[hl]) fun j u z hu hz=>?_)⟩
  exact(T1 nz u (List.mem_of_getElem? hu)).im (hr j u z hu hz)
theorem VB(l:List UInt8)(i j:Nat):((⟨l.toArray⟩:ByteArray).extract i j)=⟨((l.take j).drop i).toArray⟩:=by
 apply ByteArray.ext
 simp[ByteArray.data_extract]
 rw[List.drop_take]
def AB(ev:Operand→Option AV)(AB9:Nat):Option Operand→Option Int
 |none=>some AB9
 |some x=>match ev x with
  |some (.v (.int _ i))=>some i
  |_=>none
theorem FY{k:IntKind}{i:Int}{m:Nat}(h0:0≤i)(h1:i≤m)(c:BoundsCode)(w:World):(Instr.sliceBound (.int k i) m c).run P w=.ok i.toNat w:=by
 simp[Instr.sliceBound,asIntOf,Sem.run_bind,Sem.run_pure,h0,h1]
theorem CN{isS:Bool}{len cap:Nat}{lo hi:Option Operand}{l h:Int}{θ:Th}{a:Act}{w:World}(pq:t9 E θ nx hp ev a w)(hl:AB ev 0 lo=some l)(hh:AB ev len hi=some h)(h0:0≤l)(h1:l≤h)(h2:h≤cap):
  (Instr.sliceBounds isS len cap (lo.map a.eval) (hi.map a.eval) none).run P w=.ok (l.toNat,h.toNat,cap) w:=by
 have hb:∀(o:Option Operand) (df:Nat) (i:Int),AB ev df o=some i→(o=none∧i=df)∨∃y k,o=some y∧a.eval y=.int k i:=by
  intro o df i ho
  cases o with
  |none=>exact .inl ⟨rfl,by simp[AB]at ho;exact ho.symm⟩
  |some y =>
   simp only[AB]at ho
   split at ho
   ·rename_i k j hj
    cases ho
    exact .inr ⟨y,k,rfl,(pq.rel hj).val⟩
   ·cases ho
 have h3:0≤h:=by omega
 rcases hb lo 0 l hl with ⟨rfl,rfl⟩|⟨yl,kl,rfl,hyl⟩<;>rcases hb hi len h hh with ⟨rfl,rfl⟩|⟨yh,kh,rfl,hyh⟩
 ·simp[Instr.sliceBounds,Sem.run_bind,Sem.run_pure]
 ·simp only[Instr.sliceBounds,Option.map_none,Option.map_some,Sem.run_bind,Sem.run_pure,Result.andThen_ok,hyh,FY h3 h2]
  rfl
 ·simp only[Instr.sliceBounds,Option.map_none,Option.map_some,Sem.run_bind,Sem.run_pure,Result.andThen_ok,hyl,FY h0 h1]
  rfl
 ·have h4:l≤(h.toNat:Int):=by omega
  simp only[Instr.sliceBounds,Option.map_some,Sem.run_bind,Sem.run_pure,Result.andThen_ok,hyl,hyh,FY h3 h2,FY h0 h4]
theorem Kq{T:Nat}[ts:j5 P T]{s:List UInt8}{lo hi:Option Operand}{l h:Int}(hx:ev x=some (.str s))(hl:AB ev 0 lo=some l)(hh:AB ev s.length hi=some h)(h0:0≤l)(h1:l≤h)(h2:h≤s.length):
  G6 P E nx hp ev (.slice T x lo hi none) ty (.str ((s.take h.toNat).drop l.toNat)) :=
 E3 fun _ _ _ θ a w hs=>by
  have hv:=(hs.rel hx).sval
  refine⟨.string ⟨((s.take h.toNat).drop l.toNat).toArray⟩,?_,.im (.str _)⟩
  have hb:=CN (P:=P) (isS:=false) (cap:=s.length) hs hl hh h0 h1 h2
  have hsz:(ByteArray.mk s.toArray).size=s.length:=rfl
  simp only[execOp,hv,Instr.sliceAt,Instr.slice,Sem.run_bind,run_underlying ts.out,Result.andThen_ok,Option.isSome_none,Option.map_none,hsz,Bool.false_eq_true,if_false,hb,VB,Sem.run_pure]
theorem Xh{T e sz:Nat}[ts:L7 P T e sz]{s:List (List AV)}{lo hi:Option Operand}{l h:Int}(hx:ev x=some (.sl sz s))(hl:AB ev 0 lo=some l)(hh:AB ev s.length hi=some h)(h0:0≤l)(h1:l≤h)(h2:h≤s.length):
  G6 P E nx hp ev (.slice T x lo hi none) ty (.sl sz ((s.take h.toNat).drop l.toNat)) :=
 E3 fun _ _ _ θ a w hs=>by
  obtain⟨hu,inf,oW,hsz⟩:=ts.out
  have nZ:((s.take h.toNat).drop l.toNat).length=h.toNat-l.toNat:=by rw[List.length_drop,List.length_take];omega
  rcases Es (hs.rel hx)with ⟨hv,e⟩|⟨p,cap,f,hv,h3,h4,h5,h6,h7,h8⟩
  ·subst e
   have hb:=CN (P:=P) (isS:=true) (cap:=0) hs hl hh h0 h1 (by simpa using h2)
   have e1:h=0:=by simp at h2;omega
   have e2:l=0:=by omega
   subst e1;subst e2
   refine⟨.slice none 0 0,?_,.im (.slnil sz)⟩
   simp only[List.length_nil]at hb
   simp only[execOp,hv,Instr.sliceAt,Instr.slice,Sem.run_bind,run_underlying hu,Result.andThen_ok,Option.map_none,hb,Sem.run_pure,sizeOf,typeInfo,program,Sem.run,oW]
   rfl
  ·have hb:=CN (P:=P) (isS:=true) (cap:=cap) hs hl hh h0 h1 (by omega)
   refine⟨.slice (some (if cap=l.toNat then p else p.add (l.toNat*sz))) (h.toNat-l.toNat) (cap-l.toNat),?_,?_⟩
   ·simp only[execOp,hv,Instr.sliceAt,Instr.slice,Sem.run_bind,run_underlying hu,Result.andThen_ok,Option.map_none,hb,Sem.run_pure,sizeOf,typeInfo,program,Sem.run,oW,hsz]
    split<;>rfl
   ·rw[←nZ]
    have oy:∀(i:Nat) el,((s.take h.toNat).drop l.toNat)[i]?=some el→s[l.toNat+i]?=some el∧l.toNat+i<s.length∧l.toNat≠cap:=by
     intro i el hi
     rw[List.getElem?_drop,List.getElem?_take]at hi
     split at hi
     ·have:=(List.getElem?_eq_some_iff.1 hi).1
      exact⟨hi,this,by omega⟩
     ·cases hi
    refine .im (.sl sz _ _ _ (fun i j=>f (l.toNat+i) j) (by rw[nZ];omega) (by omega) (fun hne rB=>?_) (fun el nX=>?_) (fun i hi j hj=>?_) (fun i el hi j u hu=>?_))
    ·have:s≠[]:=by intro e;subst e;simp at hne
     split
     ·exact h5 this rB
     ·rw[l5];exact h5 this rB
    ·exact h6 el (List.mem_of_mem_take (List.mem_of_mem_drop nX))
    ·have hg:=oy i _ (List.getElem?_eq_getElem hi)
     rw[if_neg (fun e=>hg.2.2 e.symm),DH]
     have:=h7 (l.toNat+i) hg.2.1 j hj
     rw[Nat.add_mul,Nat.add_assoc]at this
     exact this
    ·have hg:=oy i _ hi
     exact h8 _ _ hg.1 j u hu
end rules
def Jz(h h':Hp)(i v len:Nat):AV :=
 match A5 h i with
 |some (.row _ sz v1 l)=>cond (Nat.beq v v1) (match A5 h' i with
  |some (.row _ _ v2 _)=>.row i v2 len
  |_=>.sl sz l) .any
 |_=>.any
def KA(h h':Hp)(i v k off:Nat):AV :=
 match A5 h i with
 |some (.row _ sz v1 l)=>cond (Nat.beq v v1) (match A5 h' i with
  |some (.row _ _ v2 _)=>.elt i v2 k off
  |_=>match l[k]? with
   |some el=>.iptr (el.drop off)
   |none=>.any) .any
 |_=>.any
def KB(h h':Hp)(i v lo len:Nat):AV :=
 match A5 h i with
 |some (.row _ sz v1 l)=>cond (Nat.beq v v1) (match A5 h' i with
  |some (.row _ _ v2 _)=>.sub i v2 lo len
  |_=>.sl sz ((l.take (lo+len)).drop lo)) .any
 |_=>.any
def Mq(h h':Hp)(i off:Nat):AV :=
 match A5 h i with
 |some (.bx _ l)=>match A5 h' i with
  |some _=>.ref i off
  |none=>cond (I6 l) (.iptr (l.drop off)) (.ref i off)
 |_=>.ref i off
mutual
def I9(h h':Hp):AV→AV
 |.row i v len=>Jz h h' i v len
 |.elt i v k off=>KA h h' i v k off
 |.sub i v lo len=>KB h h' i v lo len
 |.ref i off=>Mq h h' i off
 |.agg l=>.agg (CO h h' l)
 |.tup l=>.tup (CO h h' l)
 |.fo f l=>.fo f (CO h h' l)
 |x=>x
def CO(h h':Hp):List AV→List AV
 |[]=>[]
 |x::r=>I9 h h' x::CO h h' r
end
theorem P7(h h':Hp):∀l,CO h h' l=l.map (I9 h h')
 |[]=>by simp[CO]
 |x::r=>by simp[CO,P7 h h' r]
def FZ(h h':Hp):D3→D3→Prop
 |.bx τ l,b=>b=.bx τ (CO h h' l)
 |.row e sz _ l,b=>∃v,b=.row e sz v l
 |.map m,b=>b=.map m
 |.it s p,b=>b=.it s p
mutual
def W7(m:Nat):AV→Bool
 |.ref i _=>Nat.blt i m
 |.row i _ _=>Nat.blt i m
 |.mp i=>Nat.blt i m
 |.elt i _ _ _=>Nat.blt i m
 |.sub i _ _ _=>Nat.blt i m
 |.agg l=>U1 m l
 |.tup l=>U1 m l
 |.fo _ l=>U1 m l
 |_=>true
def U1(m:Nat):List AV→Bool
 |[]=>true
 |x::r=>W7 m x && U1 m r
end
theorem AG{m:Nat}:∀{l:List AV},U1 m l=true→∀x∈l,W7 m x=true
 |[],_,x,hx=>by cases hx
 |y::r,h,x,hx=>by
  simp only[U1,Bool.and_eq_true]at h
  rcases List.mem_cons.1 hx with rfl|hx
  ·exact h.1
  ·exact AG h.2 x hx
structure Cx.sub(c c':Cx):Prop where
 θ:c'.θ=c.θ
 w:c'.w=c.w
 X:∀k,c'.X k→c.X k
 blk:∀i b',A5 c'.hp i=some b'→∃b,A5 c.hp i=some b∧FZ c.hp c'.hp b b'
 apart:∀i j b b' k,A5 c.hp i=some b→A5 c.hp j=some b'→FP c.θ i b k→FP c.θ j b' k→i=j
 fresh:∀i b k,A5 c.hp i=some b→FP c.θ i b k→¬c.X k
 owns:∀i b,A5 c.hp i=some b→L6 c i b
theorem dF{h h':Hp}{b b':D3}(e:FZ h h' b b'):U6 b'=U6 b:=by
 cases b with
 |bx τ l=>simp only[FZ]at e;subst e;rfl
 |row e1 sz v l=>obtain⟨v2,rfl⟩:=e;rfl
 |map m=>simp only[FZ]at e;subst e;rfl
 |it s p=>simp only[FZ]at e;subst e;rfl
theorem FP.cv{θ:Th}{i k:Nat}{h h':Hp}{b b':D3}(e:FZ h h' b b')(f:FP θ i b' k):FP θ i b k:=by
 unfold FP at f ⊢
 rwa[dF e]at f
theorem Cx.sub.U{c c':Cx}(h:c.sub c'):∀k,c'.U k→c.U k:=by
 rintro k (hk|⟨i,b,hi,hk⟩)
 ·exact .inl (h.X k hk)
 ·obtain⟨b0,pW,uF⟩:=h.blk i b hi
  exact .inr ⟨i,b0,pW,FP.cv uF (by rw[←h.θ];exact hk)⟩
theorem Cx.sub.notU{c c':Cx}(h:c.sub c'){i:Nat}{b:D3}(hi:A5 c.hp i=some b)(hn:A5 c'.hp i=none){k:Nat}(hk:FP c.θ i b k):¬c'.U k:=by
 rintro (hx|⟨j,b',hj,oT⟩)
 ·exact h.fresh i b k hi hk (h.X k hx)
 ·obtain⟨b0,pW,uF⟩:=h.blk j b' hj
  have:=h.apart i j b b0 k hi pW hk (FP.cv uF (by rw[←h.θ];exact oT))
  subst this
  rw[hn]at hj
  cases hj
theorem Cx.sub.im{c c':Cx}(h:c.sub c'){a:AV}{x:Value}(hi:Im c.U c.w a x):Im c'.U c'.w a x:=hi.mono (fun k _ _=>by rw[h.w]) fun k _ hu=>h.U k hu
theorem HG{c c':Cx}(h:c.sub c'){i e sz v:Nat}{l:List (List AV)}(hi:A5 c.hp i=some (.row e sz v l))(hn:A5 c'.hp i=none):Im c'.U c'.w (.sl sz l) (c.θ i):=by
 obtain⟨xs,nh,hsz,hr,_⟩:=h.owns i _ hi
 rcases nh.2 with ⟨hv,vh⟩|⟨g,cap,nj,hv,_,hg,hc,hm,nZ,hx⟩
 ·have:l=[]:=List.eq_nil_of_length_eq_zero vh
  subst this
  rw[hv]
  exact .slnil sz
 ·have oJ:=nh
  rw[hv]at oJ
  rw[hv]
  have xv:¬c'.U g:=h.notU hi hn (.inl (by rw[hv];rfl))
  have oy:∀i,i<l.length→∀j,j<sz→∃y,xs[i*sz+j]?=some y:=by
   intro i hi j hj
   have h1:(i+1)*sz≤l.length*sz:=Nat.mul_le_mul_right _ hi
   rw[Nat.add_mul,Nat.one_mul]at h1
   have h2:i*sz+j<xs.length:=by rw[nh.1];omega
   exact⟨_,List.getElem?_eq_getElem h2⟩
  refine .sl sz l ⟨g,0,none⟩ cap (fun i j=>xs.getD (i*sz+j) undef) hc hm (fun _ _=>xv) hsz (fun i hi j hj=>?_) (fun k el hk j x hx=>?_)
  ·obtain⟨y,hy⟩:=oy i hi j hj
   have:=oJ.cells (g:=g) rfl _ _ hy
   rw[H3,h.w]
   have e:xs.getD (i*sz+j) undef=y:=by rw[List.getD,hy];rfl
   rw[e]
   simpa [H3]using this
  ·obtain⟨y,hy,oc⟩:=hr k el hk j x hx
   have e:xs.getD (k*sz+j) undef=y:=by rw[List.getD,hy];rfl
   rw[e]
   exact h.im oc
theorem kF{U:Nat→Prop}{w:World}{sz lo len:Nat}{l:List (List AV)}{v x:Value}(h:Im U w (.sl sz l) v)(hs:Ri v sz lo len x)(hl:lo+len≤l.length):Im U w (.sl sz ((l.take (lo+len)).drop lo)) x:=by
 have nZ:((l.take (lo+len)).drop lo).length=len:=by rw[List.length_drop,List.length_take];omega
 rcases hs with ⟨rfl,rfl,rfl,rfl⟩|⟨g,n,cap,rfl,rfl⟩
 ·have:(l.take (0+0)).drop 0=[]:=by simp
  rw[this];exact .slnil sz
 ·cases h with
  |sl sz l a cap f oY hm hu hsz hc h =>
   have oy:∀(i:Nat) el,((l.take (lo+len)).drop lo)[i]?=some el→l[lo+i]?=some el∧lo+i<l.length∧cap≠lo:=by
    intro i el hi
    rw[List.getElem?_drop,List.getElem?_take]at hi
    split at hi
    ·have:=(List.getElem?_eq_some_iff.1 hi).1
     exact⟨hi,this,by omega⟩
    ·cases hi
   have key:∀p:Addr,p=(if cap=lo then ⟨g,0,none⟩else ⟨g,lo*sz,none⟩)→Im U w (.sl sz ((l.take (lo+len)).drop lo)) (.slice (some p) ((l.take (lo+len)).drop lo).length (cap-lo)):=fun p hp=>by
    refine .sl sz _ p _ (fun i j=>f (lo+i) j) (by rw[nZ];omega) (by omega) (fun hne rB=>?_) (fun el nX=>?_) (fun i hi j hj=>?_) (fun i el hi j u hu=>?_)
    ·have:l≠[]:=by intro e;subst e;simp at hne
     have h5:=hu this rB
     rw[hp];split<;>exact h5
    ·exact hsz el (List.mem_of_mem_take (List.mem_of_mem_drop nX))
    ·have hg:=oy i _ (List.getElem?_eq_getElem hi)
     rw[hp,if_neg hg.2.2,H3]
     have:=hc (lo+i) hg.2.1 j hj
     rw[H3,Nat.zero_add,Nat.add_mul,Nat.add_assoc]at this
     exact this
    ·have hg:=oy i _ hi
     exact h _ _ hg.1 j u hu
   have:=key _ rfl
   rwa[nZ]at this
theorem mG{c c':Cx}(h:c.sub c'){a:AV}{x:Value}(hi:Im c.U c.w a x):I9 c.hp c'.hp a=a∨D8 c' (I9 c.hp c'.hp a) x:=by
 induction hi with
 |v x=>exact .inl rfl
 |str l=>exact .inl rfl
 |fn f l cs hl hc ih=>exact .inl rfl
 |iptr l a f hu hc hh ih=>exact .inl rfl
 |err t p=>exact .inl rfl
 |any x=>exact .inl rfl
 |own e sz l x=>exact .inl rfl
 |slnil sz=>exact .inl rfl
 |sl sz l a cap f oY hm hu hsz hc hh ih=>exact .inl rfl
 |agg l cs hl hc ih =>
  refine .inr ?_
  simp only[I9,P7]
  refine .agg _ cs (by simp[hl]) fun j u z hu hz=>?_
  simp only[List.getElem?_map,Option.map_eq_some_iff]at hu
  obtain⟨u0,pc,rfl⟩:=hu
  rcases ih j u0 z pc hz with e|e
  ·rw[e];exact .im (h.im (hc j u0 z pc hz))
  ·exact e
 |tup l cs hl hc ih =>
  refine .inr ?_
  simp only[I9,P7]
  refine .tup _ cs (by simp[hl]) fun j u z hu hz=>?_
  simp only[List.getElem?_map,Option.map_eq_some_iff]at hu
  obtain⟨u0,pc,rfl⟩:=hu
  rcases ih j u0 z pc hz with e|e
  ·rw[e];exact .im (h.im (hc j u0 z pc hz))
  ·exact e
theorem Iq{c c':Cx}(h:c.sub c'){a:AV}{x:Value}(r:D8 c a x):c.nx≤c'.nx∨W7 c'.nx (I9 c.hp c'.hp a)=true→D8 c' (I9 c.hp c'.hp a) x:=by
 induction r with
 |any x=>intro _;exact .any x
 |im hi =>
  intro _
  rcases mG h hi with e|e
  ·rw[e];exact .im (h.im hi)
  ·exact e
 |agg l cs hl _ ih =>
  intro nf
  simp only[I9,P7]at nf ⊢
  refine .agg _ cs (by simp[hl]) fun j u z hu hz=>?_
  have oR:=List.mem_of_getElem? hu
  simp only[List.getElem?_map,Option.map_eq_some_iff]at hu
  obtain⟨u0,pc,rfl⟩:=hu
  exact ih j u0 z pc hz (nf.imp id fun h=>AG (by simpa only[W7]using h) _ oR)
 |tup l cs hl _ ih =>
  intro nf
  simp only[I9,P7]at nf ⊢
  refine .tup _ cs (by simp[hl]) fun j u z hu hz=>?_
  have oR:=List.mem_of_getElem? hu
  simp only[List.getElem?_map,Option.map_eq_some_iff]at hu
  obtain⟨u0,pc,rfl⟩:=hu
  exact ih j u0 z pc hz (nf.imp id fun h=>AG (by simpa only[W7]using h) _ oR)
 |fo f l cs hl _ ih =>
  intro nf
  simp only[I9,P7]at nf ⊢
  refine .fo f _ cs (by simp[hl]) fun j u z hu hz=>?_
  have oR:=List.mem_of_getElem? hu
  simp only[List.getElem?_map,Option.map_eq_some_iff]at hu
  obtain⟨u0,pc,rfl⟩:=hu
  exact ih j u0 z pc hz (nf.imp id fun h=>AG (by simpa only[W7]using h) _ oR)
 |ref i off b hi hθ =>
  intro nf
  simp only[I9,Mq]at nf ⊢
  have oh:(c.nx≤c'.nx∨W7 c'.nx (.ref i off)=true)→D8 c' (.ref i off) (.pointer (some ⟨b,off,none⟩)):=fun nf=>by
   refine .ref i off b ?_ (by rw[h.θ];exact hθ)
   rcases nf with h1|h1
   ·omega
   ·simpa only[W7,Nat.blt_eq]using h1
  split at nf
  ·rename_i l hb
   split at nf
   ·exact oh nf
   ·rename_i hn
    cases nz:I6 l with
    |false=>rw[nz]at nf;exact oh nf
    |true =>
     obtain⟨b',oG,T,pB,hh,hsz,hr⟩:=h.owns i _ hb
     have e:b'=b:=by rw[hθ]at pB;injection pB with e;injection e with e;injection e with e;exact e.symm
     subst e
     have xv:¬c'.U b':=h.notU hb hn (.inl (by rw[hθ];rfl))
     refine .im (.iptr _ _ (fun j=>oG.getD (off+j) undef) (fun _=>xv) (fun j hj=>?_) (fun j u hu=>?_))
     ·have vP:off+j<oG.size:=by rw[List.length_drop]at hj;omega
      rw[H3,h.w,K1 hh]
      simp[Array.getD,vP]
     ·rw[List.getElem?_drop]at hu
      have vP:off+j<oG.size:=by have:=(List.getElem?_eq_some_iff.1 hu).1;omega
      have oy:oG[off+j]?=some (oG.getD (off+j) undef):=by simp[Array.getD,vP]
      have:=hr _ u _ hu oy
      exact h.im ((T1 nz u (List.mem_of_getElem? hu)).im this)
  ·exact oh nf
 |row i ver len x hi hr =>
  intro nf
  simp only[I9,Jz]
  split
  ·rename_i e sz v1 l hb
   cases hv:Nat.beq ver v1 with
   |false=>exact .any x
   |true =>
    have oo:=Nat.eq_of_beq_eq_true hv
    subst oo
    obtain⟨_,sK⟩:=hr e sz ver l hb
    obtain⟨nZ,hx⟩:=sK rfl
    simp only[cond_true]
    split
    ·rename_i e2 pO v2 l2 oD
     have oH:i<c'.nx:=by
      simp only[I9,Jz,hb,hv,cond_true,oD,W7,Nat.blt_eq]at nf
      omega
     refine .row i v2 len x oH fun e3 sz3 v3 l3 rU=>?_
     rw[oD]at rU
     cases rU
     refine⟨Nat.le_refl _,fun _=>?_⟩
     obtain⟨b,pd,nl⟩:=h.blk i _ oD
     rw[hb]at pd
     cases pd
     obtain⟨v,nl⟩:=nl
     cases nl
     exact⟨nZ,by rw[h.θ];exact hx⟩
    ·rename_i oD
     rw[hx]
     refine .im (HG h hb ?_)
     cases hq:A5 c'.hp i with
     |none=>rfl
     |some b' =>
      obtain⟨b,pd,nl⟩:=h.blk i _ hq
      rw[hb]at pd
      cases pd
      obtain⟨v,rfl⟩:=nl
      exact absurd hq (oD _ _ _ _)
  ·exact .any x
 |mp i r hi hθ =>
  intro nf
  refine .mp i r ?_ (by rw[h.θ];exact hθ)
  simp only[I9,W7,Nat.blt_eq]at nf
  omega
 |sub i ver lo len x hi hr =>
  intro nf
  simp only[I9,KB]
  split
  ·rename_i e sz v1 l hb
   cases hv:Nat.beq ver v1 with
   |false=>exact .any x
   |true =>
    have oo:=Nat.eq_of_beq_eq_true hv
    subst oo
    obtain⟨_,sK⟩:=hr e sz ver l hb
    obtain⟨nZ,hx⟩:=sK rfl
    simp only[cond_true]
    split
    ·rename_i e2 pO v2 l2 oD
     have oH:i<c'.nx:=by
      simp only[I9,KB,hb,hv,cond_true,oD,W7,Nat.blt_eq]at nf
      omega
     refine .sub i v2 lo len x oH fun e3 sz3 v3 l3 rU=>?_
     rw[oD]at rU
     cases rU
     refine⟨Nat.le_refl _,fun _=>?_⟩
     obtain⟨b,pd,nl⟩:=h.blk i _ oD
     rw[hb]at pd
     cases pd
     obtain⟨v,nl⟩:=nl
     cases nl
     exact⟨nZ,by rw[h.θ];exact hx⟩
    ·rename_i oD
     refine .im (kF (HG h hb ?_) hx nZ)
     cases hq:A5 c'.hp i with
     |none=>rfl
     |some b' =>
      obtain⟨b,pd,nl⟩:=h.blk i _ hq
      rw[hb]at pd
      cases pd
      obtain⟨v,rfl⟩:=nl
      exact absurd hq (oD _ _ _ _)
  ·exact .any x
 |elt i ver k off x hi hr =>
  intro nf
  simp only[I9,KA]
  split
  ·rename_i e sz v1 l hb
   cases hv:Nat.beq ver v1 with
   |false=>exact .any x
   |true =>
    have oo:=Nat.eq_of_beq_eq_true hv
    subst oo
    obtain⟨_,sK⟩:=hr e sz ver l hb
    obtain⟨g,m,cap,hθ,hx⟩:=sK rfl
    simp only[cond_true]
    split
    ·rename_i e2 pO v2 l2 oD
     have oH:i<c'.nx:=by
      simp only[I9,KA,hb,hv,cond_true,oD,W7,Nat.blt_eq]at nf
      omega
     refine .elt i v2 k off x oH fun e3 sz3 v3 l3 rU=>?_
     rw[oD]at rU
     cases rU
     refine⟨Nat.le_refl _,fun _=>?_⟩
     obtain⟨b,pd,nl⟩:=h.blk i _ oD
     rw[hb]at pd
     cases pd
     obtain⟨v,nl⟩:=nl
     cases nl
     exact⟨g,m,cap,by rw[h.θ];exact hθ,hx⟩
    ·rename_i oD
     split
     ·rename_i el nX
      have hn:A5 c'.hp i=none:=by
       cases hq:A5 c'.hp i with
       |none=>rfl
       |some b' =>
        obtain⟨b,pd,nl⟩:=h.blk i _ hq
        rw[hb]at pd
        cases pd
        obtain⟨v,rfl⟩:=nl
        exact absurd hq (oD _ _ _ _)
      have oc:=HG h hb hn
      rw[hθ]at oc
      cases oc with
      |sl sz l a ot f oY hm hu hsz hc hh =>
       have qx:k<l.length:=(List.getElem?_eq_some_iff.1 nX).1
       have uk:=hsz el (List.mem_of_getElem? nX)
       rw[hx]
       refine .im (.iptr _ _ (fun j=>f k (off+j)) (fun hne=>?_) (fun j hj=>?_) (fun j u rI=>?_))
       ·have h1:=List.length_pos_iff.2 hne
        rw[List.length_drop]at h1
        exact hu (by intro e;subst e;simp at qx) (by omega)
       ·rw[List.length_drop]at hj
        have:=hc k qx (off+j) (by omega)
        rw[H3]at this ⊢
        rw[←this]
        congr 2
        omega
       ·rw[List.getElem?_drop]at rI
        exact hh k el nX (off+j) u rI
     ·exact .any x
  ·exact .any x
theorem J6.cv{E:Env}{n:Nat}{θ:Th}{σ σ':St}{a:Act}{w:World}(h:J6 E n θ σ a w)(h0:E.n0≤σ'.nx)
  (hs:∀s x',look σ'.sl s=some x'→∃x,look σ.sl s=some x∧I9 σ.hp σ'.hp x=x'∧(σ.nx≤σ'.nx∨W7 σ'.nx x'=true))
  (hb:∀i b',A5 σ'.hp i=some b'→(σ.nx≤σ'.nx∨i<σ'.nx)∧∃b,A5 σ.hp i=some b∧FZ σ.hp σ'.hp b b'∧(σ.nx≤σ'.nx∨∀τ l,b'=.bx τ l→U1 σ'.nx l=true)):J6 E n θ σ' a w:=by
 have sub:(cx E θ σ w).sub (cx E θ σ' w):=⟨rfl,rfl,fun _ h=>h,fun i b' hi=>by
  obtain⟨_,b,h1,h2,_⟩:=hb i b' hi
  exact⟨b,h1,h2⟩,h.apart,fun i b k hi hk=>(h.mine i b k hi hk).1,fun i b hi=>(h.owns i b hi).2⟩
 refine⟨h.size,h.defers,h.fr,fun s x' hx=>?_,fun i b' hi=>?_,fun i j b1 b2 k hi hj=>?_,fun i b' k hi=>?_,h.X,⟨h0,fun i hi=>(h.base.2 i hi).imp id fun ⟨h1,h2⟩=>⟨h1,fun ⟨e',sz,v,l,hl,hk⟩=>h2 (by
  obtain⟨_,b,g1,g2,_⟩:=hb i _ hl
  cases b with
  |bx _ _=>cases g2
  |map _=>cases g2
  |it _ _=>cases g2
  |row e1 sz1 v1 l1 =>
   obtain⟨v2,g3⟩:=g2
   cases g3
   exact⟨_,_,_,_,g1,hk⟩)⟩⟩⟩
 ·obtain⟨x,h1,rfl,h2⟩:=hs s x' hx
  exact Iq sub (h.slots s x h1) h2
 ·obtain⟨h0,b,h1,h2,h3⟩:=hb i b' hi
  obtain⟨h4,h5⟩:=h.owns i b h1
  refine⟨h0.elim (fun h=>by omega) id,?_⟩
  cases b with
  |bx τ l =>
   simp only[FZ]at h2
   subst h2
   obtain⟨b',oG,T,e1,e2,e3,e4⟩:=h5
   refine⟨b',oG,T,e1,e2,by rw[P7,List.length_map];exact e3,fun j u z hu hz=>?_⟩
   rw[P7]at hu h3
   have oR:=List.mem_of_getElem? hu
   simp only[List.getElem?_map,Option.map_eq_some_iff]at hu
   obtain⟨u0,pc,rfl⟩:=hu
   exact Iq sub (e4 j u0 z pc hz) (h3.imp id fun h=>AG (h _ _ rfl) _ oR)
  |row e sz v l =>
   obtain⟨v2,rfl⟩:=h2
   obtain⟨xs,e1,e2,e3,e4⟩:=h5
   exact⟨xs,e1,e2,(fun k el hk j x hx=>by
    obtain⟨y,hy,hi⟩:=e3 k el hk j x hx
    exact⟨y,hy,sub.im hi⟩),fun hne=>⟨(e4 hne).1,fun k el hk j e' ni l' hj=>by
    obtain⟨g,m,cap,y,ys,q1,q2,q3,q4,q5,q6,q7⟩:=(e4 hne).2 k el hk j e' ni l' hj
    exact⟨g,m,cap,y,ys,q1,q2,q3,q4,q5,fun q pD hq j' x hx=>by
     obtain⟨z,hz,hi⟩:=q6 q pD hq j' x hx
     exact⟨z,hz,sub.im hi⟩,q7⟩⟩⟩
  |map m =>
   simp only[FZ]at h2
   subst h2
   obtain⟨r,es,clock,e1,e2,e3,e4⟩:=h5
   exact⟨r,es,clock,e1,e2,e3,fun j q e hj he=>⟨(e4 j q e hj he).1,sub.im (e4 j q e hj he).2⟩⟩
  |it t p =>
   simp only[FZ]at h2
   subst h2
   exact h5
 ·intro qA nr
  obtain⟨_,b1',h1,g1,_⟩:=hb i b1 hi
  obtain⟨_,b2',h2,g2,_⟩:=hb j b2 hj
  exact h.apart i j _ _ k h1 h2 (FP.cv g1 qA) (FP.cv g2 nr)
 ·intro hk
  obtain⟨_,b1',h1,g1,_⟩:=hb i b' hi
  exact h.mine i _ k h1 (FP.cv g1 hk)
def SI(m:Nat):List (Nat×AV)→Bool
 |[]=>true
 |(_,x)::r=>W7 m x && SI m r
def L1(m:Nat):Hp→Bool
 |[]=>true
 |(i,some (.bx _ l))::r=>Nat.blt i m && U1 m l && L1 m r
 |(i,_)::r=>Nat.blt i m && L1 m r
theorem Ph{m:Nat}:∀{l:List (Nat×AV)} {s:Nat} {x:AV},SI m l=true→look l s=some x→W7 m x=true
 |[],s,x,_,h=>by cases h
 |(s0,x0)::r,s,x,hs,h=>by
  simp only[SI,Bool.and_eq_true]at hs
  rw[E6]at h
  by_cases e:s0=s
  ·subst e;rw[if_pos rfl]at h;cases h;exact hs.1
  ·rw[if_neg e]at h;exact Ph hs.2 h
theorem Bt{m:Nat}:∀{l:Hp} {i:Nat} {b:D3},L1 m l=true→A5 l i=some b→i<m∧∀τ c,b=.bx τ c→U1 m c=true
 |[],i,b,_,h=>by cases h
 |(i0,b0)::r,i,b,hs,h=>by
  rw[F7]at h
  have og:Nat.blt i0 m=true∧(∀τ c,b0=some (.bx τ c)→U1 m c=true)∧L1 m r=true:=by
   match b0,hs with
   |some (.bx τ c),hs=>simp only[L1,Bool.and_eq_true]at hs;exact⟨hs.1.1,(fun _ c' e=>by cases e;exact hs.1.2),hs.2⟩
   |some (.row ..),hs=>simp only[L1,Bool.and_eq_true]at hs;exact⟨hs.1,(fun _ c' e=>by cases e),hs.2⟩
   |some (.map ..),hs=>simp only[L1,Bool.and_eq_true]at hs;exact⟨hs.1,(fun _ c' e=>by cases e),hs.2⟩
   |some (.it ..),hs=>simp only[L1,Bool.and_eq_true]at hs;exact⟨hs.1,(fun _ c' e=>by cases e),hs.2⟩
   |none,hs=>simp only[L1,Bool.and_eq_true]at hs;exact⟨hs.1,(fun _ c' e=>by cases e),hs.2⟩
  by_cases e:i0=i
  ·subst e
   rw[if_pos rfl]at h
   subst h
   exact⟨Nat.blt_eq▸og.1,fun τ c hc=>og.2.1 τ c (by rw[hc])⟩
  ·rw[if_neg e]at h;exact Bt og.2.2 h
def HH(σ:St)(h':Hp):List (Nat×AV)→Prop
 |[]=>True
 |(s,x)::r=>(look σ.sl s).map (I9 σ.hp h')=some x∧HH σ h' r
def EN(σ:St)(h':Hp):Hp→Prop
 |[]=>True
 |(_,none)::r=>EN σ h' r
 |(i,some b)::r=>(match A5 σ.hp i with
  |some b0=>FZ σ.hp h' b0 b
  |none=>False)∧EN σ h' r
theorem HH.look{σ:St}{h':Hp}:∀{l:List (Nat×AV)} {s:Nat} {x:AV},HH σ h' l→look l s=some x→(look σ.sl s).map (I9 σ.hp h')=some x
 |[],s,x,_,h=>by cases h
 |(s0,x0)::r,s,x,hs,h=>by
  rw[E6]at h
  by_cases e:s0=s
  ·subst e;rw[if_pos rfl]at h;cases h;exact hs.1
  ·rw[if_neg e]at h;exact HH.look hs.2 h
theorem EN.look{σ:St}{h':Hp}:∀{l:Hp} {i:Nat} {b:D3},EN σ h' l→A5 l i=some b→∃b0,A5 σ.hp i=some b0∧FZ σ.hp h' b0 b
 |[],i,b,_,h=>by cases h
 |(i0,none)::r,i,b,hs,h=>by
  rw[F7]at h
  by_cases e:i0=i
  ·subst e;rw[if_pos rfl]at h;cases h
  ·rw[if_neg e]at h;exact EN.look (l:=r) hs h
 |(i0,some b0)::r,i,b,hs,h=>by
  rw[F7]at h
  by_cases e:i0=i
  ·subst e
   rw[if_pos rfl]at h
   cases h
   have h1:=hs.1
   split at h1
   ·rename_i b1 pG;exact⟨b1,pG,h1⟩
   ·exact h1.elim
  ·rw[if_neg e]at h;exact EN.look hs.2 h
theorem B3{E:Env}{n m:Nat}{σ σ':St}(h0:E.n0=m)(hm:Nat.ble m σ'.nx=true)(hs:HH σ σ'.hp σ'.sl)(hh:EN σ σ'.hp σ'.hp)(hn:Nat.ble σ'.nx σ.nx=true)(hl:SI σ'.nx σ'.sl=true)(hb:L1 σ'.nx σ'.hp=true):St.le E n σ σ':=by
 rintro a w ⟨θ,h⟩
 refine⟨θ,h.cv (h0▸Nat.ble_eq▸hm) (fun s x' hx=>?_) (fun i b' hi=>?_)⟩
 ·have:=HH.look hs hx
  rw[Option.map_eq_some_iff]at this
  obtain⟨x,h1,h2⟩:=this
  exact⟨x,h1,h2,.inr (Ph hl hx)⟩
 ·obtain⟨b0,h1,h2⟩:=EN.look hh hi
  obtain⟨h3,h4⟩:=Bt hb hi
  exact⟨.inr h3,b0,h1,h2,.inr h4⟩
def AC(f:AV→AV):List (Nat×AV)→List (Nat×AV)
 |[]=>[]
 |(s,x)::r=>(s,f x)::AC f r
def AH(i:Nat):Hp→Hp
 |[]=>[]
 |(k,b)::r=>cond (Nat.beq k i) (AH i r) ((k,b)::AH i r)
def Fa(f:AV→AV):Hp→Hp
 |[]=>[]
 |(k,some (.bx τ l))::r=>(k,some (.bx τ (l.map f)))::Fa f r
 |(k,b)::r=>(k,b)::Fa f r
theorem CP(f:AV→AV):∀(l:List (Nat×AV)) (s:Nat),look (AC f l) s=(look l s).map f
 |[],s=>rfl
 |(k,x)::r,s=>by
  simp only[AC,E6]
  by_cases e:k=s
  ·simp[e]
  ·simp[e,CP f r s]
theorem CQ(i:Nat):∀(l:Hp) (j:Nat),A5 (AH i l) j=if i=j then none else A5 l j
 |[],j=>by simp[AH,A5,look]
 |(k,b)::r,j=>by
  simp only[AH]
  cases h:Nat.beq k i with
  |true =>
   have:=Nat.eq_of_beq_eq_true h
   subst this
   rw[cond_true,CQ k r j,F7]
   by_cases e:k=j<;>simp[e]
  |false =>
   have hne:k≠i:=by intro e;subst e;simp at h
   rw[cond_false,F7,F7,CQ i r j]
   by_cases e:k=j
   ·subst e;simp[Ne.symm hne]
   ·simp[e]
def Dv(f:AV→AV):D3→D3
 |.bx τ l=>.bx τ (l.map f)
 |b=>b
theorem GF(f:AV→AV):∀(l:Hp) (j:Nat),A5 (Fa f l) j=(A5 l j).map (Dv f)
 |[],j=>by simp[Fa,A5,look]
 |(k,b)::r,j=>by
  have:Fa f ((k,b)::r)=(k,b.map (Dv f))::Fa f r:=by
   cases b with
   |none=>rfl
   |some b=>cases b<;>rfl
  rw[this,F7,F7,GF f r j]
  by_cases e:k=j<;>simp[e]
def St.frz(σ:St)(i:Nat):St :=
 let h':=AH i σ.hp
 { sl:=AC (I9 σ.hp h') σ.sl,nx:=σ.nx,hp:=Fa (I9 σ.hp h') h' }
theorem VC{h h1 h2:Hp}(e:∀j,(A5 h2 j)=(A5 h1 j).map (Dv (I9 h h1)))(i v len:Nat):Jz h h2 i v len=Jz h h1 i v len:=by
 unfold Jz
 rw[e i]
 cases A5 h1 i with
 |none=>rfl
 |some b=>cases b<;>rfl
theorem VD{h h1 h2:Hp}(e:∀j,(A5 h2 j)=(A5 h1 j).map (Dv (I9 h h1)))(i v k off:Nat):KA h h2 i v k off=KA h h1 i v k off:=by
 unfold KA
 rw[e i]
 cases A5 h1 i with
 |none=>rfl
 |some b=>cases b<;>rfl
theorem VE{h h1 h2:Hp}(e:∀j,(A5 h2 j)=(A5 h1 j).map (Dv (I9 h h1)))(i v k off:Nat):KB h h2 i v k off=KB h h1 i v k off:=by
 unfold KB
 rw[e i]
 cases A5 h1 i with
 |none=>rfl
 |some b=>cases b<;>rfl
theorem VF{h h1 h2:Hp}(e:∀j,(A5 h2 j)=(A5 h1 j).map (Dv (I9 h h1)))(i off:Nat):Mq h h2 i off=Mq h h1 i off:=by
 unfold Mq
 rw[e i]
 cases A5 h1 i with
 |none=>rfl
 |some b=>cases b<;>rfl
mutual
theorem Ir{h h1 h2:Hp}(e:∀j,(A5 h2 j)=(A5 h1 j).map (Dv (I9 h h1))):∀a,I9 h h2 a=I9 h h1 a
 |.row i v len=>by simp only[I9];exact VC e i v len
 |.elt i v k off=>by simp only[I9];exact VD e i v k off
 |.sub i v k off=>by simp only[I9];exact VE e i v k off
 |.ref i off=>by simp only[I9];exact VF e i off
 |.agg l=>by simp only[I9];rw[Bu e l]
 |.tup l=>by simp only[I9];rw[Bu e l]
 |.fo f l=>by simp only[I9];rw[Bu e l]
 |.any=>rfl
 |.v _=>rfl
 |.str _=>rfl
 |.iptr _=>rfl
 |.sl _ _=>rfl
 |.mp _=>rfl
 |.fn _ _=>rfl
 |.err=>rfl
 |.own _ _ _=>rfl
theorem Bu{h h1 h2:Hp}(e:∀j,(A5 h2 j)=(A5 h1 j).map (Dv (I9 h h1))):∀l,CO h h2 l=CO h h1 l
 |[]=>rfl
 |x::r=>by simp only[CO];rw[Ir e x,Bu e r]
end
theorem GY{E:Env}{n:Nat}{σ:St}(i:Nat):St.le E n σ (σ.frz i):=by
 rintro a w ⟨θ,h⟩
 have e:∀j,A5 (σ.frz i).hp j=(A5 (AH i σ.hp) j).map (Dv (I9 σ.hp (AH i σ.hp))):=fun j=>GF _ _ _
 refine⟨θ,h.cv h.base.1 (fun s x' hx=>?_) (fun j b' hj=>?_)⟩
 ·have qD:(look σ.sl s).map (I9 σ.hp (AH i σ.hp))=some x':=by rw[←CP];exact hx
  rw[Option.map_eq_some_iff]at qD
  obtain⟨x,h1,h2⟩:=qD
  exact⟨x,h1,by rw[Ir e];exact h2,.inl (Nat.le_refl _)⟩
 ·refine⟨.inl (Nat.le_refl _),?_⟩
  rw[e j,Option.map_eq_some_iff]at hj
  obtain⟨b,hb,rfl⟩:=hj
  rw[CQ]at hb
  split at hb
  ·cases hb
  ·refine⟨b,hb,?_,.inl (Nat.le_refl _)⟩
   cases b with
   |bx τ l=>simp only[FZ,Dv,Bu e,P7]
   |row e sz v l=>exact⟨v,rfl⟩
   |map m=>rfl
   |it _ _=>rfl
def CR:List Nat→Hp→Hp
 |[],h=>h
 |i::r,h=>CR r (AH i h)
theorem Kr:∀(is:List Nat) (h:Hp) (j:Nat),A5 (CR is h) j=none∨A5 (CR is h) j=A5 h j
 |[],h,j=>.inr rfl
 |i::r,h,j=>by
  rcases Kr r (AH i h) j with e|e
  ·exact .inl e
  ·rw[CR,e,CQ]
   by_cases sb:i=j
   ·exact .inl (by rw[if_pos sb])
   ·exact .inr (by rw[if_neg sb])
mutual
def Fb:AV→Bool
 |.v _|.str _|.err=>true
 |.agg l|.tup l=>Mr l
 |.sl _ []=>true
 |_=>false
def Mr:List AV→Bool
 |[]=>true
 |x::r=>Fb x && Mr r
end
theorem HI:∀{l:List AV},Mr l=true→∀x∈l,Fb x=true
 |[],_,x,hx=>by cases hx
 |y::r,h,x,hx=>by
  simp only[Mr,Bool.and_eq_true]at h
  rcases List.mem_cons.1 hx with rfl|hx
  ·exact h.1
  ·exact HI h.2 x hx
theorem gb{U U':Nat→Prop}{w:World}{a:AV}{v:Value}(h:Im U w a v):Fb a=true→Im U' w a v:=by
 induction h with
 |v x=>intro _;exact .v x
 |str l=>intro _;exact .str l
 |agg l cs hl h ih=>intro hf;exact .agg l cs hl fun j x c hx hc=>ih j x c hx hc (HI (by simpa [Fb]using hf) x (List.mem_of_getElem? hx))
 |tup l cs hl h ih=>intro hf;exact .tup l cs hl fun j x c hx hc=>ih j x c hx hc (HI (by simpa [Fb]using hf) x (List.mem_of_getElem? hx))
 |fn f l cs hl h ih=>intro hf;cases hf
 |iptr l a f hu hc h ih=>intro hf;cases hf
 |err t p=>intro _;exact .err t p
 |any x=>intro _;exact .any x
 |own e sz l x=>intro _;exact .own e sz l x
 |slnil sz=>intro _;exact .slnil sz
 |sl sz l a cap f oY hm hu hsz hc h ih =>
  intro hf
  cases l with
  |nil=>exact .sl sz [] a cap f oY hm (fun h=>absurd rfl h) hsz hc (fun i e he=>by simp at he)
  |cons x r=>cases hf
theorem SJ{P:Program}{E:Env}{nx:Nat}{hp:Hp}{ev:Operand→Option AV}{ty:TypeId}{f:Nat}{xs:List Operand}{args caps L:List AV}{r:AV}{ts:Array TypeId}{g:Operand}(is:List Nat)(hc:A3 P f (L++caps) r)(ha:l6 ev xs=some args)
  (hL:CO hp (CR is hp) args=L) (nz:I6 L=true) (pR:Fb r=true)
  (hg:∀θ a w,t9 E θ nx hp ev a w→∃cs:List Value,a.eval g=.func (.func f) #[] cs.toArray∧caps.length=cs.length∧∀(j:Nat) x c,caps[j]?=some x→cs[j]?=some c→Im (kx E θ nx hp w).U w x c) :
  G6 P E nx hp ev (.call ⟨.value g,xs.toArray,ts⟩) ty r:=by
 intro d pos after θ a w K hs hk
 obtain⟨hl,hr⟩:=BX hs xs args ha
 obtain⟨cs,qL,qv,pQ⟩:=hg θ a w hs
 unfold Ie
 rw[Rv hc.1 qL]
 let h':=CR is hp
 let H:=Fa (I9 hp h') h'
 have e:∀j,A5 H j=(A5 h' j).map (Dv (I9 hp h')):=fun j=>GF _ _ _
 have sub:(kx E θ nx hp w).sub (kx E θ nx H w):=⟨rfl,rfl,fun _ h=>h,fun j b' hj=>by
  have ny:A5 H j=some b':=hj
  rw[e j,Option.map_eq_some_iff]at ny
  obtain⟨b,hb,rfl⟩:=ny
  rcases Kr is hp j with h|h
  ·have pd:A5 (CR is hp) j=some b:=hb
   rw[h]at pd;cases pd
  ·have pd:A5 (CR is hp) j=some b:=hb
   rw[h]at pd
   refine⟨b,pd,?_⟩
   cases b with
   |bx τ l=>simp only[FZ,Dv,kx,Bu e,P7]
   |row e sz v l=>exact⟨v,rfl⟩
   |map m=>rfl
   |it _ _=>rfl,hs.apart,hs.fresh,fun i b hi=>(hs.owns i b hi).2⟩
 have hX:=hc.2 (kx E θ nx H w).U w (xs.map a.eval++cs) (fun k hk=>hs.Ult k (sub.U k hk)) (hs.tab.mono (fun k _ hk=>sub.U k hk) fun _ _ _=>rfl) (by simp only[List.length_append,←hL,P7,List.length_map,hl,qv]) fun j av v hj hv=>by
  have hLl:L.length=xs.length:=by rw[←hL,P7,List.length_map,hl]
  rw[List.getElem?_append]at hj hv
  have e1:(xs.map a.eval).length=L.length:=by simp[hLl]
  rw[e1]at hv
  split at hj
  ·rename_i nf
   rw[if_pos nf]at hv
   have uF:=T1 nz av (List.mem_of_getElem? hj)
   rw[←hL,P7,List.getElem?_map,Option.map_eq_some_iff]at hj
   obtain⟨a0,zq,rfl⟩:=hj
   have h1:=Iq sub (hr j a0 v zq hv) (.inl (Nat.le_refl _))
   have h2:I9 (kx E θ nx hp w).hp (kx E θ nx H w).hp a0=I9 hp (CR is hp) a0:=Ir (h:=hp) (h1:=h') (h2:=H) e a0
   rw[h2]at h1
   exact uF.im h1
  ·rename_i nf
   rw[if_neg nf]at hv
   exact sub.im (pQ _ av v hj hv)
 rw[←List.append_toArray]at hX
 refine Calls.mono hX ?_
 rintro e w' ⟨v,rfl,hv,hb⟩
 exact⟨v,rfl,hk v w' hb (.im (gb hv pR))⟩
structure F8(p A:Prop):Prop where
 h:p
 k:A
structure P5{α:Type}(l:List α)(i:Int)(F:α→Prop):Prop where
 h0:0≤i
 h:i<l.length
 k:∀el,l[i.toNat]?=some el→F el
structure kG(a:AV)(F:AV→Prop):Prop where
 h:F a
theorem RQ{a b:AV}{F:AV→Prop}(e:a=b)(h:F b):kG a F:=⟨e▸h⟩
structure Oa{α:Type}(l:List α)(F:Nat→Prop):Prop where
 k:F l.length
structure BM(b:Bool)(A B:Prop):Prop where
 t:b=true→A
 f:b=false→B
structure RR(P:Program)(f:Nat)(args:List AV)(F:AV→Prop):Prop where
 h:∃r,A3 P f args r∧F r
structure mH(P:Program)(f:Nat)(hp:Hp)(l caps:List AV)(F:AV→Prop):Prop where
 h:∃(is:List Nat) (L:List AV) (r:AV),CO hp (CR is hp) l=L∧I6 L=true∧A3 P f (L++caps) r∧Fb r=true∧F r
structure Lg(P:Program)(T:Nat)(F:Bool→Nat→Prop):Prop where
 h:∃ag sz,G5 P T ag sz∧F ag sz
structure Xi(P:Program)(T:Nat)(F:List AV→Prop):Prop where
 h:∃l,H8 P T l∧F (l.map d9)
structure Ob(P:Program)(S f:Nat)(F:Nat→Nat→Prop):Prop where
 h:∃off sz,D7 P S f off sz∧F off sz
structure IW(P:Program)(T:Nat)(F:Nat→Nat→Prop):Prop where
 h:∃e sz,L7 P T e sz∧F e sz
structure dG(P:Program)(T:Nat)(F:Nat→Nat→Prop):Prop where
 h:∃len e sz,Lc P T len e sz∧F len sz
structure gF(P:Program)(T:Nat)(A:Prop):Prop where
 [h:Zk P T]
 k:A
structure DZ(P:Program)(T:Nat)(A:Prop):Prop where
 h:j5 P T
 k:A
structure GZ(P:Program)(T:Nat)(A:Prop):Prop where
 h:Ep P T
 k:A
structure Ms(P:Program)(T:Nat)(k1 k2:IntKind)(A:Prop):Prop where
 h:HB P T k1 k2
 k:A
structure HJ(P:Program)(T:Nat)(k:IntKind)(A:Prop):Prop where
 h:Ej P T k
 k:A
structure Mt(P:Program)(T:Nat)(k1 k2 k3:IntKind)(A:Prop):Prop where
 h:Jy P T k1 k2 k3
 k:A
structure Mu(P:Program)(T:Nat)(A:Prop):Prop where
 h:HA P T
 k:A
structure It(P:Program)(T:Nat)(F:List AV→List (Nat×Nat)→Prop):Prop where
 h:∃zs pl,H8 P T zs∧L5 P T pl∧F (zs.map d9) pl
structure Ey(P:Program)(T:Nat)(F:Nat→Nat→Nat→List AV→Prop):Prop where
 h:∃e sz bs z,L7 P T e sz∧H8 P e z∧O2 P e bs∧z.length=sz∧F e sz bs (z.map d9)
structure Xj(P:Program)(T:Nat)(F:TypeDesc→AV→Prop):Prop where
 h:∃k e t z,EM P T k e t z∧F t (d9 z)
inductive Mv (P:Program) (S T:Nat):AV→AV→Prop
 |bytes {e sz:Nat} (l:List UInt8) [j5 P S] [L7 P T e sz] [R8 P e .u8] (h:l.length≤9223372036854775807):Mv P S T (.str l) (.sl 1 (l.map fun b=>[.v (.int .u8 b.toNat)]))
 |back {e sz:Nat} (l:List UInt8) [L7 P S e sz] [R8 P e .u8] [j5 P T]:Mv P S T (.sl 1 (l.map fun b=>[.v (.int .u8 b.toNat)])) (.str l)
 |int {k k':IntKind} (m:Int) [R8 P T k] [R8 P S k']:Mv P S T (.v (.int k' m)) (.v (.int k (k.wrap m)))
 |rune {k:IntKind} (m:Int) [R8 P S k] [j5 P T]:Mv P S T (.v (.int k m)) (.str (Utf8.encode m).data.toList)
structure Af(P:Program)(S T:Nat)(a:AV)(F:AV→Prop):Prop where
 h:∃r,Mv P S T a r∧F r
theorem J0{p A:Prop}(h:p)(k:A):F8 p A:=⟨h,k⟩
theorem AJ{α β:Type}{l:List β}{f:β→α}{k:Nat}{F:α→Prop}(h:k<l.length)(kk:∀x,l[k]?=some x→F (f x)):P5 (l.map f) (k:Int) F :=
 ⟨by omega,by simpa using h,fun el nX=>by
  simp at nX
  obtain⟨u,hu,rfl⟩:=nX
  exact kk u hu⟩
theorem m9{α β:Type}{l:List β}{f:β→α}{i:Int}{F:α→Prop}(h0:0≤i)(h:i<l.length)(kk:∀x,l[i.toNat]?=some x→F (f x)):P5 (l.map f) i F :=
 ⟨h0,by simpa using h,fun el nX=>by
  simp at nX
  obtain⟨u,hu,rfl⟩:=nX
  exact kk u hu⟩
theorem aB{α:Type}{l:List α}{i:Int}{F:α→Prop}(h0:0≤i)(h:i<l.length)(kk:∀x,l[i.toNat]?=some x→F x):P5 l i F:=⟨h0,h,kk⟩
theorem EO{α:Type}{l:List α}{i:Int}{x:α}{F:α→Prop}(h:l[i.toNat]?=some x)(h0:0≤i)(kk:F x):P5 l i F:=by
 have h1:=(List.getElem?_eq_some_iff.1 h).1
 exact⟨h0,by omega,fun el nX=>by rw[h]at nX;cases nX;exact kk⟩
theorem A2{α β:Type}{l:List β}{f:β→α}{i:Int}{x:β}{F:α→Prop}(h:l[i.toNat]?=some x)(h0:0≤i)(kk:F (f x)):P5 (l.map f) i F :=
 EO (by simp[h]) h0 kk
theorem gc{α:Type}{l:List α}{i:Int}{x:α}{F:α→Prop}(h:l[i.toNat]?=some x)(h0:decide (0≤i)=true)(kk:F x):P5 l i F:=by
 have h1:=(List.getElem?_eq_some_iff.1 h).1
 have h2:=of_decide_eq_true h0
 exact⟨h2,by omega,fun el nX=>by rw[h]at nX;cases nX;exact kk⟩
theorem gf{α β:Type}{l:List β}{f:β→α}{F:Nat→Prop}(k:F l.length):Oa (l.map f) F:=⟨by rw[List.length_map];exact k⟩
theorem mI{α:Type}{l:List α}{F:Nat→Prop}(k:F l.length):Oa l F:=⟨k⟩
theorem kH{A B:Prop}(k:A):BM true A B:=⟨fun _=>k,fun h=>by cases h⟩
theorem kI{A B:Prop}(k:B):BM false A B:=⟨(fun h=>by cases h),fun _=>k⟩
theorem kJ{p A B:Prop}[Decidable p](h1:p→A)(h2:¬p→B):BM (decide p) A B:=⟨fun h=>h1 (of_decide_eq_true h),fun h=>h2 (of_decide_eq_false h)⟩
theorem gg{p A B:Prop}[Decidable p](h1:¬p→A)(h2:p→B):BM (!decide p) A B:=⟨fun h=>h1 (by simpa using h),fun h=>h2 (by simpa using h)⟩
theorem kK{b:Bool}{A B:Prop}(h1:b=true→A)(h2:b=false→B):BM b A B:=⟨h1,h2⟩
theorem gh{b:Bool}{A B:Prop}(h1:b=false→A)(h2:b=true→B):BM (!b) A B:=⟨(fun h=>h1 (by simpa using h)),fun h=>h2 (by simpa using h)⟩
theorem A1{P:Program}{f:Nat}{args:List AV}{r:AV}{F:AV→Prop}(h:A3 P f args r)(k:F r):RR P f args F:=⟨⟨r,h,k⟩⟩
theorem mJ{P:Program}{T:Nat}{ag:Bool}{sz:Nat}{F:Bool→Nat→Prop}[h:G5 P T ag sz](k:F ag sz):Lg P T F:=⟨⟨ag,sz,h,k⟩⟩
theorem kL{P:Program}{T:Nat}{l:List Value}{F:List AV→Prop}[h:H8 P T l](k:F (l.map d9)):Xi P T F:=⟨⟨l,h,k⟩⟩
theorem mK{P:Program}{S f off sz:Nat}{F:Nat→Nat→Prop}[h:D7 P S f off sz](k:F off sz):Ob P S f F:=⟨⟨off,sz,h,k⟩⟩
theorem mr{P:Program}{T e sz:Nat}{F:Nat→Nat→Prop}[h:L7 P T e sz](k:F e sz):IW P T F:=⟨⟨e,sz,h,k⟩⟩
theorem mL{P:Program}{T len e sz:Nat}{F:Nat→Nat→Prop}[h:Lc P T len e sz](k:F len sz):dG P T F:=⟨⟨len,e,sz,h,k⟩⟩
theorem mt{P:Program}{T:Nat}{A:Prop}[h:Zk P T](k:A):gF P T A:=⟨k⟩
theorem kM{P:Program}{T:Nat}{A:Prop}[h:j5 P T](k:A):DZ P T A:=⟨h,k⟩
theorem gj{P:Program}{T:Nat}{A:Prop}[h:Ep P T](k:A):GZ P T A:=⟨h,k⟩
theorem mM{P:Program}{T:Nat}{k:IntKind}{A:Prop}[h:Ej P T k](kk:A):HJ P T k A:=⟨h,kk⟩
theorem gk{P:Program}{T:Nat}{k1 k2 k3:IntKind}{A:Prop}[h:Jy P T k1 k2 k3](k:A):Mt P T k1 k2 k3 A:=⟨h,k⟩
theorem gl{P:Program}{T:Nat}{k1 k2:IntKind}{A:Prop}[h:HB P T k1 k2](k:A):Ms P T k1 k2 A:=⟨h,k⟩
theorem gn{P:Program}{T:Nat}{A:Prop}[h:HA P T](k:A):Mu P T A:=⟨h,k⟩
theorem gp{P:Program}{T:Nat}{zs:List Value}{pl:List (Nat×Nat)}{F:List AV→List (Nat×Nat)→Prop}[h:H8 P T zs][h2:L5 P T pl](k:F (zs.map d9) pl):It P T F:=⟨⟨zs,pl,h,h2,k⟩⟩
theorem mN{P:Program}{T e sz bs:Nat}{z:List Value}{F:Nat→Nat→Nat→List AV→Prop}[h:L7 P T e sz][h2:H8 P e z][h3:O2 P e bs](hz:z.length=sz)(k:F e sz bs (z.map d9)):Ey P T F:=⟨⟨e,sz,bs,z,h,h2,h3,hz,k⟩⟩
theorem mO{P:Program}{T k e:Nat}{t:TypeDesc}{z:Value}{F:TypeDesc→AV→Prop}[h:EM P T k e t z](kk:F t (d9 z)):Xj P T F:=⟨⟨k,e,t,z,h,kk⟩⟩
theorem Xk{P:Program}{S T e sz:Nat}{l:List UInt8}{F:AV→Prop}[j5 P S][L7 P T e sz][R8 P e .u8](h:l.length≤9223372036854775807)(k:F (.sl 1 (l.map fun b=>[.v (.int .u8 b.toNat)]))):Af P S T (.str l) F:=⟨⟨_,.bytes (e:=e) (sz:=sz) l h,k⟩⟩
theorem aC{P:Program}{S T e sz:Nat}{l:List UInt8}{F:AV→Prop}[L7 P S e sz][R8 P e .u8][j5 P T](k:F (.str l)):Af P S T (.sl 1 (l.map fun b=>[.v (.int .u8 b.toNat)])) F:=⟨_,.back (e:=e) (sz:=sz) l,k⟩
theorem gq{P:Program}{S T:Nat}{k k':IntKind}{m:Int}{F:AV→Prop}[R8 P T k][R8 P S k'](h:k.wrap m=m)(kk:F (.v (.int k m))):Af P S T (.v (.int k' m)) F:=⟨⟨_,.int (k:=k) m,by rw[h];exact kk⟩⟩
theorem dH{P:Program}{S T:Nat}{k k':IntKind}{m:Int}{F:AV→Prop}[R8 P T k][R8 P S k'](kk:F (.v (.int k (k.wrap m)))):Af P S T (.v (.int k' m)) F:=⟨⟨_,.int (k:=k) m,kk⟩⟩
theorem aD{P:Program}{S T:Nat}{k:IntKind}{m:Int}{F:AV→Prop}[R8 P S k][j5 P T](kk:F (.str (Utf8.encode m).data.toList)):Af P S T (.v (.int k m)) F:=⟨⟨_,.rune (k:=k) m,kk⟩⟩
theorem cond_false{c:Bool}{A:Prop}(h:cond c A False):c=true∧A:=by
 cases c
 ·exact h.elim
 ·exact⟨rfl,h⟩
def Xl:Value→Bool
 |.agg _|.tuple _=>false
 |_=>true
theorem Iu{v:Value}(h:Xl v=true):v.oneCell'=true:=by cases v<;>first|rfl|cases h
def SK(hp:Hp)(a:AV)(A:Prop):Prop :=
 match a with
 |.v x=>cond (Xl x) A False
 |.str _|.sl _ _|.iptr _|.ref _ _|.mp _|.fn _ _|.fo _ _=>A
 |.row i ver _=>match A5 hp i with
  |some (.row _ _ v' _)=>F8 (ver=v') A
  |_=>False
 |_=>False
theorem Iv{hp:Hp}{a:AV}{A:Prop}(h:SK hp a A):One hp a∧A:=by
 unfold SK at h
 split at h
 ·rename_i x
  obtain⟨h1,h2⟩:=cond_false h
  exact⟨One.v (Iu h1),h2⟩
 ·exact⟨.str _,h⟩
 ·exact⟨.sl _ _,h⟩
 ·exact⟨.iptr _,h⟩
 ·exact⟨.ref _ _,h⟩
 ·exact⟨.mp _,h⟩
 ·exact⟨.fn _ _,h⟩
 ·exact⟨.fo _ _,h⟩
 ·split at h
  ·rename_i hl
   obtain⟨rfl,h⟩:=h
   exact⟨.row hl,h⟩
  ·exact h.elim
 ·exact h.elim
def Xm(hp:Hp):List AV→Prop→Prop
 |[],A=>A
 |x::r,A=>SK hp x (Xm hp r A)
theorem Mw{hp:Hp}:∀{l:List AV} {A:Prop},Xm hp l A→Ev hp l∧A
 |[],A,h=>⟨trivial,h⟩
 |x::r,A,h=>by
  obtain⟨h1,h2⟩:=Iv h
  obtain⟨h3,h4⟩:=Mw h2
  exact⟨⟨h1,h3⟩,h4⟩
def SL(hp:Hp)(a:AV)(A:Prop):Prop :=
 match a with
 |.agg _=>A
 |a=>SK hp a A
theorem Iw{hp:Hp}{a:AV}{A:Prop}(h:SL hp a A):Fits hp a∧A:=by
 unfold SL at h
 split at h
 ·exact⟨trivial,h⟩
 ·rename_i hn
  obtain⟨h1,h2⟩:=Iv h
  refine⟨?_,h2⟩
  cases a<;>first|exact h1|exact trivial
def Dk(hp:Hp):List (Nat×AV)→Prop→Prop
 |[],A=>A
 |(_,a)::r,A=>SL hp a (Dk hp r A)
theorem n6{hp:Hp}:∀{l:List (Nat×AV)} {A:Prop},Dk hp l A→DX hp l∧A
 |[],A,h=>⟨trivial,h⟩
 |(_,x)::r,A,h=>by
  obtain⟨h1,h2⟩:=Iw h
  obtain⟨h3,h4⟩:=n6 h2
  exact⟨⟨h1,h3⟩,h4⟩
def kN(a:AV)(A:Prop):Prop :=
 match a with
 |.v x=>cond (Xl x) A False
 |.str _|.sl _ _|.iptr _|.fn _ _=>A
 |_=>False
theorem dI{a:AV}{A:Prop}(h:kN a A):b7 a∧A:=by
 unfold kN at h
 split at h
 ·obtain⟨h1,h2⟩:=cond_false h
  exact⟨Iu h1,h2⟩
 ·exact⟨trivial,h⟩
 ·exact⟨trivial,h⟩
 ·exact⟨trivial,h⟩
 ·exact⟨trivial,h⟩
 ·exact h.elim
def dJ:List AV→Prop→Prop
 |[],A=>A
 |x::r,A=>kN x (dJ r A)
def Mx:List (List AV)→Prop→Prop
 |[],A=>A
 |x::r,A=>dJ x (Mx r A)
theorem Pi:∀{l:List AV} {A:Prop},dJ l A→(∀u∈l,b7 u)∧A
 |[],A,h=>⟨fun u hu=>by (cases hu),h⟩
 |x::r,A,h=>by
  obtain⟨h1,h2⟩:=dI h
  obtain⟨h3,h4⟩:=Pi h2
  refine⟨fun u hu=>?_,h4⟩
  rcases List.mem_cons.1 hu with rfl|hu
  ·exact h1
  ·exact h3 u hu
theorem EP:∀{l:List (List AV)} {A:Prop},Mx l A→BZ l∧A
 |[],A,h=>⟨trivial,h⟩
 |x::r,A,h=>by
  obtain⟨h1,h2⟩:=Pi h
  obtain⟨h3,h4⟩:=EP h2
  exact⟨⟨h1,h3⟩,h4⟩
def Y5(x:Option AV)(F:AV→Prop):Prop :=
 match x with
 |some a=>F a
 |none=>False
theorem J8{x:Option AV}{F:AV→Prop}(h:Y5 x F):∃a,x=some a∧F a:=by
 unfold Y5 at h
 split at h
 ·exact⟨_,rfl,h⟩
 ·exact h.elim
def SM(op:BinOp)(k:IntKind)(a b:Int)(F:AV→Prop):Prop :=
 match op,k with
 |.add,.i64=>F8 (-9223372036854775808≤a+b∧a+b≤9223372036854775807) (F (.v (.int .i64 (a+b))))
 |.sub,.i64=>F8 (-9223372036854775808≤a-b∧a-b≤9223372036854775807) (F (.v (.int .i64 (a-b))))
 |.mul,.i64=>F8 (-9223372036854775808≤a*b∧a*b≤9223372036854775807) (F (.v (.int .i64 (a*b))))
 |.quo,.i64=>F8 (b≠0∧-9223372036854775808≤a.tdiv b∧a.tdiv b≤9223372036854775807) (F (.v (.int .i64 (a.tdiv b))))
 |.quo,k=>F8 (b≠0) (F (.v (.int k (k.wrap (a.tdiv b)))))
 |.rem,k=>F8 (b≠0) (F (.v (.int k (a.tmod b))))
 |op,k=>match CK op k a b with
  |some r=>F (.v r)
  |none=>False
def dK(op:BinOp)(a b:List UInt8)(F:AV→Prop):Prop :=
 match op with
 |.add=>F8 (a.length+b.length≤9223372036854775807) (F (.str (a++b)))
 |op=>match XZ op a b with
  |some r=>F (.v r)
  |none=>False
def Xn(P:Program)(T:Nat)(op:BinOp)(a b:Bool)(F:AV→Prop):Prop :=
 match op with
 |.eql=>Mu P T (F (.v (.bool (decide (a=b)))))
 |.neq=>Mu P T (F (.v (.bool (decide (a≠b)))))
 |_=>False
def CS(P:Program)(T:Nat)(op:BinOp)(l m:List AV)(F:AV→Prop):Prop :=
 match op,l,m with
 |.eql,[.v (.int k1 a1),.v (.int k2 a2)],[.v (.int k3 b1),.v (.int k4 b2)]=>cond (decide (k1=k3∧k2=k4)) (Ms P T k1 k2 (F (.v (.bool (decide (a1=b1∧a2=b2)))))) False
 |.neq,[.v (.int k1 a1),.v (.int k2 a2)],[.v (.int k3 b1),.v (.int k4 b2)]=>cond (decide (k1=k3∧k2=k4)) (Ms P T k1 k2 (F (.v (.bool (!decide (a1=b1∧a2=b2)))))) False
 |.eql,[.v (.int k1 a1),.v (.int k2 a2),.v (.int k3 a3)],[.v (.int l1 b1),.v (.int l2 b2),.v (.int l3 b3)]=>cond (decide (k1=l1∧k2=l2∧k3=l3)) (Mt P T k1 k2 k3 (F (.v (.bool (decide (a1=b1∧a2=b2∧a3=b3)))))) False
 |.neq,[.v (.int k1 a1),.v (.int k2 a2),.v (.int k3 a3)],[.v (.int l1 b1),.v (.int l2 b2),.v (.int l3 b3)]=>cond (decide (k1=l1∧k2=l2∧k3=l3)) (Mt P T k1 k2 k3 (F (.v (.bool (!decide (a1=b1∧a2=b2∧a3=b3)))))) False
 |.eql,[.str a1,.v (.int k2 a2)],[.str b1,.v (.int k4 b2)]=>cond (decide (k2=k4)) (HJ P T k2 (F (.v (.bool (decide (a1=b1∧a2=b2)))))) False
 |.neq,[.str a1,.v (.int k2 a2)],[.str b1,.v (.int k4 b2)]=>cond (decide (k2=k4)) (HJ P T k2 (F (.v (.bool (!decide (a1=b1∧a2=b2)))))) False
 |_,_,_=>False
def My:Operand→Bool
 |.const .nilIface=>true
 |_=>false
def SN(P:Program)(T:Nat)(op:BinOp)(x:Option AV)(F:AV→Prop):Prop :=
 match op,x with
 |.eql,some .err=>GZ P T (F (.v (.bool false)))
 |.neq,some .err=>GZ P T (F (.v (.bool true)))
 |.eql,some (.v .nilIface)=>GZ P T (F (.v (.bool true)))
 |.neq,some (.v .nilIface)=>GZ P T (F (.v (.bool false)))
 |_,_=>False
def SO(P:Program)(T:Nat)(op:BinOp)(x y:Option AV)(F:AV→Prop):Prop :=
 match op,x,y with
 |.shl,some (.v (.int k a)),some (.v (.int _ b))=>F8 (0≤b) (F (.v (.int k (k.wrap (a*2 ^ (min b.toNat k.bits))))))
 |.shr,some (.v (.int k a)),some (.v (.int _ b))=>F8 (0≤b) (F (.v (.int k (a.fdiv (2 ^ (min b.toNat k.bits))))))
 |op,some (.v (.int k a)),some (.v (.int k' b))=>cond (decide (k=k')) (SM op k a b F) False
 |op,some (.str s),some (.str t)=>dK op s t F
 |op,some (.v (.bool a)),some (.v (.bool b))=>Xn P T op a b F
 |op,some (.agg l),some (.agg m)=>CS P T op l m F
 |_,_,_=>False
def Mz(P:Program)(T:Nat)(hp:Hp)(x:Option AV)(F:AV→Prop):Prop :=
 match x with
 |some (.ref i off)=>match A5 hp i with
  |some (.bx τ l)=>Lg P T fun ag sz=>cond ag
    (cond (Nat.beq off 0 && Nat.beq l.length sz) (F (.agg l)) (F8 (((l.drop off).take sz).length=sz) (F (.agg ((l.drop off).take sz)))))
    (Y5 (l[off]?) F)
  |_=>False
 |some (.iptr l)=>Lg P T fun ag sz=>cond ag
   (cond (Nat.beq l.length sz) (F (.agg l)) (F8 ((l.take sz).length=sz) (F (.agg (l.take sz)))))
   (match l with|av::_=>F av|[]=>False)
 |some (.elt i ver k off)=>match A5 hp i with
  |some (.row _ sz oN l)=>F8 (ver=oN) (P5 l (k:Int) fun el=>Lg P T fun ag szT=>cond ag
    (cond (Nat.beq off 0 && Nat.beq szT sz) (F (.agg el)) False) (Y5 (el[off]?) F))
  |_=>False
 |_=>False
def SP(hp:Hp)(off:Nat)(x:Option AV)(F:AV→Prop):Prop :=
 match x with
 |some (.ref i o)=>F (.ref i (o+off))
 |some (.iptr l)=>F (.iptr (l.drop off))
 |some (.elt i ver k o)=>match A5 hp i with
  |some (.row _ _ oN _)=>F8 (ver=oN) (F (.elt i ver k (o+off)))
  |_=>False
 |_=>False
def Ix(P:Program)(T:Nat)(hp:Hp)(x y:Option AV)(F:AV→Prop):Prop :=
 match x,y with
 |some (.sl sz l),some (.v (.int _ i))=>IW P T fun _ ni=>cond (Nat.beq sz ni) (P5 l i fun el=>F (.iptr el)) False
 |some (.row r ver len),some (.v (.int _ i))=>match A5 hp r with
  |some (.row _ sz oN _)=>F8 (ver=oN) (IW P T fun _ ni=>cond (Nat.beq sz ni) (F8 (0≤i∧i<len) (F (.elt r ver i.toNat 0))) False)
  |_=>False
 |some (.ref r o),some (.v (.int _ i))=>dG P T fun len sz=>F8 (0≤i∧i<len) (F (.ref r (o+i.toNat*sz)))
 |_,_=>False
def dL(hp:Hp)(x:Option AV)(F:AV→Prop):Prop :=
 match x with
 |some (.ref i o)=>F (.ref i o)
 |some (.iptr l)=>F (.iptr l)
 |some (.elt i ver k o)=>match A5 hp i with
  |some (.row _ _ oN _)=>F8 (ver=oN) (F (.elt i ver k o))
  |_=>False
 |_=>False
def HK(P:Program)(T:Nat)(hp:Hp)(x:Option AV)(F:AV→Prop):Prop :=
 match x with
 |some (.sl _ l)=>IW P T fun _ _=>Oa l fun m=>F (.i m)
 |some (.str s)=>DZ P T (F (.i s.length))
 |some (.row r ver len)=>match A5 hp r with
  |some (.row _ _ oN _)=>F8 (ver=oN) (IW P T fun _ _=>F (.i len))
  |_=>False
 |some (.v (.slice none 0 0))=>IW P T fun _ _=>F (.i 0)
 |_=>False
def RS(P:Program)(f:Nat)(hp:Hp)(l caps:List AV)(F:AV→Prop):Prop:=cond (I6 l) (RR P f (l++caps) F) (mH P f hp l caps F)
def NA(P:Program)(T:Nat)(ev:Operand→Option AV)(x:Option AV)(lo hi:Option Operand)(F:AV→Prop):Prop :=
 match x with
 |some (.str s)=>DZ P T (match AB ev 0 lo,AB ev s.length hi with
  |some l,some h=>F8 (0≤l∧l≤h∧h≤s.length) (F (.str ((s.take h.toNat).drop l.toNat)))
  |_,_=>False)
 |some (.sl sz s)=>IW P T fun _ ni=>cond (Nat.beq sz ni) (match AB ev 0 lo,AB ev s.length hi with
  |some l,some h=>F8 (0≤l∧l≤h∧h≤s.length) (F (.sl sz ((s.take h.toNat).drop l.toNat)))
  |_,_=>False) False
 |_=>False
def Oc(P:Program)(T:Nat)(hp:Hp)(ok:Bool)(x y:Option AV)(F:AV→Prop):Prop :=
 match x,y with
 |some (.mp i),some rt=>match A5 hp i,keyOf rt with
  |some (.map m),some k=>Xj P T fun t z=>cond (DY t k) (F8 (r8 t m) (cond ok (kG (.tup [u6 m k z,.b (m8 m k).isSome]) F) (kG (u6 m k z) F))) False
  |_,_=>False
 |_,_=>False
def Fc(P:Program)(op:Op)(ev:Operand→Option AV)(hp:Hp)(F:AV→Prop):Prop :=
 match op with
 |.move x=>Y5 (ev x) F
 |.assign x=>Y5 (ev x) F
 |.pick c a b=>match ev c with
  |some (.v (.bool t))=>BM t (Y5 (ev a) F) (Y5 (ev b) F)
  |_=>False
 |.binOp op T x y _=>cond (My y) (SN P T op (ev x) F) (SO P T op (ev x) (ev y) F)
 |.unOp .not _ x=>match ev x with
  |some (.v (.bool b))=>F (.v (.bool (!b)))
  |_=>False
 |.unOp .neg _ x=>match ev x with
  |some (.v (.int .i64 a))=>F8 (-9223372036854775807≤a∧a≤9223372036854775807) (F (.v (.int .i64 (-a))))
  |_=>False
 |.load T x=>Mz P T hp (ev x) F
 |.fieldAddr S x f=>Ob P S f fun off sz=>cond (Nat.blt 0 sz) (SP hp off (ev x) F) False
 |.indexAddr T x y=>Ix P T hp (ev x) (ev y) F
 |.index T x y=>match ev x,ev y with
  |some (.str s),some (.v (.int _ i))=>DZ P T (P5 s i fun b=>F (.v (.int .u8 b.toNat)))
  |_,_=>False
 |.nilCheck x=>dL hp (ev x) F
 |.convert S T x=>Y5 (ev x) fun a=>Af P S T a F
 |.call ⟨.builtin .len,⟨[x]⟩,⟨[T]⟩⟩=>HK P T hp (ev x) F
 |.call ⟨.builtin .min,⟨[x,y]⟩,⟨[_,_]⟩⟩=>match ev x,ev y with
  |some (.v (.int k a)),some (.v (.int k' b))=>cond (decide (k=k')) (F (.v (.int k (min a b)))) False
  |_,_=>False
 |.call ⟨.builtin .max,⟨[x,y]⟩,⟨[_,_]⟩⟩=>match ev x,ev y with
  |some (.v (.int k a)),some (.v (.int k' b))=>cond (decide (k=k')) (F (.v (.int k (max a b)))) False
  |_,_=>False
 |.call ⟨.value (.func f),⟨args⟩,_⟩=>match l6 ev args with
  |some l=>RS P f hp l [] F
  |none=>False
 |.call ⟨.value (.tmp t),⟨args⟩,_⟩=>match ev (.tmp t),l6 ev args with
  |some (.fn f caps),some l=>RS P f hp l caps F
  |_,_=>False
 |.build T ⟨parts⟩=>match Az ev parts with
  |some ps=>It P T fun zs pl=>Dk hp ps (Y5 ((BL pl zs ps).map AV.agg) F)
  |none=>False
 |.buildSlice T len ⟨parts⟩=>match Az ev parts with
  |some ps=>Ey P T fun _ sz _ _=>cond (CM 0 ps && q9 sz (M4 ps) && Nat.beq ps.length len && Nat.blt 0 sz) (F8 (len*sz≤16777216) (Dk hp ps (Mx (M4 ps) (F (.sl sz (M4 ps)))))) False
  |none=>False
 |.lookup T x y ok=>Oc P T hp ok (ev x) (ev y) F
 |.slice T x lo hi none=>NA P T ev (ev x) lo hi F
 |.extract x k=>match ev x with
  |some (.tup l)=>Y5 (l[k]?) F
  |_=>False
 |.makeFunc (.func f) ⟨[]⟩ ⟨xs⟩=>match l6 ev xs with
  |some caps=>cond (I6 caps) (F (.fn f caps)) False
  |none=>False
 |_=>False
section sound
variable {P:Program} {E:Env} {nx:Nat} {hp:Hp} {ev:Operand→Option AV} {ty:TypeId} {x y:Operand} {F:AV→Prop} {T T2:TypeId}
theorem kO{op:BinOp}(h:SO P T op (ev x) (ev y) F):∃av,G6 P E nx hp ev (.binOp op T x y T2) ty av∧F av:=by
 unfold SO at h
 split at h
 ·rename_i hx hy;exact⟨_,gC hx hy h.h,h.k⟩
 ·rename_i hx hy;exact⟨_,gD hx hy h.h,h.k⟩
 ·rename_i hx hy
  obtain⟨hk,hq⟩:=cond_false h
  clear h
  have hk:=of_decide_eq_true hk
  subst hk
  unfold SM at hq
  split at hq
  ·exact⟨_,Dj hx hy (by simp only[CK,P4 hq.h]),hq.k⟩
  ·exact⟨_,Dj hx hy (by simp only[CK,P4 hq.h]),hq.k⟩
  ·exact⟨_,Dj hx hy (by simp only[CK,P4 hq.h]),hq.k⟩
  ·have pI:=RO (P:=P) (E:=E) (nx:=nx) (hp:=hp) (ty:=ty) (T:=T) (T2:=T2) hx hy hq.h.1
   rw[P4 hq.h.2]at pI
   exact⟨_,pI,hq.k⟩
  ·exact⟨_,RO hx hy hq.h,hq.k⟩
  ·exact⟨_,gB hx hy hq.h,hq.k⟩
  ·split at hq
   ·rename_i hr;exact⟨_,Dj hx hy hr,hq⟩
   ·exact hq.elim
 ·rename_i s t hx hy
  unfold dK at h
  split at h
  ·exact⟨_,Zp hx hy h.h,h.k⟩
  ·split at h
   ·rename_i hr;exact⟨_,Zo hx hy hr,h⟩
   ·exact h.elim
 ·rename_i a b hx hy
  unfold Xn at h
  split at h
  ·have:=h.h;exact⟨_,RP (T:=T) false hx hy,h.k⟩
  ·have:=h.h;exact⟨_,RP (T:=T) true hx hy,h.k⟩
  ·exact h.elim
 ·rename_i l m hx hy
  unfold CS at h
  split at h
  ·obtain⟨hk,hq⟩:=cond_false h
   obtain⟨rfl,rfl⟩:=of_decide_eq_true hk
   have:=hq.h;exact⟨_,HD (T:=T) false hx hy,hq.k⟩
  ·obtain⟨hk,hq⟩:=cond_false h
   obtain⟨rfl,rfl⟩:=of_decide_eq_true hk
   have:=hq.h;exact⟨_,HD (T:=T) true hx hy,hq.k⟩
  ·obtain⟨hk,hq⟩:=cond_false h
   obtain⟨rfl,rfl,rfl⟩:=of_decide_eq_true hk
   have:=hq.h;exact⟨_,HF (T:=T) false hx hy,hq.k⟩
  ·obtain⟨hk,hq⟩:=cond_false h
   obtain⟨rfl,rfl,rfl⟩:=of_decide_eq_true hk
   have:=hq.h;exact⟨_,HF (T:=T) true hx hy,hq.k⟩
  ·obtain⟨hk,hq⟩:=cond_false h
   obtain rfl:=of_decide_eq_true hk
   have:=hq.h;exact⟨_,Mi (T:=T) false hx hy,hq.k⟩
  ·obtain⟨hk,hq⟩:=cond_false h
   obtain rfl:=of_decide_eq_true hk
   have:=hq.h;exact⟨_,Mi (T:=T) true hx hy,hq.k⟩
  ·exact h.elim
 ·exact h.elim
theorem dM{op:BinOp}(hy:My y=true)(h:SN P T op (ev x) F):∃av,G6 P E nx hp ev (.binOp op T x y T2) ty av∧F av:=by
 obtain rfl:y=.const .nilIface:=by
  unfold My at hy
  split at hy
  ·rfl
  ·cases hy
 unfold SN at h
 split at h
 ·rename_i hx;have:=h.h;exact⟨_,Rs (T:=T) false hx,h.k⟩
 ·rename_i hx;have:=h.h;exact⟨_,Rs (T:=T) true hx,h.k⟩
 ·rename_i hx;have:=h.h;exact⟨_,Rt (T:=T) false hx,h.k⟩
 ·rename_i hx;have:=h.h;exact⟨_,Rt (T:=T) true hx,h.k⟩
 ·exact h.elim
theorem gr(h:Mz P T hp (ev x) F):∃av,G6 P E nx hp ev (.load T x) ty av∧F av:=by
 unfold Mz at h
 split at h
 ·rename_i i off hx
  split at h
  ·rename_i l hb
   obtain⟨⟨ag,sz,tv,h⟩⟩:=h
   cases ag with
   |true =>
    change cond (Nat.beq off 0 && Nat.beq l.length sz) _ _ at h
    cases hc:(Nat.beq off 0 && Nat.beq l.length sz)with
    |true =>
     rw[hc]at h
     simp only[Bool.and_eq_true,Nat.beq_eq]at hc
     obtain⟨rfl,hs⟩:=hc
     exact⟨_,Xb (sz:=sz) hx hb hs,h⟩
    |false =>
     rw[hc]at h
     exact⟨_,GX (sz:=sz) hx hb rfl h.h,h.k⟩
   |false =>
    obtain⟨av,hl,h⟩:=J8 h
    exact⟨_,Xa (sz:=sz) hx hb hl,h⟩
  ·exact h.elim
 ·rename_i l hx
  obtain⟨⟨ag,sz,tv,h⟩⟩:=h
  cases ag with
  |true =>
   change cond (Nat.beq l.length sz) _ _ at h
   cases hc:Nat.beq l.length sz with
   |true =>
    rw[hc]at h
    exact⟨_,AA (sz:=sz) hx (by rw[←Nat.eq_of_beq_eq_true hc,List.take_length]) (Nat.eq_of_beq_eq_true hc),h⟩
   |false =>
    rw[hc]at h
    exact⟨_,AA (sz:=sz) hx rfl h.h,h.k⟩
  |false =>
   cases l with
   |nil=>exact h.elim
   |cons av r=>exact⟨_,Kj (sz:=sz) hx,h⟩
 ·rename_i i ver k off hx
  split at h
  ·rename_i e sz oN l hb
   obtain⟨rfl,hq⟩:=h
   obtain⟨h0,h1,hk⟩:=hq
   have nf:k<l.length:=by omega
   have nX:l[k]?=some l[k]:=List.getElem?_eq_getElem nf
   obtain⟨⟨ag,szT,tv,h⟩⟩:=hk l[k] (by rw[Int.toNat_natCast];exact nX)
   cases ag with
   |true =>
    obtain⟨hc,h2⟩:=cond_false h
    simp only[Bool.and_eq_true,Nat.beq_eq]at hc
    obtain⟨rfl,hs⟩:=hc
    exact⟨_,OS hx hb nX hs,h2⟩
   |false =>
    obtain⟨av,hl,h⟩:=J8 h
    exact⟨_,Xd (szT:=szT) hx hb nX hl,h⟩
  ·exact h.elim
 ·exact h.elim
theorem dN{S f off sz:Nat}[tf:D7 P S f off sz](hz:Nat.blt 0 sz=true)(h:SP hp off (ev x) F):∃av,G6 P E nx hp ev (.fieldAddr S x f) ty av∧F av:=by
 unfold SP at h
 split at h
 ·rename_i hx;exact⟨_,Kk (off:=off) (sz:=sz) hx hz,h⟩
 ·rename_i hx;exact⟨_,Ih (off:=off) (sz:=sz) hx hz,h⟩
 ·rename_i hx
  split at h
  ·rename_i hb
   obtain⟨rfl,h⟩:=h
   exact⟨_,Uv (off:=off) (sz:=sz) hx hb hz,h⟩
  ·exact h.elim
 ·exact h.elim
theorem dO(h:Ix P T hp (ev x) (ev y) F):∃av,G6 P E nx hp ev (.indexAddr T x y) ty av∧F av:=by
 unfold Ix at h
 split at h
 ·rename_i hx hy
  obtain⟨⟨e,ni,ts,h⟩⟩:=h
  obtain⟨hz,hq⟩:=cond_false h
  clear h
  have:=Nat.eq_of_beq_eq_true hz
  subst this
  obtain⟨h0,h1,hk⟩:=hq
  rename_i sz l kk i
  have nf:i.toNat<l.length:=by omega
  have nX:l[i.toNat]?=some l[i.toNat]:=List.getElem?_eq_getElem nf
  exact⟨_,Me (e:=e) hx hy h0 nX,hk _ nX⟩
 ·rename_i hx hy
  split at h
  ·rename_i hb
   obtain⟨rfl,h⟩:=h
   obtain⟨⟨e,ni,ts,h⟩⟩:=h
   obtain⟨hz,hq⟩:=cond_false h
   clear h
   have:=Nat.eq_of_beq_eq_true hz
   subst this
   exact⟨_,Uw (e:=e) hx hb hy hq.h.1 hq.h.2,hq.k⟩
  ·exact h.elim
 ·rename_i hx hy
  obtain⟨⟨len,e,sz,ta,h⟩⟩:=h
  exact⟨_,Ux (e:=e) (sz:=sz) hx hy h.h.1 h.h.2,h.k⟩
 ·exact h.elim
theorem kP(h:dL hp (ev x) F):∃av,G6 P E nx hp ev (.nilCheck x) ty av∧F av:=by
 unfold dL at h
 split at h
 ·rename_i hx;exact⟨_,Zt hx,h⟩
 ·rename_i hx;exact⟨_,Xe hx,h⟩
 ·rename_i hx
  split at h
  ·rename_i hb
   obtain⟨rfl,h⟩:=h
   exact⟨_,Zu hx hb,h⟩
  ·exact h.elim
 ·exact h.elim
theorem kQ(h:HK P T hp (ev x) F):∃av,G6 P E nx hp ev (.call ⟨.builtin .len,#[x],#[T]⟩) ty av∧F av:=by
 unfold HK at h
 split at h
 ·rename_i hx
  obtain⟨⟨e,sz,ts,h⟩⟩:=h
  exact⟨_,Ru (e:=e) (sz:=sz) hx,h.k⟩
 ·rename_i hx
  obtain⟨ts,h⟩:=h
  exact⟨_,Pc hx,h⟩
 ·rename_i hx
  split at h
  ·rename_i hb
   obtain⟨rfl,h⟩:=h
   obtain⟨⟨e,sz,ts,h⟩⟩:=h
   exact⟨_,Zr (e:=e) (sz:=sz) hx hb,h⟩
  ·exact h.elim
 ·rename_i hx
  obtain⟨⟨e,sz,ts,h⟩⟩:=h
  exact⟨_,Pd (e:=e) (sz:=sz) hx,h⟩
 ·exact h.elim
theorem dP{lo hi:Option Operand}(h:NA P T ev (ev x) lo hi F):∃av,G6 P E nx hp ev (.slice T x lo hi none) ty av∧F av:=by
 unfold NA at h
 split at h
 ·rename_i hx
  obtain⟨ts,h⟩:=h
  split at h
  ·rename_i hl hh;exact⟨_,Kq hx hl hh h.h.1 h.h.2.1 h.h.2.2,h.k⟩
  ·exact h.elim
 ·rename_i hx
  obtain⟨⟨e,ni,ts,h⟩⟩:=h
  obtain⟨hz,hq⟩:=cond_false h
  clear h
  have:=Nat.eq_of_beq_eq_true hz
  subst this
  split at hq
  ·rename_i hl hh;exact⟨_,Xh (e:=e) hx hl hh hq.h.1 hq.h.2.1 hq.h.2.2,hq.k⟩
  ·exact hq.elim
 ·exact h.elim
theorem aE{ok:Bool}(h:Oc P T hp ok (ev x) (ev y) F):∃av,G6 P E nx hp ev (.lookup T x y ok) ty av∧F av:=by
 unfold Oc at h
 split at h
 ·rename_i hx hy
  split at h
  ·rename_i hb hk
   obtain⟨⟨k,e,t,z,tm,h⟩⟩:=h
   obtain⟨hkb,hq⟩:=cond_false h
   cases ok with
   |true=>exact⟨_,VA (T:=T) hx hb hy hk hkb hq.h,hq.k.h⟩
   |false=>exact⟨_,dE (T:=T) hx hb hy hk hkb hq.h,hq.k.h⟩
  ·exact h.elim
 ·exact h.elim
theorem gG{op:Op}(h:Fc P op ev hp F):∃av,G6 P E nx hp ev op ty av∧F av:=by
 unfold Fc at h
 split at h
 ·obtain⟨a,hx,h⟩:=J8 h;exact⟨a,Zn hx,h⟩
 ·obtain⟨a,hx,h⟩:=J8 h;exact⟨a,Rp hx,h⟩
 ·split at h
  ·rename_i t hc
   obtain⟨h1,h2⟩:=h
   cases t with
   |true=>obtain⟨a,hx,h⟩:=J8 (h1 rfl);exact⟨a,cu hc hx,h⟩
   |false=>obtain⟨a,hx,h⟩:=J8 (h2 rfl);exact⟨a,cw hc hx,h⟩
  ·exact h.elim
 ·rename_i y _
  cases hn:My y with
  |true=>rw[hn]at h;exact dM hn h
  |false=>rw[hn]at h;exact kO h
 ·split at h
  ·rename_i hx;exact⟨_,gE hx,h⟩
  ·exact h.elim
 ·split at h
  ·rename_i a hx
   have h1:=h.h
   refine⟨_,mC hx,?_⟩
   rw[P4 (by omega)]
   exact h.k
  ·exact h.elim
 ·exact gr h
 ·obtain⟨⟨off,sz,tf,h⟩⟩:=h
  obtain⟨hz,h⟩:=cond_false h
  exact dN (off:=off) (sz:=sz) hz h
 ·exact dO h
 ·split at h
  ·rename_i s k i hx hy
   obtain⟨ts,h0,h1,hk⟩:=h
   have nf:i.toNat<s.length:=by omega
   have nX:s[i.toNat]?=some s[i.toNat]:=List.getElem?_eq_getElem nf
   exact⟨_,Kl hx hy h0 nX,hk _ nX⟩
  ·exact h.elim
 ·exact kP h
 ·obtain⟨a,hx,h⟩:=J8 h
  obtain⟨⟨r,hr,h⟩⟩:=h
  cases hr with
  |bytes l hl=>rename_i e sz _ _ _;exact⟨_,Km (e:=e) (sz:=sz) hx hl,h⟩
  |back l=>rename_i e sz _ _ _;exact⟨_,Kn (e:=e) (sz:=sz) hx,h⟩
  |int m=>exact⟨_,Mg hx,h⟩
  |rune m=>exact⟨_,Ko hx,h⟩
 ·exact kQ h
 ·split at h
  ·rename_i hx hy
   obtain⟨hk,h2⟩:=cond_false h
   have:=of_decide_eq_true hk
   subst this
   exact⟨_,mD hx hy,h2⟩
  ·exact h.elim
 ·split at h
  ·rename_i hx hy
   obtain⟨hk,h2⟩:=cond_false h
   have:=of_decide_eq_true hk
   subst this
   exact⟨_,mE hx hy,h2⟩
  ·exact h.elim
 ·split at h
  ·rename_i l hl
   unfold RS at h
   cases hc:I6 l with
   |true =>
    rw[hc]at h
    obtain⟨⟨r,hr,h⟩⟩:=h
    rw[List.append_nil]at hr
    exact⟨_,Rw hr hl hc,h⟩
   |false =>
    rw[hc]at h
    obtain⟨⟨is,L,r,hL,nz,hr,pR,h⟩⟩:=h
    exact⟨_,SJ is hr hl hL nz pR fun _ _ _ _=>⟨[],rfl,rfl,fun j x c hx=>by simp at hx⟩,h⟩
  ·exact h.elim
 ·split at h
  ·rename_i f caps l hg hl
   unfold RS at h
   cases hc:I6 l with
   |true =>
    rw[hc]at h
    obtain⟨⟨r,hr,h⟩⟩:=h
    exact⟨_,ga hg hr hl hc,h⟩
   |false =>
    rw[hc]at h
    obtain⟨⟨is,L,r,hL,nz,hr,pR,h⟩⟩:=h
    refine⟨_,SJ is hr hl hL nz pR fun θ a w h=>?_,h⟩
    have:=(h.rel hg)
    generalize a.eval _=v at this
    cases this with
    |im hi=>cases hi with|fn f l cs hl hc=>exact⟨cs,rfl,hl,hc⟩
  ·exact h.elim
 ·split at h
  ·rename_i ps sZ
   obtain⟨⟨zs,pl,tz,tp,h⟩⟩:=h
   obtain⟨hf,h⟩:=n6 h
   obtain⟨a,ha,h⟩:=J8 h
   rw[Option.map_eq_some_iff]at ha
   obtain⟨l,hl,rfl⟩:=ha
   exact⟨_,WB (T:=_) sZ hf hl,h⟩
  ·exact h.elim
 ·split at h
  ·rename_i ps sZ
   obtain⟨⟨e,sz,bs,z,ts,tz,tb,hz,h⟩⟩:=h
   obtain⟨hc,h⟩:=cond_false h
   simp only[Bool.and_eq_true,Nat.beq_eq,Nat.blt_eq]at hc
   obtain⟨hs,h⟩:=h
   obtain⟨hf,h⟩:=n6 h
   obtain⟨hi,h⟩:=EP h
   exact⟨_,Ip (e:=e) (z:=z) sZ hf hc.1.1.1 hc.1.1.2 hc.1.2 hz hs hc.2 hi,h⟩
  ·exact h.elim
 ·exact aE h
 ·exact dP h
 ·split at h
  ·rename_i hx
   obtain⟨a,ha,h⟩:=J8 h
   exact⟨a,Pg hx ha,h⟩
  ·exact h.elim
 ·split at h
  ·rename_i caps hc
   obtain⟨nz,h⟩:=cond_false h
   exact⟨_,Xg hc nz,h⟩
  ·exact h.elim
 ·exact h.elim
end sound
def Rd(a:AV):Prop:=∃U w v,Im U w a v
theorem Rd.sl{sz:Nat}{l:List (List AV)}(h:Rd (.sl sz l)):l.length≤9223372036854775807:=by
 obtain⟨U,w,v,h⟩:=h
 cases h with
 |slnil=>simp
 |sl sz l a cap f oY hm hu hsz hc h=>unfold maxLen at hm;omega
theorem Rd.agg{l:List AV}(h:Rd (.agg l)):∀x∈l,Rd x:=by
 obtain⟨U,w,v,h⟩:=h
 cases h with
 |agg l cs hl h =>
  intro x hx
  obtain⟨j,hj,rfl⟩:=List.getElem_of_mem hx
  have h2:j<cs.length:=by omega
  exact⟨U,w,_,h j _ _ (List.getElem?_eq_getElem hj) (List.getElem?_eq_getElem h2)⟩
theorem Rd.elem{sz:Nat}{l:List (List AV)}(h:Rd (.sl sz l)):∀e∈l,∀x∈e,Rd x:=by
 obtain⟨U,w,v,h⟩:=h
 cases h with
 |slnil=>intro e he;cases he
 |sl sz l a cap f oY hm hu hsz hc h =>
  intro e he x hx
  obtain⟨i,hi,rfl⟩:=List.getElem_of_mem he
  obtain⟨j,hj,rfl⟩:=List.getElem_of_mem hx
  exact⟨U,w,_,h i _ (List.getElem?_eq_getElem hi) j _ (List.getElem?_eq_getElem hj)⟩
def Ag:List AV→Nat→List (Nat×AV)
 |[],_=>[]
 |a::r,k=>(k,a)::Ag r (k+1)
theorem EQ:∀(l:List AV) (k s:Nat) (x:AV),look (Ag l k) s=some x→k≤s∧l[s-k]?=some x
 |[],_,_,_,h=>by cases h
 |a::r,k,s,x,h=>by
  simp only[Ag,E6]at h
  by_cases e:k=s
  ·subst e;simp at h;subst h;simp
  ·rw[if_neg e]at h
   obtain⟨h1,h2⟩:=EQ r (k+1) s x h
   refine⟨by omega,?_⟩
   have:s-k=(s-(k+1))+1:=by omega
   rw[this]
   simpa using h2
def W8(tmps:Array Value):ResultVar→Sem Value
 |.tmp t=>pure (tmps.getD t undef)
 |.cell a t=>do loadVar t (←asAddr (tmps.getD a undef))
theorem Lh{P:Program}{w:World}{tmps:Array Value}:∀{rvs:List ResultVar} {vs:List Value},rvs.length=vs.length→(∀(j:Nat) rv v,rvs[j]?=some rv→vs[j]?=some v→(W8 tmps rv).run P w=.ok v w)→(rvs.mapM (W8 tmps)).run P w=.ok vs w
 |[],[],_,_=>by simp[Sem.run_pure]
 |rv::r,v::s,hl,h=>by
  have h1:=h 0 rv v rfl rfl
  have h2:=Lh (rvs:=r) (vs:=s) (by simpa using hl) (fun j rv v hj hv=>h (j+1) rv v (by simpa using hj) (by simpa using hv))
  simp[List.mapM_cons,Sem.run_bind,h1,h2]
 |[],_::_,hl,_=>by simp at hl
 |_::_,[],hl,_=>by simp at hl
theorem Ks{P:Program}{w:World}{fn:Func}{tmps:Array Value}{rvs:List ResultVar}{vs:List Value}(h:fn.results=rvs.toArray)(hne:rvs.length≠1)(hl:rvs.length=vs.length)(hv:∀(j:Nat) rv v,rvs[j]?=some rv→vs[j]?=some v→(W8 tmps rv).run P w=.ok v w):
  (results fn tmps).run P w=.ok (.tuple vs.toArray) w:=by
 have hm:=Lh (P:=P) (w:=w) (tmps:=tmps) hl hv
 have e:results fn tmps=(do let vs ←fn.results.mapM (W8 tmps);pure (if h:vs.size=1 then vs[0]else .tuple vs)):=by
  unfold results
  congr
 rw[e,h,List.mapM_toArray]
 simp only[Sem.run_bind,map_eq_pure_bind,hm,Sem.run_pure,Result.andThen_ok]
 rw[dif_neg (by simp;omega)]
theorem SQ{P:Program}{w:World}{fn:Func}{tmps:Array Value}{rv:ResultVar}{v:Value}(h:fn.results=[rv].toArray)(hv:(W8 tmps rv).run P w=.ok v w):
  (results fn tmps).run P w=.ok v w:=by
 have hm:=Lh (P:=P) (w:=w) (tmps:=tmps) (rvs:=[rv]) (vs:=[v]) rfl (fun j rv' v' hj oo=>by
  cases j with
  |zero=>simp at hj oo;subst hj oo;exact hv
  |succ j=>simp at hj)
 have e:results fn tmps=(do let vs ←fn.results.mapM (W8 tmps);pure (if h:vs.size=1 then vs[0]else .tuple vs)):=by
  unfold results
  congr
 rw[e,h,List.mapM_toArray]
 simp only[Sem.run_bind,map_eq_pure_bind,hm,Sem.run_pure,Result.andThen_ok]
 rfl
inductive NL:AV→AV→Prop
 |refl (a:AV):NL a a
 |any (a:AV):NL a .any
 |nil (sz:Nat):NL (.v (.slice none 0 0)) (.sl sz [])
 |agg (l m:List AV) (h:l.length=m.length) (hh:∀(j:Nat) x y,l[j]?=some x→m[j]?=some y→NL x y):NL (.agg l) (.agg m)
 |tup (l m:List AV) (h:l.length=m.length) (hh:∀(j:Nat) x y,l[j]?=some x→m[j]?=some y→NL x y):NL (.tup l) (.tup m)
 |sl (sz:Nat) (l m:List (List AV)) (h:l.length=m.length) (hl:∀(i:Nat) e e',l[i]?=some e→m[i]?=some e'→e.length=e'.length) (hh:∀(i:Nat) e e',l[i]?=some e→m[i]?=some e'→∀(j:Nat) x y,e[j]?=some x→e'[j]?=some y→NL x y):NL (.sl sz l) (.sl sz m)
theorem O6{α β:Type}{l:List α}{m:List β}(h:l.length=m.length){j:Nat}{y:β}(hy:m[j]?=some y):∃x,l[j]?=some x:=by
 have:=(List.getElem?_eq_some_iff.1 hy).1
 exact⟨_,List.getElem?_eq_getElem (by omega)⟩
theorem NL.im{U:Nat→Prop}{w:World}{a b:AV}(h:NL a b):∀{v:Value},Im U w a v→Im U w b v:=by
 induction h with
 |refl a=>intro v h;exact h
 |any a=>intro v h;exact .any v
 |nil sz=>intro v h;cases h;exact .slnil sz
 |agg l m hl hh ih =>
  intro v h
  cases h with
  |agg l cs hc h =>
   refine .agg m cs (by omega) fun j y c hy pf=>?_
   obtain⟨x,hx⟩:=O6 hl hy
   exact ih j x y hx hy (h j x c hx pf)
 |tup l m hl hh ih =>
  intro v h
  cases h with
  |tup l cs hc h =>
   refine .tup m cs (by omega) fun j y c hy pf=>?_
   obtain⟨x,hx⟩:=O6 hl hy
   exact ih j x y hx hy (h j x c hx pf)
 |sl sz l m hl nZ hh ih =>
  intro v h
  cases h with
  |slnil =>
   have:m=[]:=List.eq_nil_of_length_eq_zero (by rw[←hl];rfl)
   subst this
   exact .slnil sz
  |sl sz l a cap f oY hm hu hsz hc h =>
   rw[hl]
   refine .sl sz m a cap f (by omega) hm (fun hne=>hu (fun e=>hne (List.eq_nil_of_length_eq_zero (by rw[←hl,e];rfl)))) (fun e he=>?_) (fun i hi=>hc i (by omega)) (fun i e' qu j y hy=>?_)
   ·obtain⟨i,hi,rfl⟩:=List.getElem_of_mem he
    obtain⟨x,hx⟩:=O6 hl (List.getElem?_eq_getElem hi)
    rw[←nZ i x _ hx (List.getElem?_eq_getElem hi)]
    exact hsz x (List.mem_of_getElem? hx)
   ·obtain⟨e,he⟩:=O6 hl qu
    obtain⟨x,hx⟩:=O6 (nZ i e e' he qu) hy
    exact ih i e e' he qu j x y hx hy (h i e he j x hx)
theorem NB{c:Cx}{a b:AV}(h:NL a b):∀{v:Value},D8 c a v→D8 c b v:=by
 induction h with
 |refl a=>intro v h;exact h
 |any a=>intro v h;exact .any v
 |nil sz=>intro v h;rw[h.val];exact .im (.slnil sz)
 |agg l m hl hh ih =>
  intro v h
  obtain⟨cs,rfl,hc,hr⟩:=El h
  refine .agg m cs (by omega) fun j y z hy hz=>?_
  obtain⟨x,hx⟩:=O6 hl hy
  exact ih j x y hx hy (hr j x z hx hz)
 |tup l m hl hh ih =>
  intro v h
  have:∃cs:List Value,v=.tuple cs.toArray∧l.length=cs.length∧∀(j:Nat) u z,l[j]?=some u→cs[j]?=some z→D8 c u z:=by
   cases h with
   |im hi=>cases hi with|tup l cs hl hc=>exact⟨cs,rfl,hl,fun j u z hu hz=>.im (hc j u z hu hz)⟩
   |tup l cs hl hc=>exact⟨cs,rfl,hl,hc⟩
  obtain⟨cs,rfl,hc,hr⟩:=this
  refine .tup m cs (by omega) fun j y z hy hz=>?_
  obtain⟨x,hx⟩:=O6 hl hy
  exact ih j x y hx hy (hr j x z hx hz)
 |sl sz l m hl nZ hh ih =>
  intro v h
  cases h with
  |im hi=>exact .im ((NL.sl sz l m hl nZ hh).im hi)
def Xo(P:Program)(σ:St):ResultVar→AV→Prop
 |.tmp t,a=>∃a',(look σ.sl t).map (I9 σ.hp [])=some a'∧NL a' a
 |.cell t T,a=>∃i τ l sz,look σ.sl t=some (.ref i 0)∧A5 σ.hp i=some (.bx τ l)∧G5 P T true sz∧l.length=sz∧NL (.agg (CO σ.hp [] l)) a
def HL(P:Program)(σ:St):List ResultVar→List AV→Prop
 |[],[]=>True
 |v::r,a::s=>Xo P σ v a∧HL P σ r s
 |_,_=>False
theorem HL.get{P:Program}{σ:St}:∀{rvs:List ResultVar} {as:List AV},HL P σ rvs as→rvs.length=as.length∧∀(j:Nat) rv a,rvs[j]?=some rv→as[j]?=some a→Xo P σ rv a
 |[],[],_=>⟨rfl,fun j rv a h=>by simp at h⟩
 |v::r,a::s,h=>by
  obtain⟨h1,h2⟩:=HL.get h.2
  refine⟨by simp[h1],fun j rv b hj hb=>?_⟩
  cases j with
  |zero=>simp at hj hb;subst hj hb;exact h.1
  |succ j=>exact h2 j rv b (by simpa using hj) (by simpa using hb)
 |[],_::_,h=>h.elim
 |_::_,[],h=>h.elim
def gH(P:Program)(rs:Array ResultVar)(r:AV)(σ:St):Prop :=
 (∃rvs as,rs=rvs.toArray∧rvs.length≠1∧HL P σ rvs as∧r=.tup as) ∨
 (∃t,rs=#[.tmp t]∧(look σ.sl t).map (I9 σ.hp [])=some r) ∨
 (∃t sz,rs=#[.tmp t]∧look σ.sl t=some (.v (.slice none 0 0))∧r=.sl sz []) ∨
 (∃t u a b,rs=#[.tmp t,.tmp u]∧(look σ.sl t).map (I9 σ.hp [])=some a∧(look σ.sl u).map (I9 σ.hp [])=some b∧r=.tup [a,b]) ∨
 (∃t T i τ l,rs=#[.cell t T]∧look σ.sl t=some (.ref i 0)∧A5 σ.hp i=some (.bx τ l)∧r=.agg (CO σ.hp [] l))
def D0(P:Program)(rs:Array ResultVar)(r:AV):Exit→St→Prop
 |.ret,σ=>gH P rs r σ
 |.normal,σ=>gH P rs r σ
 |_,_=>False
theorem A0{P:Program}{t:Nat}{r r':AV}{σ:St}(h:(look σ.sl t).map (I9 σ.hp [])=some r')(e:r'=r):D0 P #[.tmp t] r .ret σ:=.inr (.inl ⟨t,rfl,e▸h⟩)
theorem SR{P:Program}{rs:List ResultVar}{vs:List AV}{r:AV}{σ:St}(hn:(Nat.beq rs.length 1)=false)(h:HL P σ rs vs)(e:.tup vs=r):D0 P rs.toArray r .ret σ:=.inl ⟨rs,vs,rfl,(fun h=>by rw[h]at hn;cases hn),h,e.symm⟩
theorem SS{P:Program}{t:Nat}{a' a:AV}{σ:St}(h:(look σ.sl t).map (I9 σ.hp [])=some a')(e:NL a' a):Xo P σ (.tmp t) a:=⟨a',h,e⟩
theorem Ez{P:Program}{t u v:Nat}{a b c r:AV}{σ:St}(h:(look σ.sl t).map (I9 σ.hp [])=some a)(h2:(look σ.sl u).map (I9 σ.hp [])=some b)(h3:(look σ.sl v).map (I9 σ.hp [])=some c)(e:.tup [a,b,c]=r):D0 P #[.tmp t,.tmp u,.tmp v] r .ret σ :=
 SR (rs:=[.tmp t,.tmp u,.tmp v]) (vs:=[a,b,c]) rfl ⟨⟨a,h,.refl _⟩,⟨b,h2,.refl _⟩,⟨c,h3,.refl _⟩,trivial⟩ e
theorem r9{P:Program}{t T i u sz τ:Nat}{l:List AV}{a b b' r:AV}{σ:St}[tv:G5 P T true sz](h:look σ.sl t=some (.ref i 0))(hb:A5 σ.hp i=some (.bx τ l))(hl:Nat.beq l.length sz=true)(na:NL (.agg (CO σ.hp [] l)) a)(h2:(look σ.sl u).map (I9 σ.hp [])=some b')(nb:NL b' b)(e:.tup [a,b]=r):D0 P #[.cell t T,.tmp u] r .ret σ :=
 SR (rs:=[.cell t T,.tmp u]) (vs:=[a,b]) rfl ⟨⟨i,τ,l,sz,h,hb,tv,Nat.eq_of_beq_eq_true hl,na⟩,⟨b',h2,nb⟩,trivial⟩ e
theorem V2{P:Program}{t u:Nat}{a b r:AV}{σ:St}(h:(look σ.sl t).map (I9 σ.hp [])=some a)(h2:(look σ.sl u).map (I9 σ.hp [])=some b)(e:.tup [a,b]=r):D0 P #[.tmp t,.tmp u] r .ret σ:=.inr (.inr (.inr (.inl ⟨t,u,a,b,rfl,h,h2,e.symm⟩)))
theorem x9{P:Program}{t sz:Nat}{r:AV}{σ:St}(h:look σ.sl t=some (.v (.slice none 0 0)))(e:.sl sz []=r):D0 P #[.tmp t] r .ret σ:=.inr (.inr (.inl ⟨t,sz,rfl,h,e.symm⟩))
section rules
variable {P:Program} {E:Env} {n:Nat} {ops:Array Oper} {rest:List Oper} {σ:St} {K:St→Prop} {Q:Exit→St→Prop}
variable {d:Nat} {ty:TypeId} {pos:String} {after:Array Edge} {x y:Operand}
theorem Pj{fn:Func}{r:AV}{X:Nat→Prop}{w w':World}{rR:P3 (fun k=>X k∨(fun _=>False) k) w}{rf:Bool}{θ:Th}{σ':St}{a:Act}(hs:J6 ⟨w,X,fun _=>False,fun _=>undef,0,rR,rf⟩ n θ σ' a w')(xK:a.defers=[])(nz:Q4 r)
  (pb:∀t T,fn.results=#[.cell t T]→∃sz,G5 P T true sz∧∀l,r=.agg l→l.length=sz) (tP:gH P fn.results r σ'):bodyPost P fn (fun e rD=>∃v,e=.returned v∧Im X rD r v∧Below w.heap.size w rD) .ret a w':=by
 have pk:Below w.heap.size w w':=⟨hs.fr.os,hs.fr.tape,hs.fr.output,hs.fr.size,fun k hk=>hs.fr.block k hk (fun h=>h)⟩
 have uF:=hs.cv (σ':=⟨AC (I9 σ'.hp []) σ'.sl,σ'.nx,[]⟩) (Nat.zero_le _) (fun s x' hx=>by
  rw[CP,Option.map_eq_some_iff]at hx
  obtain⟨x,h1,h2⟩:=hx
  exact⟨x,h1,h2,.inl (Nat.le_refl _)⟩) (fun i b' hi=>by cases hi)
 have xT:∀{a:AV} {v:Value},Q4 a→D8 (cx ⟨w,X,fun _=>False,fun _=>undef,0,rR,rf⟩ θ ⟨AC (I9 σ'.hp []) σ'.sl,σ'.nx,[]⟩ w') a v→Im X w' a v:=fun hc hi=>(hc.im hi).mono (fun _ _ _=>rfl) fun k _ hu=>.inl hu
 have slot:∀{t:Nat} {r:AV},(look σ'.sl t).map (I9 σ'.hp [])=some r→look (AC (I9 σ'.hp []) σ'.sl) t=some r:=fun h=>by rw[CP];exact h
 rcases tP with ⟨rvs,as,h1,sH,tw,rfl⟩|⟨t,h1,h2⟩|⟨t,sz,h1,h2,rfl⟩|⟨t,u,a1,b1,h1,h2,h3,rfl⟩|⟨t,T,i,τ,l,h1,h2,h3,rfl⟩
 ·obtain⟨nZ,oy⟩:=HL.get tw
  have ze:∀a∈as,Q4 a:=by cases nz with|tup hk=>exact hk
  have one:∀(rv:ResultVar) (b:AV),Q4 b→Xo P σ' rv b→∃v,(W8 a.tmps rv).run P w'=.ok v w'∧Im X w' b v:=by
   intro rv b hb hv
   cases rv with
   |tmp t =>
    obtain⟨a',h1,h2⟩:=hv
    exact⟨_,by simp[W8,Sem.run_pure],xT hb (NB h2 (uF.slots t a' (slot h1)))⟩
   |cell t T =>
    obtain⟨i,τ,l,sz,h2,h3,tv,si,wV⟩:=hv
    obtain⟨b1,hθ,hv,_⟩:=k5 (hs.slots t _ h2)
    obtain⟨b',oG,T',pB,hh,hsz,hr⟩:=(hs.owns i _ h3).2
    have pu:θ i=.pointer (some ⟨b1,0,none⟩):=hθ
    have qX:θ i=.pointer (some ⟨b',0,none⟩):=pB
    rw[pu]at qX
    cases qX
    have vq:w'.heap[b1]?=some (.cells oG T' (0,0)):=hh
    have sub:(cx ⟨w,X,fun _=>False,fun _=>undef,0,rR,rf⟩ θ σ' w').sub (cx ⟨w,X,fun _=>False,fun _=>undef,0,rR,rf⟩ θ ⟨AC (I9 σ'.hp []) σ'.sl,σ'.nx,[]⟩ w'):=⟨rfl,rfl,fun _ h=>h,(fun i b' hi=>by cases hi),hs.apart,fun i b k hi hk=>(hs.mine i b k hi hk).1,fun i b hi=>(hs.owns i b hi).2⟩
    have qP:=R9 (P:=P) (T:=T) (sz:=sz) (w:=w') (a:=⟨b1,0,none⟩) (cs:=oG.toList) (by rw[Array.length_toList,hsz,si]) (fun j v hj=>by rw[H3,K1 vq];simpa using hj)
    refine⟨.agg oG,by simp[W8,hv,Sem.run_bind,Sem.run_pure,asAddr,qP],xT hb (NB wV (by
     have:=D8.agg (c:=cx ⟨w,X,fun _=>False,fun _=>undef,0,rR,rf⟩ θ ⟨AC (I9 σ'.hp []) σ'.sl,σ'.nx,[]⟩ w') (CO σ'.hp [] l) oG.toList (by rw[P7];simp[hsz]) (fun j x y hx hy=>by
      rw[P7]at hx
      simp only[List.getElem?_map,Option.map_eq_some_iff]at hx
      obtain⟨u0,pc,rfl⟩:=hx
      exact Iq sub (hr j u0 y pc (by simpa using hy)) (.inl (Nat.le_refl _)))
     simpa using this))⟩
  have all:∀(m:Nat),m≤rvs.length→∃vs:List Value,vs.length=m∧∀(j:Nat) rv v,rvs[j]?=some rv→vs[j]?=some v→(W8 a.tmps rv).run P w'=.ok v w'∧∀b,as[j]?=some b→Im X w' b v:=by
   intro m
   induction m with
   |zero=>intro _;exact⟨[],rfl,fun j rv v _ h=>by simp at h⟩
   |succ m ih =>
    intro hm
    obtain⟨vs,hl,qf⟩:=ih (by omega)
    have xS:rvs[m]?=some rvs[m]:=List.getElem?_eq_getElem (by omega)
    have ham:as[m]?=some (as[m]'(by omega)):=List.getElem?_eq_getElem (by omega)
    obtain⟨v,uX,rP⟩:=one rvs[m] (as[m]'(by omega)) (ze _ (List.getElem_mem _)) (oy m _ _ xS ham)
    refine⟨vs++[v],by simp[hl],fun j rv u hj hu=>?_⟩
    by_cases e:j<m
    ·rw[List.getElem?_append_left (by omega)]at hu
     exact qf j rv u hj hu
    ·rw[List.getElem?_append_right (by omega),hl]at hu
     have ej:j=m:=by
      have:=(List.getElem?_eq_some_iff.1 hu).1
      simp at this;omega
     subst ej
     simp at hu
     subst hu
     rw[xS]at hj
     cases hj
     exact⟨uX,fun b hb=>by rw[ham]at hb;cases hb;exact rP⟩
  obtain⟨vs,wo,qf⟩:=all rvs.length (Nat.le_refl _)
  refine⟨xK,_,Ks h1 sH wo.symm (fun j rv v hj hv=>(qf j rv v hj hv).1),_,rfl,.tup as vs (by omega) fun j b v hb hv=>?_,pk⟩
  obtain⟨rv,AA0⟩:=O6 nZ hb
  exact(qf j rv v AA0 hv).2 b hb
 ·exact⟨xK,_,results_tmp h1 _ _ _,_,rfl,xT nz (uF.slots t r (slot h2)),pk⟩
 ·exact⟨xK,_,results_tmp h1 _ _ _,_,rfl,by rw[(hs.slots t _ h2).val];exact .slnil sz,pk⟩
 ·refine⟨xK,_,results_tmp2 h1 _ _ _,_,rfl,?_,pk⟩
  refine xT nz (.tup [a1,b1] [_,_] rfl fun j x y hx hy=>?_)
  match j,hx,hy with
  |0,hx,hy=>cases hx;cases hy;exact uF.slots t _ (slot h2)
  |1,hx,hy=>cases hx;cases hy;exact uF.slots u _ (slot h3)
 ·obtain⟨b,hθ,hv,_⟩:=k5 (hs.slots t _ h2)
  obtain⟨b',oG,T',pB,hh,hsz,hr⟩:=(hs.owns i _ h3).2
  have pu:θ i=.pointer (some ⟨b,0,none⟩):=hθ
  have qX:θ i=.pointer (some ⟨b',0,none⟩):=pB
  rw[pu]at qX
  cases qX
  obtain⟨sz,tv,nZ⟩:=pb t T h1
  have si:=nZ _ rfl
  rw[P7,List.length_map]at si
  have vq:w'.heap[b]?=some (.cells oG T' (0,0)):=hh
  have sub:(cx ⟨w,X,fun _=>False,fun _=>undef,0,rR,rf⟩ θ σ' w').sub (cx ⟨w,X,fun _=>False,fun _=>undef,0,rR,rf⟩ θ ⟨AC (I9 σ'.hp []) σ'.sl,σ'.nx,[]⟩ w'):=⟨rfl,rfl,fun _ h=>h,(fun i b' hi=>by cases hi),hs.apart,fun i b k hi hk=>(hs.mine i b k hi hk).1,fun i b hi=>(hs.owns i b hi).2⟩
  refine⟨xK,.agg oG,?_,_,rfl,xT nz (by
   have:=D8.agg (c:=cx ⟨w,X,fun _=>False,fun _=>undef,0,rR,rf⟩ θ ⟨AC (I9 σ'.hp []) σ'.sl,σ'.nx,[]⟩ w') (CO σ'.hp [] l) oG.toList (by rw[P7];simp[hsz]) (fun j x y hx hy=>by
    rw[P7]at hx
    simp only[List.getElem?_map,Option.map_eq_some_iff]at hx
    obtain⟨u0,pc,rfl⟩:=hx
    exact Iq sub (hr j u0 y pc (by simpa using hy)) (.inl (Nat.le_refl _)))
   simpa using this),pk⟩
  have qP:=R9 (P:=P) (T:=T) (sz:=sz) (w:=w') (a:=⟨b,0,none⟩) (cs:=oG.toList) (by rw[Array.length_toList,hsz,si]) (fun j v hj=>by rw[H3,K1 vq];simpa using hj)
  rw[Array.getD_eq_getD_getElem?]at hv
  simp[results,h1,hv,Sem.run_bind,Sem.run_pure,asAddr,qP]
theorem VG {f : Nat} {fn : Func} {code : Code} {args : List AV} {r : AV} {rs : Array ResultVar} (hf : P.funcs[f]? = some fn) (pP : (fn.name == "runtime.NumGoroutine") = false) (hb : fn.body = some code) (hn : fn.ntmps = n) (sa : fn.results = rs)
  (oC:Nat.ble args.length n=true) (nz:J1 r=true) (pb:∀t T,rs=#[.cell t T]→∃sz,G5 P T true sz∧∀l,r=.agg l→l.length=sz)
  (h:(∀a∈args,Rd a)→∀E,E.n0=0→C7 P E n code ⟨Ag args 0,0,[]⟩ (D0 P rs r)):A3 P f args r:=by
 subst hn sa
 have nz:=S3 nz
 refine⟨⟨fn,hf,pP,by rw[hb];rfl⟩,fun X w vs hX oa hl qf=>?_⟩
 have rR:P3 (fun k=>X k∨(fun _=>False) k) w:=oa.mono (fun k _ h=>h.elim id False.elim) fun _ _ _=>rfl
 have nd:∀a∈args,Rd a:=by
  intro a ha
  obtain⟨j,hj,rfl⟩:=List.getElem_of_mem ha
  have h2:j<vs.length:=by omega
  exact⟨X,w,_,qf j _ _ (List.getElem?_eq_getElem hj) (List.getElem?_eq_getElem h2)⟩
 refine calls_of_wp hf hb ?_
 have ob:args.length≤fn.ntmps:=Nat.ble_eq▸oC
 have start:i9 ⟨w,X,fun _=>False,fun _=>undef,0,rR,false⟩ fn.ntmps ⟨Ag args 0,0,[]⟩ { tmps:=vs.toArray++Array.replicate (fn.ntmps-vs.toArray.size) undef,defers:=[] } w:=by
  refine⟨⟨fun _=>undef,fun _ _=>none⟩,?_,.nil,⟨rfl,rfl,rfl,Nat.le_refl _,fun _ _ _=>rfl⟩,fun s x hs=>?_,fun i b hi=>?_,fun i j b b' k hi=>?_,fun i b k hi=>?_,hX,⟨Nat.le_refl _,fun i hi=>?_⟩⟩
  ·simp;omega
  ·obtain⟨_,hx⟩:=EQ args 0 s x hs
   rw[Nat.sub_zero]at hx
   have nf:s<vs.length:=by rw[←hl];exact(List.getElem?_eq_some_iff.1 hx).1
   have hv:vs[s]?=some vs[s]:=List.getElem?_eq_getElem nf
   have e:(vs.toArray++Array.replicate (fn.ntmps-vs.toArray.size) undef).getD s undef=vs[s]:=by
    rw[Array.getD_eq_getD_getElem?,Array.getElem?_append]
    simp[nf]
   rw[e]
   refine .im ((qf s x _ hx hv).mono (fun _ _ _=>rfl) fun k _ hu=>?_)
   rcases hu with hu|⟨i,b,hi,_⟩
   ·exact hu
   ·cases hi
  ·cases hi
  ·cases hi
  ·cases hi
  ·exact absurd hi (Nat.not_lt_zero _)
 refine wp_mono (h nd ⟨w,X,fun _=>False,fun _=>undef,0,rR,false⟩ rfl _ w start) ?_
 rintro e a w' ⟨σ',hq,θ,hs⟩
 have fin:=Pj (P:=P) (fn:=fn) (r:=r) hs (hs.defers.1 rfl) nz pb
 cases e with
 |normal=>exact fin hq
 |ret=>exact fin hq
 |exit id=>exact hq.elim
 |goto l=>exact hq.elim
 |panic c=>exact hq.elim
 |outgrown=>exact hq.elim
theorem A3.congr{f:Nat}{args:List AV}{r r':AV}(h:A3 P f args r)(e:r=r'):A3 P f args r':=e▸h
theorem Em{l:List Oper}{σ':St}(h:St.le E n σ σ')(k:B1 P E n ops l σ' K):B1 P E n ops l σ K:=fun a w hs=>k a w (h a w hs)
theorem K7{d e sz:Nat}(hd:look σ.sl d=some (.v (.slice none 0 0)))(he:Nat.blt e K2=true:=by rfl):St.le E n σ ((σ.new (.row e sz 0 [])).put d (.row σ.nx 0 0)):=by
 rintro a w ⟨θ,h⟩
 have h2:=h.grow (w':=w) (Below.refl _ _) (.slice none 0 0) (.row e sz 0 []) (fun k hk=>by cases hk) (fun le=>⟨[],⟨by simp,.inl ⟨by simp[cx,E7],rfl⟩⟩,(fun el nX=>by cases nX),(fun k el hk=>by simp at hk),.lt (Nat.blt_eq▸he)⟩) (N2 (Nat.blt_eq▸he))
 refine⟨_,h2.size,h2.defers,h2.fr,fun s x hs=>?_,h2.owns,h2.apart,h2.mine,h2.X,h2.base⟩
 simp only[St.put,E6]at hs
 by_cases ed:d=s
 ·subst ed
  rw[if_pos rfl]at hs
  cases hs
  have hv:=(h.slots d _ hd).val
  rw[hv]
  refine .row _ _ _ _ (by simp[cx,St.new,St.put]) fun e' ni v' l' hl=>?_
  simp only[cx,St.new,St.put,F7,if_pos]at hl
  cases hl
  exact⟨Nat.le_refl _,fun _=>⟨rfl,by simp[cx,E7]⟩⟩
 ·rw[if_neg ed]at hs
  exact h2.slots s x hs
theorem aF{d sz:Nat}(hd:look σ.sl d=some (.v (.slice none 0 0))):St.le E n σ (σ.put d (.sl sz [])):=by
 rintro a w ⟨θ,h⟩
 refine⟨θ,h.size,h.defers,h.fr,fun s x hs=>?_,h.owns,h.apart,h.mine,h.X,h.base⟩
 simp only[St.put,E6]at hs
 by_cases ed:d=s
 ·subst ed
  rw[if_pos rfl]at hs
  cases hs
  rw[(h.slots d _ hd).val]
  exact .im (.slnil sz)
 ·rw[if_neg ed]at hs
  exact h.slots s x hs
structure e6(P:Program)(E:Env)(n:Nat)(ops:Array Oper)(o:Oper)(rest:List Oper)(l:List AV)(σ:St)(K:St→Prop):Prop where
 h:B1 P E n ops (o::rest) σ K
mutual
def dQ:AV→Option Nat
 |.ref i _|.row i _ _|.elt i _ _ _=>some i
 |.agg l|.tup l|.fo _ l=>Pl l
 |_=>none
def Pl:List AV→Option Nat
 |[]=>none
 |x::r=>match dQ x with
  |some i=>some i
  |none=>Pl r
end
theorem NC{f:Nat}{xs:List Operand}{ts:Array TypeId}{d:Nat}{ty:TypeId}{pos:String}{after:Array Edge}{M L l:List AV}{r:AV}(is:List Nat)(hc:A3 P f M r)(pq:l6 (F4 σ) xs=some l)(hL:CO σ.hp (CR is σ.hp) l=L)(hM:L++[]=M)(nz:I6 L=true)(pR:Fb r=true)(hd:Nat.blt d n=true)
  (k:B1 P E n ops rest (σ.put d r) K):e6 P E n ops ⟨some d,.call ⟨.value (.func f),⟨xs⟩,ts⟩,ty,pos,after,none⟩ rest l σ K :=
 ⟨Ig (SJ is (caps:=[]) (hM▸hc) pq hL nz pR fun _ _ _ _=>⟨[],rfl,rfl,fun j x c hx=>by simp at hx⟩) hd k⟩
theorem J9{o:Oper}{l:List AV}(i:Nat)(h:B1 P E n ops (o::rest) (σ.frz i) K):e6 P E n ops o rest l σ K:=⟨Em (GY i) h⟩
def lits:List Nat:=[0,1,2,3,4,5,6,7,8,9,10,11,12,13,14,15,16,17,18,19,20,21,22,23,24,25,26,27,28,29,30,31,32,33,34,35,36,37,38,39,40,41,42,43,44,45,46,47,48,49,50,51,52,53,54,55,56,57,58,59,60,61,62,63]
def Iy:List Nat→Nat→Option Nat
 |[],_=>none
 |x::_,0=>some x
 |_::r,k+1=>Iy r k
theorem WG:∀(l:List Nat) (m:Nat),Iy l m=l[m]?
 |[],m=>by simp[Iy]
 |x::r,0=>by simp[Iy]
 |x::r,k+1=>by simp[Iy,WG r k]
theorem aG{m k:Nat}(h:Iy lits m=some k):k=m:=by
 by_cases hm:m<64
 ·have h2:∀j,j<64→Iy lits j=some j:=by decide
  rw[h2 m hm]at h
  exact(Option.some.inj h).symm
 ·rw[WG,List.getElem?_eq_none (by simp[lits];omega)]at h
  cases h
def G8(m:Nat)(F:Nat→Prop):Prop :=
 match Iy lits m with
 |some k=>F k
 |none=>F m
theorem D9{m:Nat}{F:Nat→Prop}(h:G8 m F):F m:=by
 unfold G8 at h
 split at h
 ·rename_i hk;rw[aG hk]at h;exact h
 ·exact h
def ST(P:Program)(E:Env)(n:Nat)(ops:Array Oper)(o:Oper)(T:Nat)(x y:Option AV)(rest:List Oper)(σ:St)(K:St→Prop):Prop :=
 match x,y with
 |some (.ref i off),some av=>match A5 σ.hp i with
  |some (.bx τ l)=>Lg P T fun _ sz=>cond (Nat.beq (K4 av).length sz && Nat.ble (off+sz) l.length) (SL σ.hp av (Xm σ.hp (K4 av) (B1 P E n ops rest (σ.set i (.bx τ (Bs l off (K4 av)))) K))) False
  |_=>False
 |some (.elt i ver k off),some av=>match A5 σ.hp i with
  |some (.row e sz oN l)=>F8 (ver=oN∧off<sz) (Lg P T fun ag szT=>cond (cond ag false (Nat.beq szT 1 && u4 e)) (cond (J1 av) (SK σ.hp av (P5 l (k:Int) fun el=>B1 P E n ops rest (σ.set i (.row e sz ver (l.set k (el.set off av)))) K)) (e6 P E n ops o rest [av] σ K)) False)
  |_=>False
 |_,_=>False
def gI(P:Program)(E:Env)(n:Nat)(ops:Array Oper)(d T:Nat)(x y:Option AV)(rest:List Oper)(σ:St)(K:St→Prop):Prop :=
 match x,y with
 |some (.v (.int .i64 m)),some (.v (.int .i64 m'))=>Ey P T fun e sz bs z=>cond (Nat.blt e L0) (F8 (m=m'∧0≤m∧bs*m.toNat≤281474976710656∧m≤9223372036854775807) (G8 σ.nx fun nx=>B1 P E n ops rest ((σ.new (.row e sz 0 (List.replicate m.toNat z))).put d (.row nx 0 m.toNat)) K)) False
 |_,_=>False
def WH(P:Program)(E:Env)(n:Nat)(ops:Array Oper)(d T:Nat)(x y:Option AV)(rest:List Oper)(σ:St)(K:St→Prop):Prop :=
 match x,y with
 |some (.row i ver len),some (.sl ni m)=>match A5 σ.hp i with
  |some (.row e sz oN l)=>F8 (ver=oN) (Ey P T fun e' pO bs _=>cond (Nat.beq e e' && Nat.beq sz pO && Nat.beq sz ni && Nat.blt 0 sz && Nat.blt e J5) (F8 (∀el∈m,∀u∈el,b7 u) (F8 ((len+m.length)*bs≤140737488355328∧len+m.length≤9223372036854775807)
    (B1 P E n ops rest ((σ.set i (.row e sz (ver+1) (l++m))).put d (.row i (ver+1) (len+m.length))) K))) False)
  |_=>False
 |some (.row i ver len),some (.row j uj xl)=>match A5 σ.hp i,A5 σ.hp j with
  |some (.row e sz oN l),some (.row _ ni ver2' m)=>F8 (ver=oN∧uj=ver2') (Ey P T fun e' pO bs _=>cond (Nat.beq e e' && Nat.beq sz pO && Nat.beq sz ni && Nat.blt 0 sz && Nat.blt e J5) (F8 (∀el∈m,∀u∈el,b7 u) (F8 ((len+m.length)*bs≤140737488355328∧len+m.length≤9223372036854775807)
    (B1 P E n ops rest ((σ.set i (.row e sz (ver+1) (l++m))).put d (.row i (ver+1) (len+m.length))) K))) False)
  |_,_=>False
 |some (.v (.slice none 0 0)),some (.sl ni m)=>Ey P T fun e sz bs _=>cond (Nat.beq sz ni && Nat.blt 0 sz && Nat.blt e J5) (F8 (∀el∈m,∀u∈el,b7 u) (F8 ((0+m.length)*bs≤140737488355328∧0+m.length≤9223372036854775807)
   (G8 σ.nx fun nx=>B1 P E n ops rest (((σ.new (.row e sz 0 [])).set nx (.row e sz 1 ([]++m))).put d (.row nx 1 (0+m.length))) K))) False
 |_,_=>False
def WI(P:Program)(E:Env)(n:Nat)(ops:Array Oper)(d T T2:Nat)(x:Option AV)(s:List UInt8)(rest:List Oper)(σ:St)(K:St→Prop):Prop :=
 match x with
 |some (.row i ver len)=>match A5 σ.hp i with
  |some (.row e sz oN l)=>F8 (ver=oN) (Ey P T fun e' pO bs _=>DZ P T2 (cond (Nat.beq e e' && Nat.beq sz 1 && Nat.beq pO 1 && Nat.beq bs 1 && Nat.blt e J5) (gF P e (F8 (len+s.length≤140737488355328) (B1 P E n ops rest ((σ.set i (.row e 1 (ver+1) (l++IV s))).put d (.row i (ver+1) (len+s.length))) K))) False))
  |_=>False
 |some (.v (.slice none 0 0))=>Ey P T fun e sz bs _=>DZ P T2 (cond (Nat.beq sz 1 && Nat.beq bs 1 && Nat.blt e J5) (gF P e (F8 (0+s.length≤140737488355328) (G8 σ.nx fun nx=>B1 P E n ops rest (((σ.new (.row e 1 0 [])).set nx (.row e 1 1 ([]++IV s))).put d (.row nx 1 (0+s.length))) K))) False)
 |_=>False
def aH(P:Program)(E:Env)(n:Nat)(ops:Array Oper)(T:Nat)(x y z:Option AV)(rest:List Oper)(σ:St)(K:St→Prop):Prop :=
 match x,y,z with
 |some (.mp i),some rt,some av=>match A5 σ.hp i,keyOf rt with
  |some (.map m),some k=>Xj P T fun t _=>cond (DY t k && J1 av) (F8 (r8 t m) (B1 P E n ops rest (σ.set i (.map (b8 m k av))) K)) False
  |_,_=>False
 |_,_,_=>False
def kR(P:Program)(E:Env)(n:Nat)(ops:Array Oper)(o:Oper)(rest:List Oper)(σ:St)(K:St→Prop):Prop :=
 match o.dst,o.op with
 |some d,.box T x=>cond (Nat.blt d n) (Y5 (F4 σ x) fun av=>SL σ.hp av (G8 σ.nx fun nx=>B1 P E n ops rest ((σ.new (.box (K4 av))).put d (.ref nx 0)) K)) False
 |some d,.alloc T=>cond (Nat.blt d n) (Xi P T fun l=>G8 σ.nx fun nx=>B1 P E n ops rest ((σ.new (.box l)).put d (.ref nx 0)) K) False
 |none,.store T x y=>ST P E n ops ⟨o.dst,o.op,o.type,o.pos,o.after,none⟩ T (F4 σ x) (F4 σ y) rest σ K
 |some d,.makeSlice T x y=>cond (Nat.blt d n) (gI P E n ops d T (F4 σ x) (F4 σ y) rest σ K) False
 |some d,.makeMap T none=>cond (Nat.blt d n) (G8 σ.nx fun nx=>B1 P E n ops rest ((σ.new (.map [])).put d (.mp nx)) K) False
 |none,.mapUpdate T x y z=>aH P E n ops T (F4 σ x) (F4 σ y) (F4 σ z) rest σ K
 |some d,.call ⟨.builtin .append,⟨[x,y]⟩,⟨[T,T']⟩⟩=>match F4 σ y with
  |some (.str s)=>cond (Nat.blt d n) (WI P E n ops d T T' (F4 σ x) s rest σ K) False
  |_=>cond (Nat.blt d n && Nat.beq T T') (WH P E n ops d T (F4 σ x) (F4 σ y) rest σ K) False
 |some d,.call ⟨.builtin .unsafeSliceData,⟨[x]⟩,ts⟩=>e6 P E n ops ⟨o.dst,o.op,o.type,o.pos,o.after,none⟩ rest [] σ K
 |some d,.call ⟨.builtin .unsafeString,⟨[x,y]⟩,ts⟩=>e6 P E n ops ⟨o.dst,o.op,o.type,o.pos,o.after,none⟩ rest [] σ K
 |some d,.call ⟨.value (.func f),⟨args⟩,_⟩=>cond (Nat.blt d n) (match l6 (F4 σ) args with
  |some l=>cond (I6 l) (RR P f (l++[]) fun av=>B1 P E n ops rest (σ.put d av) K) (e6 P E n ops ⟨o.dst,o.op,o.type,o.pos,o.after,none⟩ rest l σ K)
  |none=>False) False
 |some d,.call ⟨.value (.tmp t),⟨args⟩,ts⟩=>match F4 σ (.tmp t),l6 (F4 σ) args with
  |some (.fo _ caps),some l=>e6 P E n ops ⟨o.dst,o.op,o.type,o.pos,o.after,none⟩ rest (l++caps) σ K
  |_,_=>cond (Nat.blt d n) (Fc P (.call ⟨.value (.tmp t),⟨args⟩,ts⟩) (F4 σ) σ.hp fun av=>B1 P E n ops rest (σ.put d av) K) False
 |some d,.buildSlice T len ⟨parts⟩=>match Az (F4 σ) parts with
  |some ps=>cond (ps.all fun p=>J1 p.2) (cond (Nat.blt d n) (Fc P (.buildSlice T len ⟨parts⟩) (F4 σ) σ.hp fun av=>B1 P E n ops rest (σ.put d av) K) False) (e6 P E n ops ⟨o.dst,o.op,o.type,o.pos,o.after,none⟩ rest (ps.map (·.2)) σ K)
  |none=>False
 |some d,.slice T x lo hi none=>match F4 σ x with
  |some (.row i v len)=>e6 P E n ops ⟨o.dst,o.op,o.type,o.pos,o.after,none⟩ rest [.row i v len] σ K
  |_=>cond (Nat.blt d n) (Fc P (.slice T x lo hi none) (F4 σ) σ.hp fun av=>B1 P E n ops rest (σ.put d av) K) False
 |some d,.makeFunc f ⟨x::xs⟩ ⟨[]⟩=>e6 P E n ops ⟨o.dst,o.op,o.type,o.pos,o.after,none⟩ rest [] σ K
 |some d,.makeFunc f ⟨[]⟩ ⟨xs⟩=>cond (Nat.blt d n) (match l6 (F4 σ) xs with
  |some l=>cond (I6 l) (Fc P (.makeFunc f ⟨[]⟩ ⟨xs⟩) (F4 σ) σ.hp fun av=>B1 P E n ops rest (σ.put d av) K) (e6 P E n ops ⟨o.dst,o.op,o.type,o.pos,o.after,none⟩ rest l σ K)
  |none=>False) False
 |some d,op=>cond (Nat.blt d n) (Fc P op (F4 σ) σ.hp fun av=>B1 P E n ops rest (σ.put d av) K) False
 |_,_=>False
theorem SU{T:Nat}(h:ST P E n ops ⟨none,.store T x y,ty,pos,after,none⟩ T (F4 σ x) (F4 σ y) rest σ K):B1 P E n ops (⟨none,.store T x y,ty,pos,after,none⟩::rest) σ K:=by
 unfold ST at h
 split at h
 ·rename_i hx hy
  split at h
  ·rename_i hb
   obtain⟨⟨ag,sz,tv,h⟩⟩:=h
   obtain⟨hs,h⟩:=cond_false h
   simp only[Bool.and_eq_true,Nat.beq_eq,Nat.ble_eq]at hs
   obtain⟨hf,h⟩:=Iw h
   obtain⟨ho,h⟩:=Mw h
   exact OW (ag:=ag) (sz:=sz) hx hy hb hf ho hs.1 hs.2 h
  ·exact h.elim
 ·rename_i hx hy
  split at h
  ·rename_i e sz oN l hb
   obtain⟨⟨rfl,pU⟩,h⟩:=h
   obtain⟨⟨ag,szT,tv,h⟩⟩:=h
   obtain⟨hs,h3⟩:=cond_false h
   clear h
   cases ag with
   |true=>cases hs
   |false =>
    have h4:=h3
    clear h3
    cases nz:J1 _ with
    |false =>
     rw[nz]at h4
     exact h4.h
    |true =>
     rw[nz]at h4
     obtain⟨ho,h⟩:=Iv h4
     obtain⟨h0,h1,hk⟩:=h
     rename_i k _ _ _
     have nf:k<l.length:=by omega
     have nX:l[k]?=some l[k]:=List.getElem?_eq_getElem nf
     have nv:(Nat.beq szT 1 && u4 e)=true:=hs
     rw[Bool.and_eq_true]at nv
     exact OY (szT:=szT) hx hy hb nX pU (Nat.eq_of_beq_eq_true nv.1) nz ho (hk _ (by rw[Int.toNat_natCast];exact nX)) nv.2
  ·exact h.elim
 ·exact h.elim
theorem aI{o:Oper}(hg:o.guard=none)(h:kR P E n ops o rest σ K):B1 P E n ops (o::rest) σ K:=by
 obtain⟨dst,op,ty,pos,after,guard⟩:=o
 simp only at hg
 subst hg
 have quiet:∀{d:Nat} {op:Op},Nat.blt d n=true→Fc P op (F4 σ) σ.hp (fun av=>B1 P E n ops rest (σ.put d av) K)→B1 P E n ops (⟨some d,op,ty,pos,after,none⟩::rest) σ K:=by
  intro d op hd h
  obtain⟨av,hq,h⟩:=gG (E:=E) (nx:=σ.nx) (ty:=ty) h
  exact Ig hq hd h
 unfold kR at h
 simp only at h
 split at h
 ·rename_i ho
  obtain⟨hd,h⟩:=cond_false h
  obtain⟨av,hx,h⟩:=J8 h
  obtain⟨hf,h⟩:=Iw h
  exact cz hx hf hd (D9 h)
 ·obtain⟨hd,h⟩:=cond_false h
  obtain⟨⟨l,tz,h⟩⟩:=h
  exact Xf (l:=l) hd (D9 h)
 ·exact SU h
 ·obtain⟨hd,h⟩:=cond_false h
  unfold gI at h
  split at h
  ·rename_i hx hy
   obtain⟨⟨e,sz,bs,z,ts,tz,tb,hz,h⟩⟩:=h
   obtain⟨qg,hq⟩:=cond_false h
   clear h
   obtain⟨⟨rfl,h0,h1,h2⟩,hq⟩:=hq
   exact Zz (e:=e) (z:=z) (by_:=bs) hx hy h0 h1 h2 hz (Nat.blt_eq▸qg) hd (D9 hq)
  ·exact h.elim
 ·obtain⟨hd,h⟩:=cond_false h
  exact SE hd (D9 h)
 ·unfold aH at h
  split at h
  ·rename_i hx hy hz
   split at h
   ·rename_i hb hk
    obtain⟨⟨k,e,t,z,tm,h⟩⟩:=h
    obtain⟨hc,h⟩:=cond_false h
    simp only[Bool.and_eq_true]at hc
    exact OZ (T:=_) hx hb hy hk hc.1 h.h hz hc.2 h.k
   ·exact h.elim
  ·exact h.elim
 ·split at h
  ·rename_i we
   obtain⟨hd,h3⟩:=cond_false h
   clear h
   unfold WI at h3
   split at h3
   ·rename_i hx
    split at h3
    ·rename_i hb
     obtain⟨rfl,h⟩:=h3
     obtain⟨⟨e,sz,bs,z,ts,tz,tb,hz,h⟩⟩:=h
     obtain⟨tu,h⟩:=h
     obtain⟨hc,h5⟩:=cond_false h
     clear h
     simp only[Bool.and_eq_true,Nat.beq_eq,Nat.blt_eq]at hc
     obtain⟨⟨⟨⟨rfl,rfl⟩,rfl⟩,rfl⟩,oZ⟩:=hc
     obtain⟨⟨nZ,h⟩⟩:=h5
     exact Ml hx hb we oZ nZ hd h
    ·exact h3.elim
   ·rename_i hx
    obtain⟨⟨e,sz,bs,z,ts,tz,tb,hz,h⟩⟩:=h3
    obtain⟨tu,h⟩:=h
    obtain⟨hc,h5⟩:=cond_false h
    clear h
    simp only[Bool.and_eq_true,Nat.beq_eq,Nat.blt_eq]at hc
    obtain⟨⟨rfl,rfl⟩,oZ⟩:=hc
    obtain⟨⟨nZ,h⟩⟩:=h5
    exact Io hx we oZ nZ hd (D9 h)
   ·exact h3.elim
  rename_i we
  clear we
  obtain⟨hd,h3⟩:=cond_false h
  clear h
  have h:=h3
  clear h3
  simp only[Bool.and_eq_true,Nat.beq_eq]at hd
  obtain⟨hd,rfl⟩:=hd
  unfold WH at h
  split at h
  ·rename_i hx hy
   split at h
   ·rename_i hb
    obtain⟨rfl,h⟩:=h
    obtain⟨⟨e,sz,bs,z,ts,tz,tb,hz,h⟩⟩:=h
    obtain⟨hc,h3⟩:=cond_false h
    clear h
    simp only[Bool.and_eq_true,Nat.beq_eq,Nat.blt_eq]at hc
    obtain⟨⟨⟨⟨rfl,rfl⟩,rfl⟩,oA⟩,oZ⟩:=hc
    obtain⟨oc,h⟩:=h3
    obtain⟨nZ,h⟩:=h
    exact Mm (z:=z) (by_:=bs) hx hb hy oc hz oA oZ nZ.1 nZ.2 hd h
   ·exact h.elim
  ·rename_i hx hy
   split at h
   ·rename_i hb oD
    obtain⟨⟨rfl,rfl⟩,h⟩:=h
    obtain⟨⟨e,sz,bs,z,ts,tz,tb,hz,h⟩⟩:=h
    obtain⟨hc,h3⟩:=cond_false h
    clear h
    simp only[Bool.and_eq_true,Nat.beq_eq,Nat.blt_eq]at hc
    obtain⟨⟨⟨⟨rfl,rfl⟩,rfl⟩,oA⟩,oZ⟩:=hc
    obtain⟨oc,h⟩:=h3
    obtain⟨nZ,h⟩:=h
    exact Le (z:=z) (by_:=bs) hx hb hy oD oc hz oA oZ nZ.1 nZ.2 hd h
   ·exact h.elim
  ·rename_i hx hy
   obtain⟨⟨e,sz,bs,z,ts,tz,tb,hz,h⟩⟩:=h
   obtain⟨hc,h3⟩:=cond_false h
   clear h
   simp only[Bool.and_eq_true,Nat.beq_eq,Nat.blt_eq]at hc
   obtain⟨⟨rfl,oA⟩,oZ⟩:=hc
   obtain⟨oc,h⟩:=h3
   obtain⟨nZ,h⟩:=h
   exact Mn (z:=z) (by_:=bs) hx hy oc hz oA oZ nZ.1 nZ.2 hd (D9 h)
  ·exact h.elim
 ·exact h.h
 ·exact h.h
 ·obtain⟨hd,h⟩:=cond_false h
  split at h
  ·rename_i l hl
   cases hc:I6 l with
   |true =>
    rw[hc]at h
    obtain⟨⟨r,hr,h⟩⟩:=h
    rw[List.append_nil]at hr
    exact Ig (Rw hr hl hc) hd h
   |false =>
    rw[hc]at h
    exact h.h
  ·exact h.elim
 ·split at h
  ·exact h.h
  ·obtain⟨hd,h⟩:=cond_false h
   exact quiet hd h
 ·split at h
  ·rename_i ps sZ
   cases hc:ps.all fun p=>J1 p.2 with
   |true =>
    rw[hc]at h
    obtain⟨hd,h⟩:=cond_false h
    exact quiet hd h
   |false =>
    rw[hc]at h
    exact h.h
  ·exact h.elim
 ·split at h
  ·exact h.h
  ·obtain⟨hd,h⟩:=cond_false h
   exact quiet hd h
 ·exact h.h
 ·obtain⟨hd,h⟩:=cond_false h
  split at h
  ·rename_i l hl
   cases hc:I6 l with
   |true =>
    rw[hc]at h
    exact quiet hd h
   |false =>
    rw[hc]at h
    exact h.h
  ·exact h.elim
 ·obtain⟨hd,h⟩:=cond_false h
  exact quiet hd h
 ·exact h.elim
structure O8(b g:Bool)(A B:Prop):Prop where
 t:b=g→A
 f:b=(!g)→B
theorem dR{A B:Prop}(k:A):O8 true true A B:=⟨fun _=>k,fun h=>by cases h⟩
theorem dS{A B:Prop}(k:A):O8 false false A B:=⟨fun _=>k,fun h=>by cases h⟩
theorem dT{A B:Prop}(k:B):O8 true false A B:=⟨(fun h=>by cases h),fun _=>k⟩
theorem dU{A B:Prop}(k:B):O8 false true A B:=⟨(fun h=>by cases h),fun _=>k⟩
theorem dV{p A B:Prop}[Decidable p](h1:p→A)(h2:¬p→B):O8 (decide p) true A B:=⟨fun h=>h1 (of_decide_eq_true h),fun h=>h2 (of_decide_eq_false h)⟩
theorem dW{p A B:Prop}[Decidable p](h1:¬p→A)(h2:p→B):O8 (decide p) false A B:=⟨fun h=>h1 (of_decide_eq_false h),fun h=>h2 (of_decide_eq_true h)⟩
theorem dX{b:Bool}{A B:Prop}(h1:b=true→A)(h2:b=false→B):O8 b true A B:=⟨h1,h2⟩
theorem dY{b:Bool}{A B:Prop}(h1:b=false→A)(h2:b=true→B):O8 b false A B:=⟨h1,h2⟩
theorem aJ{p A B:Prop}[Decidable p](h1:¬p→A)(h2:p→B):O8 (!decide p) true A B:=⟨fun h=>h1 (by simpa using h),fun h=>h2 (by simpa using h)⟩
theorem aK{p A B:Prop}[Decidable p](h1:p→A)(h2:¬p→B):O8 (!decide p) false A B:=⟨fun h=>h1 (by simpa using h),fun h=>h2 (by simpa using h)⟩
theorem aL{b:Bool}{A B:Prop}(h1:b=false→A)(h2:b=true→B):O8 (!b) true A B:=⟨fun h=>h1 (by simpa using h),fun h=>h2 (by simpa using h)⟩
theorem aM{b:Bool}{A B:Prop}(h1:b=true→A)(h2:b=false→B):O8 (!b) false A B:=⟨fun h=>h1 (by simpa using h),fun h=>h2 (by simpa using h)⟩
def kS(P:Program)(E:Env)(n:Nat)(ops:Array Oper)(l:List Oper)(σ:St)(K:St→Prop):Prop :=
 match l with
 |[]=>K σ
 |⟨dst,op,ty,pos,after,none⟩::rest=>kR P E n ops ⟨dst,op,ty,pos,after,none⟩ rest σ K
 |⟨some dd,op,ty,pos,after,some (j,g)⟩::rest=>match (ops[j]?).bind (·.dst)with
  |some dj=>cond (Nat.blt dd n) (match look σ.sl dj with
   |some (.v (.bool b))=>O8 b g (B1 P E n ops (⟨some dd,op,ty,pos,after,none⟩::rest) (σ.put dj (.v (.bool g))) K)
     (B1 P E n ops rest ((σ.put dj (.v (.bool !g))).put dd (.v undef)) K)
   |some (.v (.tuple t))=>B1 P E n ops rest (σ.put dd (.v undef)) K
   |_=>False) False
  |none=>False
 |⟨none,_,_,_,_,some _⟩::_=>False
theorem DI{l:List Oper}(h:kS P E n ops l σ K):B1 P E n ops l σ K:=by
 unfold kS at h
 split at h
 ·exact cn h
 ·exact aI rfl h
 ·split at h
  ·rename_i dj hj
   obtain⟨qb,h⟩:=cond_false h
   split at h
   ·rename_i b hb
    exact Rm hj hb qb h.t h.f
   ·rename_i t hb
    exact IQ hj hb rfl qb h
   ·exact h.elim
  ·exact h.elim
 ·exact h.elim
structure ND(P:Program)(E:Env)(n:Nat)(c:Code)(σ:St)(Q:Exit→St→Prop):Prop where
 h:C7 P E n (.loop c) σ Q
structure CU(P:Program)(E:Env)(n:Nat)(id:Nat)(ops:Array Oper)(σ:St)(Q:Exit→St→Prop):Prop where
 h:C7 P E n (.region id ops true) σ Q
def Xp(P:Program)(E:Env)(n:Nat)(c:Code)(σ:St)(Q:Exit→St→Prop):Prop :=
 match c with
 |.seq a b=>C7 P E n a σ (RN (fun σ'=>C7 P E n b σ' Q) Q)
 |.region _ ops false=>B1 P E n ops ops.toList σ (fun σ'=>Q .normal σ')
 |.region id ops true=>CU P E n id ops σ Q
 |.skip=>Q .normal σ
 |.ret=>Q .ret σ
 |.exit i=>Q (.exit i) σ
 |.block id c=>C7 P E n c σ (MY id Q)
 |.cond (.tmp t) a b=>match look σ.sl t with
  |some (.v (.bool c))=>BM c (C7 P E n a (σ.put t (.v (.bool true))) Q) (C7 P E n b (σ.put t (.v (.bool false))) Q)
  |_=>False
 |.cond (.const (.bool true)) a b=>C7 P E n a σ Q
 |.cond (.const (.bool false)) a b=>C7 P E n b σ Q
 |.loop c=>ND P E n c σ Q
 |_=>False
theorem aN{c:Code}(h:Xp P E n c σ Q):C7 P E n c σ Q:=by
 unfold Xp at h
 split at h
 ·exact gY h
 ·exact XT rfl h
 ·exact h.h
 ·exact co h
 ·exact gZ h
 ·exact cq h
 ·exact Zj h
 ·split at h
  ·rename_i hc;exact XW hc h.t h.f
  ·exact h.elim
 ·exact XU rfl h
 ·exact XV rfl h
 ·exact h.h
 ·exact h.elim
theorem B2{ι:Type}{c:Code}(S:ι→St)(I:ι→Prop)(m:ι→Nat)(x0:ι)(hI:I x0)(h0:St.le E n σ (S x0))
  (h:∀x,I x→C7 P E n c (S x) (RN (fun σ'=>∃y,I y∧m y<m x∧St.le E n σ' (S y)) Q)):ND P E n c σ Q:=⟨cr S I m x0 hI h0 h⟩
end rules
end Go.Av
