/- Maps, tuples, closures, parts of strings and of rows. States that say less; freezing; what a function does. One rule for every operation: what is left to prove is reckoned by unfolding. The walk: operations that make or write memory, code, and what a function does. -/
import Derived.Test.YtiphlhoclaogjaaGreatDoorRE1
set_option linter.unusedSimpArgs false
set_option linter.unusedVariables false
set_option linter.unnecessarySimpa false
set_option maxHeartbeats 64000000
namespace Go.Av
open Go Go.RowKit
class EJ(P:Program)(T:Nat)(k e:outParam Nat)(t:outParam TypeDesc)(z:outParam Value):Prop where
 out:P.underlying T=some (.map k e)∧P.underlying k=some t∧(P.info? e).bind (·.zero)=some z
section rules
variable {P:Program} {E:Env} {n nx:Nat} {hp:Hp} {ev:Operand→Option AV} {ops:Array Oper} {rest:List Oper} {σ:St} {K:St→Prop} {Q:Exit→St→Prop}
variable {d:Nat} {ty:TypeId} {pos:String} {after:Array Edge} {x y z:Operand}
def t4(t:TypeDesc)(m:List (Key×AV)):Prop:=∀p∈m,DY t p.1=true
theorem v8.map{θ:Th}{a:Act}{w:World}(h:v8 E θ nx hp ev a w){i:Nat}{m:List (Key×AV)}(hb:A5 hp i=some (.map m)):
  ∃r es clock,θ i=.map (some r)∧w.heap[r]?=some (.map es clock)∧es.size=m.length ∧
   ∀(j:Nat) (q:Key×AV) e,m[j]?=some q→es[j]?=some e→e.key=q.1.val∧Im (kx E θ nx hp w).U w q.2 e.val:=(h.owns i _ hb).2
theorem run_findKey{kt:TypeId}{t:TypeDesc}{k:Key}(ht:P.underlying kt=some t){es:List MapEntry}{q:Option (Nat×Value)}(hq:Instr.findNow t k.val es 0=some q)(w:World):(Instr.findKey kt k.val es).run P w=.ok q w:=by
 simp[Instr.findKey,Sem.run_bind,run_underlying ht,hq,Sem.run_pure]
def w9(m:List (Key×AV))(k:Key)(d:AV):AV:=match o8 m k with
 |some v=>v
 |none=>d
theorem Mc{T kt e:Nat}{t:TypeDesc}{zv:Value}[tm:EJ P T kt e t zv]{θ:Th}{a:Act}{w:World}(h:v8 E θ nx hp ev a w){i:Nat}{m:List (Key×AV)}{qz:AV}{k:Key}(hx:ev x=some (.mp i))(hb:A5 hp i=some (.map m))(hy:ev y=some qz)(hk:keyOf qz=some k)(nP:DY t k=true)(hm:t4 t m)(ok:Bool):
  ∃v,(Instr.lookup T (a.eval x) (a.eval y) ok).run P w=.ok (if ok then .tuple #[v,.bool (o8 m k).isSome]else v) w∧E0 (kx E θ nx hp w) (w9 m k (g8 zv)) v:=by
 obtain⟨hu,ht,hz⟩:=tm.out
 obtain⟨r,es,clock,hθ,hr,hsz,uK⟩:=h.map hb
 obtain⟨hv,mq⟩:=ZL (h.rel hx)
 have nY:a.eval x=.map (some r):=by rw[hv];exact hθ
 have uE:=PN hk (h.rel hy)
 have oe:=EI nP
 obtain⟨q,hq,oa⟩:=findNow_spec (t:=t) oe m es.toList 0 (by simpa using hsz) (fun p hp=>EI (hm p hp)) (fun j p e hj he=>(uK j p e hj (by simpa using he)).1)
 have nX:=bi (m:=m) (k:=k)
 simp only[Instr.lookup,Sem.run_bind,run_underlying hu,Result.andThen_ok,nY,uE,MapKept.run_getObj_map hr,Sem.run_pure,Bm ht oe,run_findKey ht hq]
 cases hf:m.findIdx? (fun p=>decide (p.1=k))with
 |none =>
  rw[hf]at oa nX
  subst oa
  simp only at nX
  cases hi:P.info? e with
  |none=>rw[hi]at hz;simp at hz
  |some inf =>
   rw[hi]at hz
   simp only[Sem.run_bind,k9 hi (by simpa using hz),Result.andThen_ok,Sem.run_pure,nX]
   refine⟨zv,by cases ok<;>rfl,?_⟩
   simp only[w9,nX]
   exact .im (IQ zv)
 |some j =>
  rw[hf]at oa nX
  obtain⟨e,he,rfl⟩:=oa
  obtain⟨p,hp1,hp2,hp3⟩:=nX
  simp only[Sem.run_pure,Result.andThen_ok,hp3]
  refine⟨e.val,by cases ok<;>rfl,?_⟩
  simp only[w9,hp3]
  exact .im (uK j p e hp1 (by simpa using he)).2
theorem bk{T kt e:Nat}{t:TypeDesc}{zv:Value}[tm:EJ P T kt e t zv]{i:Nat}{m:List (Key×AV)}{qz:AV}{k:Key}(hx:ev x=some (.mp i))(hb:A5 hp i=some (.map m))(hy:ev y=some qz)(hk:keyOf qz=some k)(nP:DY t k=true)(hm:t4 t m):
  G7 P E nx hp ev (.lookup T x y false) ty (w9 m k (g8 zv)) :=
 E4 fun _ _ _ θ a w h=>by
  obtain⟨v,h1,h2⟩:=Mc (P:=P) (T:=T) h hx hb hy hk nP hm false
  exact⟨v,by simp only[execOp,Sem.run_bind,h1,Result.andThen_ok,Sem.run_pure];rfl,h2⟩
theorem Ub{T kt e:Nat}{t:TypeDesc}{zv:Value}[tm:EJ P T kt e t zv]{i:Nat}{m:List (Key×AV)}{qz:AV}{k:Key}(hx:ev x=some (.mp i))(hb:A5 hp i=some (.map m))(hy:ev y=some qz)(hk:keyOf qz=some k)(nP:DY t k=true)(hm:t4 t m):
  G7 P E nx hp ev (.lookup T x y true) ty (.tup [w9 m k (g8 zv),.b (o8 m k).isSome]) :=
 E4 fun _ _ _ θ a w h=>by
  obtain⟨v,h1,h2⟩:=Mc (P:=P) (T:=T) h hx hb hy hk nP hm true
  refine⟨.tuple #[v,.bool (o8 m k).isSome],by simp only[execOp,Sem.run_bind,h1,Result.andThen_ok,Sem.run_pure];rfl,?_⟩
  exact .tup [_,_] [v,.bool (o8 m k).isSome] rfl fun j u z hu hz=>by
   match j,hu,hz with
   |0,hu,hz=>cases hu;cases hz;exact h2
   |1,hu,hz=>cases hu;cases hz;exact .im (.v _)
theorem Rp(k:Key)(m:Nat):Instr.sameBits m k.val k.val=true:=by
 cases k with
 |s l =>
  simp only[Key.val,Instr.sameBits]
  show (l.toArray == l.toArray)=true
  simp
 |i k n=>simp[Key.val,Instr.sameBits]
theorem PO{k:Key}{v:AV}:∀(m:List (Key×AV)),(match m.findIdx? (fun p=>decide (p.1=k))with
   |none=>d0 m k v=m++[(k,v)]
   |some j=>d0 m k v=m.set j (k,v))
 |[]=>rfl
 |(k',v')::r=>by
  rw[List.findIdx?_cons]
  by_cases e:k'=k
  ·simp only[e,decide_true,if_true]
   simp[d0]
  ·simp only[e,decide_false]
   have ih:=PO (k:=k) (v:=v) r
   cases hf:r.findIdx? (fun p=>decide (p.1=k))with
   |none=>rw[hf]at ih;simp[d0,e];exact ih
   |some j=>rw[hf]at ih;simp[d0,e];exact ih
theorem OM{T kt e:Nat}{t:TypeDesc}{zv:Value}[tm:EJ P T kt e t zv]{i:Nat}{m:List (Key×AV)}{qz av:AV}{k:Key}(hx:F5 σ x=some (.mp i))(hb:A5 σ.hp i=some (.map m))(hy:F5 σ y=some qz)(hk:keyOf qz=some k)(nP:DY t k=true)(hm:t4 t m)(hz:F5 σ z=some av)(mf:J1 av=true)
  (kk:B3 P E n ops rest (σ.set i (.map (d0 m k av))) K):B3 P E n ops (⟨none,.mapUpdate T x y z,ty,pos,after,none⟩::rest) σ K :=
 IZ hb (fun θ a w h=>by
  obtain⟨hu,ht,_⟩:=tm.out
  obtain⟨r,es,clock,hθ,hr,hsz,uK⟩:=h.map hb
  obtain⟨hv,mq⟩:=ZL (h.rel hx)
  have nY:a.eval x=.map (some r):=by rw[hv];exact hθ
  have uE:=PN hk (h.rel hy)
  have oe:=EI nP
  obtain⟨q,hq,oa⟩:=findNow_spec (t:=t) oe m es.toList 0 (by simpa using hsz) (fun p hp=>EI (hm p hp)) (fun j p e hj he=>(uK j p e hj (by simpa using he)).1)
  have nS:=PO (k:=k) (v:=av) m
  have mM:r<w.heap.size:=(Array.getElem?_eq_some_iff.1 hr).1
  have md:∃vW qI,(Instr.mapUpdate T (a.eval x) (a.eval y) (a.eval z)).run P w=.ok () { w with heap:=w.heap.setIfInBounds r (.map vW qI) }∧vW.size=(d0 m k av).length ∧
    ∀(j:Nat) (q:Key×AV) e,(d0 m k av)[j]?=some q→vW[j]?=some e→e.key=q.1.val∧Im (kx E θ σ.nx σ.hp w).U w q.2 e.val:=by
   have xL:=(S7 mf).im (h.rel hz)
   cases hf:m.findIdx? (fun p=>decide (p.1=k))with
   |none =>
    rw[hf]at oa nS
    subst oa
    refine⟨es.push { key:=k.val,val:=a.eval z,born:=clock },clock+1,?_,by simp only[nS];simp[hsz],fun j q e hj he=>?_⟩
    ·simp only[Instr.mapUpdate,Sem.run_bind,run_underlying hu,Result.andThen_ok,nY,uE,MapKept.run_getObj_map hr,Sem.run_pure,Bm ht oe,run_findKey ht hq,MapKept.run_setObj_map _ hr]
    ·simp only[nS]at hj
     rw[Array.getElem?_push]at he
     rw[List.getElem?_append]at hj
     split at hj
     ·rename_i pP
      rw[if_neg (by omega)]at he
      exact uK j q e hj he
     ·rename_i pK
      have:j=m.length:=by
       rcases Nat.lt_or_ge m.length j with h1|h1
       ·rw[List.getElem?_eq_none (by simp;omega)]at hj;cases hj
       ·omega
      subst this
      rw[if_pos (by omega)]at he
      cases he
      simp at hj
      subst hj
      exact⟨rfl,xL⟩
   |some j0 =>
    rw[hf]at oa nS
    obtain⟨e0,xK,rfl⟩:=oa
    have oo:j0<m.length:=by
     have:=(List.getElem?_eq_some_iff.1 xK).1
     simp at this
     omega
    have hmj:m[j0]?=some m[j0]:=List.getElem?_eq_getElem oo
    have uY:m[j0].1=k:=by
     have:=List.findIdx?_eq_some_iff_getElem.1 hf
     exact of_decide_eq_true this.2.1
    have pf:e0.key=k.val:=by rw[(uK j0 _ e0 hmj (by simpa using xK)).1,uY]
    refine⟨es.modify j0 fun e=>{ e with key:=k.val,val:=a.eval z },clock,?_,by simp only[nS];simp[hsz],fun j q e hj he=>?_⟩
    ·have zF:es[j0]?=some e0:=by simpa using xK
     simp only[Instr.mapUpdate,Sem.run_bind,run_underlying hu,Result.andThen_ok,nY,uE,MapKept.run_getObj_map hr,Sem.run_pure,Bm ht oe,run_findKey ht hq,Nat.zero_add,zF,Option.map_some,Option.getD_some,Instr.keyThatStays,pf,Rp,if_true,MapKept.run_setObj_map _ hr]
    ·simp only[nS]at hj
     rw[Array.getElem?_modify]at he
     rw[List.getElem?_set]at hj
     by_cases ej:j0=j
     ·subst ej
      rw[if_pos rfl]at he hj
      rw[if_pos oo]at hj
      cases hj
      cases hh:es[j0]? with
      |none=>rw[hh]at he;simp at he
      |some e1=>rw[hh]at he;simp at he;subst he;exact⟨rfl,xL⟩
     ·rw[if_neg ej]at he hj
      exact uK j q e hj he
  obtain⟨vW,qI,mw,ye,wU⟩:=md
  refine⟨{ w with heap:=w.heap.setIfInBounds r (.map vW qI) },by simp only[execOp,Sem.run_bind,mw,Result.andThen_ok,Sem.run_pure],rfl,rfl,rfl,by simp,fun k hk=>?_,rfl,fun le=>?_⟩
  ·have:k≠r:=by intro e;subst e;exact hk (by rw[hθ];rfl)
   simp[Array.getElem?_setIfInBounds_ne (Ne.symm this)]
  ·refine⟨r,vW,qI,by simp[cx,F1,hθ],by simp[cx,mM],ye,fun j q e hj he=>⟨(wU j q e hj he).1,((wU j q e hj he).2.mono le.heap le.U)⟩⟩) kk
theorem PQ{l:List AV}{av:AV}{k:Nat}(hx:ev x=some (.tup l))(hk:l[k]?=some av):G7 P E nx hp ev (.extract x k) ty av :=
 E4 fun _ _ _ θ a w h=>by
  have:∃cs:List Value,a.eval x=.tuple cs.toArray∧l.length=cs.length∧∀(j:Nat) u z,l[j]?=some u→cs[j]?=some z→E0 (kx E θ nx hp w) u z:=by
   have r:=h.rel hx
   generalize a.eval x=v at r
   cases r with
   |im hi=>cases hi with|tup l cs hl hc=>exact⟨cs,rfl,hl,fun j u z hu hz=>.im (hc j u z hu hz)⟩
   |tup l cs hl hc=>exact⟨cs,rfl,hl,hc⟩
  obtain⟨cs,hv,hl,hr⟩:=this
  have mM:k<cs.length:=by rw[←hl];exact(List.getElem?_eq_some_iff.1 hk).1
  have hc:cs[k]?=some cs[k]:=List.getElem?_eq_getElem mM
  refine⟨cs[k],?_,hr k av _ hk hc⟩
  simp only[execOp,hv,Instr.extract]
  simp[hc,Sem.run_bind,Sem.run_pure]
theorem Rq{f:Nat}{xs:List Operand}{caps:List AV}(ha:m4 ev xs=some caps)(hf:f<Gv):G7 P E nx hp ev (.makeFunc (.func f) #[] xs.toArray) ty (.fo f caps) :=
 E4 fun _ _ _ θ a w h=>by
  obtain⟨hl,hr⟩:=Bk h xs caps ha
  exact⟨.func (.func f) #[] (xs.map a.eval).toArray,by simp[execOp,Instr.makeFunc,Sem.run_bind,Sem.run_pure],by
   have:=E0.fo (c:=kx E θ nx hp w) f caps (xs.map a.eval) (by simp[hl]) fun j u z hu hz=>hr j u z hu hz
   unfold RR at this
   rwa[if_pos hf]at this⟩
theorem Wt{f:Nat}{xs:List Operand}{caps:List AV}(ha:m4 ev xs=some caps)(mf:I9 caps=true):G7 P E nx hp ev (.makeFunc (.func f) #[] xs.toArray) ty (.fn f caps) :=
 E4 fun _ _ _ θ a w h=>by
  obtain⟨hl,hr⟩:=Bk h xs caps ha
  refine⟨.func (.func f) #[] (xs.map a.eval).toArray,by simp[execOp,Instr.makeFunc,Sem.run_bind,Sem.run_pure],.im (.fn f caps _ (by simp[hl]) fun j u z hu hz=>?_)⟩
  exact(U2 mf u (List.mem_of_getElem? hu)).im (hr j u z hu hz)
theorem Uc(l:List UInt8)(i j:Nat):((⟨l.toArray⟩:ByteArray).extract i j)=⟨((l.take j).drop i).toArray⟩:=by
 apply ByteArray.ext
 simp[ByteArray.data_extract]
 rw[List.drop_take]
def AX(ev:Operand→Option AV)(yT:Nat):Option Operand→Option Int
 |none=>some yT
 |some x=>match ev x with
  |some (.v (.int _ i))=>some i
  |_=>none
theorem FX{k:IntKind}{i:Int}{m:Nat}(h0:0≤i)(h1:i≤m)(c:BoundsCode)(w:World):(Instr.sliceBound (.int k i) m c).run P w=.ok i.toNat w:=by
 simp[Instr.sliceBound,asIntOf,Sem.run_bind,Sem.run_pure,h0,h1]
theorem CW{isS:Bool}{len cap:Nat}{lo hi:Option Operand}{l h:Int}{θ:Th}{a:Act}{w:World}(om:v8 E θ nx hp ev a w)(hl:AX ev 0 lo=some l)(hh:AX ev len hi=some h)(h0:0≤l)(h1:l≤h)(h2:h≤cap):
  (Instr.sliceBounds isS len cap (lo.map a.eval) (hi.map a.eval) none).run P w=.ok (l.toNat,h.toNat,cap) w:=by
 have hb:∀(o:Option Operand) (df:Nat) (i:Int),AX ev df o=some i→(o=none∧i=df)∨∃y k,o=some y∧a.eval y=.int k i:=by
  intro o df i ho
  cases o with
  |none=>exact .inl ⟨rfl,by simp[AX]at ho;exact ho.symm⟩
  |some y =>
   simp only[AX]at ho
   split at ho
   ·rename_i k j hj
    cases ho
    exact .inr ⟨y,k,rfl,(om.rel hj).val⟩
   ·cases ho
 have h3:0≤h:=by omega
 rcases hb lo 0 l hl with ⟨rfl,rfl⟩|⟨yl,kl,rfl,hyl⟩<;>rcases hb hi len h hh with ⟨rfl,rfl⟩|⟨yh,kh,rfl,hyh⟩
 ·simp[Instr.sliceBounds,Sem.run_bind,Sem.run_pure]
 ·simp only[Instr.sliceBounds,Option.map_none,Option.map_some,Sem.run_bind,Sem.run_pure,Result.andThen_ok,hyh,FX h3 h2]
  rfl
 ·simp only[Instr.sliceBounds,Option.map_none,Option.map_some,Sem.run_bind,Sem.run_pure,Result.andThen_ok,hyl,FX h0 h1]
  rfl
 ·have h4:l≤(h.toNat:Int):=by omega
  simp only[Instr.sliceBounds,Option.map_some,Sem.run_bind,Sem.run_pure,Result.andThen_ok,hyl,hyh,FX h3 h2,FX h0 h4]
theorem Kb{T:Nat}[ts:j8 P T]{s:List UInt8}{lo hi:Option Operand}{l h:Int}(hx:ev x=some (.str s))(hl:AX ev 0 lo=some l)(hh:AX ev s.length hi=some h)(h0:0≤l)(h1:l≤h)(h2:h≤s.length):
  G7 P E nx hp ev (.slice T x lo hi none) ty (.str ((s.take h.toNat).drop l.toNat)) :=
 E4 fun _ _ _ θ a w hs=>by
  have hv:=(hs.rel hx).sval
  refine⟨.string ⟨((s.take h.toNat).drop l.toNat).toArray⟩,?_,.im (.str _)⟩
  have hb:=CW (P:=P) (isS:=false) (cap:=s.length) hs hl hh h0 h1 h2
  have hsz:(ByteArray.mk s.toArray).size=s.length:=rfl
  simp only[execOp,hv,Instr.sliceAt,Instr.slice,Sem.run_bind,run_underlying ts.out,Result.andThen_ok,Option.isSome_none,Option.map_none,hsz,Bool.false_eq_true,if_false,hb,Uc,Sem.run_pure]
theorem Wu{T e sz:Nat}[ts:L3 P T e sz]{s:List (List AV)}{lo hi:Option Operand}{l h:Int}(hx:ev x=some (.sl sz s))(hl:AX ev 0 lo=some l)(hh:AX ev s.length hi=some h)(h0:0≤l)(h1:l≤h)(h2:h≤s.length):
  G7 P E nx hp ev (.slice T x lo hi none) ty (.sl sz ((s.take h.toNat).drop l.toNat)) :=
 E4 fun _ _ _ θ a w hs=>by
  obtain⟨hu,inf,nO,hsz⟩:=ts.out
  have mL:((s.take h.toNat).drop l.toNat).length=h.toNat-l.toNat:=by rw[List.length_drop,List.length_take];omega
  rcases Em (hs.rel hx)with ⟨hv,e⟩|⟨p,cap,f,hv,h3,h4,h5,h6,h7,h8⟩
  ·subst e
   have hb:=CW (P:=P) (isS:=true) (cap:=0) hs hl hh h0 h1 (by simpa using h2)
   have e1:h=0:=by simp at h2;omega
   have e2:l=0:=by omega
   subst e1;subst e2
   refine⟨.slice none 0 0,?_,.im (.slnil sz)⟩
   simp only[List.length_nil]at hb
   simp only[execOp,hv,Instr.sliceAt,Instr.slice,Sem.run_bind,run_underlying hu,Result.andThen_ok,Option.map_none,hb,Sem.run_pure,sizeOf,typeInfo,program,Sem.run,nO]
   rfl
  ·have hb:=CW (P:=P) (isS:=true) (cap:=cap) hs hl hh h0 h1 (by omega)
   refine⟨.slice (some (if cap=l.toNat then p else p.add (l.toNat*sz))) (h.toNat-l.toNat) (cap-l.toNat),?_,?_⟩
   ·simp only[execOp,hv,Instr.sliceAt,Instr.slice,Sem.run_bind,run_underlying hu,Result.andThen_ok,Option.map_none,hb,Sem.run_pure,sizeOf,typeInfo,program,Sem.run,nO,hsz]
    split<;>rfl
   ·rw[←mL]
    have oA:∀(i:Nat) el,((s.take h.toNat).drop l.toNat)[i]?=some el→s[l.toNat+i]?=some el∧l.toNat+i<s.length∧l.toNat≠cap:=by
     intro i el hi
     rw[List.getElem?_drop,List.getElem?_take]at hi
     split at hi
     ·have:=(List.getElem?_eq_some_iff.1 hi).1
      exact⟨hi,this,by omega⟩
     ·cases hi
    refine .im (.sl sz _ _ _ (fun i j=>f (l.toNat+i) j) (by rw[mL];omega) (by omega) (fun hne qJ=>?_) (fun el mI=>?_) (fun i hi j hj=>?_) (fun i el hi j u hu=>?_))
    ·have:s≠[]:=by intro e;subst e;simp at hne
     split
     ·exact h5 this qJ
     ·rw[l9];exact h5 this qJ
    ·exact h6 el (List.mem_of_mem_take (List.mem_of_mem_drop mI))
    ·have hg:=oA i _ (List.getElem?_eq_getElem hi)
     rw[if_neg (fun e=>hg.2.2 e.symm),DF]
     have:=h7 (l.toNat+i) hg.2.1 j hj
     rw[Nat.add_mul,Nat.add_assoc]at this
     exact this
    ·have hg:=oA i _ hi
     exact h8 _ _ hg.1 j u hu
end rules
def Jp(h h':Hp)(i v len:Nat):AV :=
 match A5 h i with
 |some (.row _ sz v1 l)=>cond (Nat.beq v v1) (match A5 h' i with
  |some (.row _ _ v2 _)=>.row i v2 len
  |_=>.sl sz l) .any
 |_=>.any
def Jq(h h':Hp)(i v k off:Nat):AV :=
 match A5 h i with
 |some (.row _ sz v1 l)=>cond (Nat.beq v v1) (match A5 h' i with
  |some (.row _ _ v2 _)=>.elt i v2 k off
  |_=>match l[k]? with
   |some el=>.iptr (el.drop off)
   |none=>.any) .any
 |_=>.any
def Jr(h h':Hp)(i v lo len:Nat):AV :=
 match A5 h i with
 |some (.row _ sz v1 l)=>cond (Nat.beq v v1) (match A5 h' i with
  |some (.row _ _ v2 _)=>.sub i v2 lo len
  |_=>.sl sz ((l.take (lo+len)).drop lo)) .any
 |_=>.any
def Md(h h':Hp)(i off:Nat):AV :=
 match A5 h i with
 |some (.bx _ l)=>match A5 h' i with
  |some _=>.ref i off
  |none=>cond (I9 l) (.iptr (l.drop off)) (.ref i off)
 |_=>.ref i off
mutual
def J0(h h':Hp):AV→AV
 |.row i v len=>Jp h h' i v len
 |.elt i v k off=>Jq h h' i v k off
 |.sub i v lo len=>Jr h h' i v lo len
 |.ref i off=>Md h h' i off
 |.agg l=>.agg (CD h h' l)
 |.tup l=>.tup (CD h h' l)
 |.fo f l=>.fo f (CD h h' l)
 |x=>x
def CD(h h':Hp):List AV→List AV
 |[]=>[]
 |x::r=>J0 h h' x::CD h h' r
end
theorem Q3(h h':Hp):∀l,CD h h' l=l.map (J0 h h')
 |[]=>by simp[CD]
 |x::r=>by simp[CD,Q3 h h' r]
def FY(h h':Hp):C4→C4→Prop
 |.bx τ l,b=>b=.bx τ (CD h h' l)
 |.row e sz _ l,b=>∃v,b=.row e sz v l
 |.map m,b=>b=.map m
 |.it s p,b=>b=.it s p
mutual
def X0(m:Nat):AV→Bool
 |.ref i _=>Nat.blt i m
 |.row i _ _=>Nat.blt i m
 |.mp i=>Nat.blt i m
 |.elt i _ _ _=>Nat.blt i m
 |.sub i _ _ _=>Nat.blt i m
 |.agg l=>V0 m l
 |.tup l=>V0 m l
 |.fo _ l=>V0 m l
 |_=>true
def V0(m:Nat):List AV→Bool
 |[]=>true
 |x::r=>X0 m x && V0 m r
end
theorem Ae{m:Nat}:∀{l:List AV},V0 m l=true→∀x∈l,X0 m x=true
 |[],_,x,hx=>by cases hx
 |y::r,h,x,hx=>by
  simp only[V0,Bool.and_eq_true]at h
  rcases List.mem_cons.1 hx with rfl|hx
  ·exact h.1
  ·exact Ae h.2 x hx
structure Cx.sub(c c':Cx):Prop where
 θ:c'.θ=c.θ
 w:c'.w=c.w
 X:∀k,c'.X k→c.X k
 blk:∀i b',A5 c'.hp i=some b'→∃b,A5 c.hp i=some b∧FY c.hp c'.hp b b'
 apart:∀i j b b' k,A5 c.hp i=some b→A5 c.hp j=some b'→FP c.θ i b k→FP c.θ j b' k→i=j
 fresh:∀i b k,A5 c.hp i=some b→FP c.θ i b k→¬c.X k
 owns:∀i b,A5 c.hp i=some b→L7 c i b
theorem bm{h h':Hp}{b b':C4}(e:FY h h' b b'):V6 b'=V6 b:=by
 cases b with
 |bx τ l=>simp only[FY]at e;subst e;rfl
 |row e1 sz v l=>obtain⟨v2,rfl⟩:=e;rfl
 |map m=>simp only[FY]at e;subst e;rfl
 |it s p=>simp only[FY]at e;subst e;rfl
theorem FP.cv{θ:Th}{i k:Nat}{h h':Hp}{b b':C4}(e:FY h h' b b')(f:FP θ i b' k):FP θ i b k:=by
 unfold FP at f ⊢
 rwa[bm e]at f
theorem Cx.sub.U{c c':Cx}(h:c.sub c'):∀k,c'.U k→c.U k:=by
 rintro k (hk|⟨i,b,hi,hk⟩)
 ·exact .inl (h.X k hk)
 ·obtain⟨b0,ns,sv⟩:=h.blk i b hi
  exact .inr ⟨i,b0,ns,FP.cv sv (by rw[←h.θ];exact hk)⟩
theorem Cx.sub.notU{c c':Cx}(h:c.sub c'){i:Nat}{b:C4}(hi:A5 c.hp i=some b)(hn:A5 c'.hp i=none){k:Nat}(hk:FP c.θ i b k):¬c'.U k:=by
 rintro (hx|⟨j,b',hj,nH⟩)
 ·exact h.fresh i b k hi hk (h.X k hx)
 ·obtain⟨b0,ns,sv⟩:=h.blk j b' hj
  have:=h.apart i j b b0 k hi ns hk (FP.cv sv (by rw[←h.θ];exact nH))
  subst this
  rw[hn]at hj
  cases hj
theorem Cx.sub.im{c c':Cx}(h:c.sub c'){a:AV}{x:Value}(hi:Im c.U c.w a x):Im c'.U c'.w a x:=hi.mono (fun k _ _=>by rw[h.w]) fun k _ hu=>h.U k hu
theorem HF{c c':Cx}(h:c.sub c'){i e sz v:Nat}{l:List (List AV)}(hi:A5 c.hp i=some (.row e sz v l))(hn:A5 c'.hp i=none):Im c'.U c'.w (.sl sz l) (c.θ i):=by
 obtain⟨xs,mO,hsz,hr,_⟩:=h.owns i _ hi
 rcases mO.2 with ⟨hv,vG⟩|⟨g,cap,mQ,hv,_,hg,hc,hm,mL,hx⟩
 ·have:l=[]:=List.eq_nil_of_length_eq_zero vG
  subst this
  rw[hv]
  exact .slnil sz
 ·have mx:=mO
  rw[hv]at mx
  rw[hv]
  have wR:¬c'.U g:=h.notU hi hn (.inl (by rw[hv];rfl))
  have oA:∀i,i<l.length→∀j,j<sz→∃y,xs[i*sz+j]?=some y:=by
   intro i hi j hj
   have h1:(i+1)*sz≤l.length*sz:=Nat.mul_le_mul_right _ hi
   rw[Nat.add_mul,Nat.one_mul]at h1
   have h2:i*sz+j<xs.length:=by rw[mO.1];omega
   exact⟨_,List.getElem?_eq_getElem h2⟩
  refine .sl sz l ⟨g,0,none⟩ cap (fun i j=>xs.getD (i*sz+j) undef) hc hm (fun _ _=>wR) hsz (fun i hi j hj=>?_) (fun k el hk j x hx=>?_)
  ·obtain⟨y,hy⟩:=oA i hi j hj
   have:=mx.cells (g:=g) rfl _ _ hy
   rw[H3,h.w]
   have e:xs.getD (i*sz+j) undef=y:=by rw[List.getD,hy];rfl
   rw[e]
   simpa [H3]using this
  ·obtain⟨y,hy,nQ⟩:=hr k el hk j x hx
   have e:xs.getD (k*sz+j) undef=y:=by rw[List.getD,hy];rfl
   rw[e]
   exact h.im nQ
theorem iw{U:Nat→Prop}{w:World}{sz lo len:Nat}{l:List (List AV)}{v x:Value}(h:Im U w (.sl sz l) v)(hs:RQ v sz lo len x)(hl:lo+len≤l.length):Im U w (.sl sz ((l.take (lo+len)).drop lo)) x:=by
 have mL:((l.take (lo+len)).drop lo).length=len:=by rw[List.length_drop,List.length_take];omega
 rcases hs with ⟨rfl,rfl,rfl,rfl⟩|⟨g,n,cap,rfl,rfl⟩
 ·have:(l.take (0+0)).drop 0=[]:=by simp
  rw[this];exact .slnil sz
 ·cases h with
  |sl sz l a cap f nK hm hu hsz hc h =>
   have oA:∀(i:Nat) el,((l.take (lo+len)).drop lo)[i]?=some el→l[lo+i]?=some el∧lo+i<l.length∧cap≠lo:=by
    intro i el hi
    rw[List.getElem?_drop,List.getElem?_take]at hi
    split at hi
    ·have:=(List.getElem?_eq_some_iff.1 hi).1
     exact⟨hi,this,by omega⟩
    ·cases hi
   have key:∀p:Addr,p=(if cap=lo then ⟨g,0,none⟩else ⟨g,lo*sz,none⟩)→Im U w (.sl sz ((l.take (lo+len)).drop lo)) (.slice (some p) ((l.take (lo+len)).drop lo).length (cap-lo)):=fun p hp=>by
    refine .sl sz _ p _ (fun i j=>f (lo+i) j) (by rw[mL];omega) (by omega) (fun hne qJ=>?_) (fun el mI=>?_) (fun i hi j hj=>?_) (fun i el hi j u hu=>?_)
    ·have:l≠[]:=by intro e;subst e;simp at hne
     have h5:=hu this qJ
     rw[hp];split<;>exact h5
    ·exact hsz el (List.mem_of_mem_take (List.mem_of_mem_drop mI))
    ·have hg:=oA i _ (List.getElem?_eq_getElem hi)
     rw[hp,if_neg hg.2.2,H3]
     have:=hc (lo+i) hg.2.1 j hj
     rw[H3,Nat.zero_add,Nat.add_mul,Nat.add_assoc]at this
     exact this
    ·have hg:=oA i _ hi
     exact h _ _ hg.1 j u hu
   have:=key _ rfl
   rwa[mL]at this
theorem km{c c':Cx}(h:c.sub c'){a:AV}{x:Value}(hi:Im c.U c.w a x):J0 c.hp c'.hp a=a∨E0 c' (J0 c.hp c'.hp a) x:=by
 induction hi with
 |v x=>exact .inl rfl
 |str l=>exact .inl rfl
 |fn f l cs hl hc ih=>exact .inl rfl
 |iptr l a f hu hc hh ih=>exact .inl rfl
 |err t p=>exact .inl rfl
 |any x=>exact .inl rfl
 |own e sz l x=>exact .inl rfl
 |slnil sz=>exact .inl rfl
 |sl sz l a cap f nK hm hu hsz hc hh ih=>exact .inl rfl
 |agg l cs hl hc ih =>
  refine .inr ?_
  simp only[J0,Q3]
  refine .agg _ cs (by simp[hl]) fun j u z hu hz=>?_
  simp only[List.getElem?_map,Option.map_eq_some_iff]at hu
  obtain⟨u0,oS,rfl⟩:=hu
  rcases ih j u0 z oS hz with e|e
  ·rw[e];exact .im (h.im (hc j u0 z oS hz))
  ·exact e
 |tup l cs hl hc ih =>
  refine .inr ?_
  simp only[J0,Q3]
  refine .tup _ cs (by simp[hl]) fun j u z hu hz=>?_
  simp only[List.getElem?_map,Option.map_eq_some_iff]at hu
  obtain⟨u0,oS,rfl⟩:=hu
  rcases ih j u0 z oS hz with e|e
  ·rw[e];exact .im (h.im (hc j u0 z oS hz))
  ·exact e
theorem Id{c c':Cx}(h:c.sub c'){a:AV}{x:Value}(r:E0 c a x):c.nx≤c'.nx∨X0 c'.nx (J0 c.hp c'.hp a)=true→E0 c' (J0 c.hp c'.hp a) x:=by
 induction r with
 |any x=>intro _;exact .any x
 |im hi =>
  intro _
  rcases km h hi with e|e
  ·rw[e];exact .im (h.im hi)
  ·exact e
 |agg l cs hl _ ih =>
  intro mM
  simp only[J0,Q3]at mM ⊢
  refine .agg _ cs (by simp[hl]) fun j u z hu hz=>?_
  have nE:=List.mem_of_getElem? hu
  simp only[List.getElem?_map,Option.map_eq_some_iff]at hu
  obtain⟨u0,oS,rfl⟩:=hu
  exact ih j u0 z oS hz (mM.imp id fun h=>Ae (by simpa only[X0]using h) _ nE)
 |tup l cs hl _ ih =>
  intro mM
  simp only[J0,Q3]at mM ⊢
  refine .tup _ cs (by simp[hl]) fun j u z hu hz=>?_
  have nE:=List.mem_of_getElem? hu
  simp only[List.getElem?_map,Option.map_eq_some_iff]at hu
  obtain⟨u0,oS,rfl⟩:=hu
  exact ih j u0 z oS hz (mM.imp id fun h=>Ae (by simpa only[X0]using h) _ nE)
 |fo f l cs hl _ ih =>
  intro mM
  simp only[J0,Q3]at mM ⊢
  refine .fo f _ cs (by simp[hl]) fun j u z hu hz=>?_
  have nE:=List.mem_of_getElem? hu
  simp only[List.getElem?_map,Option.map_eq_some_iff]at hu
  obtain⟨u0,oS,rfl⟩:=hu
  exact ih j u0 z oS hz (mM.imp id fun h=>Ae (by simpa only[X0]using h) _ nE)
 |ref i off b hi hθ =>
  intro mM
  simp only[J0,Md]at mM ⊢
  have nW:(c.nx≤c'.nx∨X0 c'.nx (.ref i off)=true)→E0 c' (.ref i off) (.pointer (some ⟨b,off,none⟩)):=fun mM=>by
   refine .ref i off b ?_ (by rw[h.θ];exact hθ)
   rcases mM with h1|h1
   ·omega
   ·simpa only[X0,Nat.blt_eq]using h1
  split at mM
  ·rename_i l hb
   split at mM
   ·exact nW mM
   ·rename_i hn
    cases mf:I9 l with
    |false=>rw[mf]at mM;exact nW mM
    |true =>
     obtain⟨b',mu,T,ni,hh,hsz,hr⟩:=h.owns i _ hb
     have e:b'=b:=by rw[hθ]at ni;injection ni with e;injection e with e;injection e with e;exact e.symm
     subst e
     have wR:¬c'.U b':=h.notU hb hn (.inl (by rw[hθ];rfl))
     refine .im (.iptr _ _ (fun j=>mu.getD (off+j) undef) (fun _=>wR) (fun j hj=>?_) (fun j u hu=>?_))
     ·have ug:off+j<mu.size:=by rw[List.length_drop]at hj;omega
      rw[H3,h.w,J9 hh]
      simp[Array.getD,ug]
     ·rw[List.getElem?_drop]at hu
      have ug:off+j<mu.size:=by have:=(List.getElem?_eq_some_iff.1 hu).1;omega
      have oA:mu[off+j]?=some (mu.getD (off+j) undef):=by simp[Array.getD,ug]
      have:=hr _ u _ hu oA
      exact h.im ((U2 mf u (List.mem_of_getElem? hu)).im this)
  ·exact nW mM
 |row i ver len x hi hr =>
  intro mM
  simp only[J0,Jp]
  split
  ·rename_i e sz v1 l hb
   cases hv:Nat.beq ver v1 with
   |false=>exact .any x
   |true =>
    have nY:=Nat.eq_of_beq_eq_true hv
    subst nY
    obtain⟨_,rG⟩:=hr e sz ver l hb
    obtain⟨mL,hx⟩:=rG rfl
    simp only[cond_true]
    split
    ·rename_i e2 oB v2 l2 mj
     have mq:i<c'.nx:=by
      simp only[J0,Jp,hb,hv,cond_true,mj,X0,Nat.blt_eq]at mM
      omega
     refine .row i v2 len x mq fun e3 zr v3 l3 qm=>?_
     rw[mj]at qm
     cases qm
     refine⟨Nat.le_refl _,fun _=>?_⟩
     obtain⟨b,oW,mU⟩:=h.blk i _ mj
     rw[hb]at oW
     cases oW
     obtain⟨v,mU⟩:=mU
     cases mU
     exact⟨mL,by rw[h.θ];exact hx⟩
    ·rename_i mj
     rw[hx]
     refine .im (HF h hb ?_)
     cases hq:A5 c'.hp i with
     |none=>rfl
     |some b' =>
      obtain⟨b,oW,mU⟩:=h.blk i _ hq
      rw[hb]at oW
      cases oW
      obtain⟨v,rfl⟩:=mU
      exact absurd hq (mj _ _ _ _)
  ·exact .any x
 |mp i r hi hθ =>
  intro mM
  refine .mp i r ?_ (by rw[h.θ];exact hθ)
  simp only[J0,X0,Nat.blt_eq]at mM
  omega
 |sub i ver lo len x hi hr =>
  intro mM
  simp only[J0,Jr]
  split
  ·rename_i e sz v1 l hb
   cases hv:Nat.beq ver v1 with
   |false=>exact .any x
   |true =>
    have nY:=Nat.eq_of_beq_eq_true hv
    subst nY
    obtain⟨_,rG⟩:=hr e sz ver l hb
    obtain⟨mL,hx⟩:=rG rfl
    simp only[cond_true]
    split
    ·rename_i e2 oB v2 l2 mj
     have mq:i<c'.nx:=by
      simp only[J0,Jr,hb,hv,cond_true,mj,X0,Nat.blt_eq]at mM
      omega
     refine .sub i v2 lo len x mq fun e3 zr v3 l3 qm=>?_
     rw[mj]at qm
     cases qm
     refine⟨Nat.le_refl _,fun _=>?_⟩
     obtain⟨b,oW,mU⟩:=h.blk i _ mj
     rw[hb]at oW
     cases oW
     obtain⟨v,mU⟩:=mU
     cases mU
     exact⟨mL,by rw[h.θ];exact hx⟩
    ·rename_i mj
     refine .im (iw (HF h hb ?_) hx mL)
     cases hq:A5 c'.hp i with
     |none=>rfl
     |some b' =>
      obtain⟨b,oW,mU⟩:=h.blk i _ hq
      rw[hb]at oW
      cases oW
      obtain⟨v,rfl⟩:=mU
      exact absurd hq (mj _ _ _ _)
  ·exact .any x
 |elt i ver k off x hi hr =>
  intro mM
  simp only[J0,Jq]
  split
  ·rename_i e sz v1 l hb
   cases hv:Nat.beq ver v1 with
   |false=>exact .any x
   |true =>
    have nY:=Nat.eq_of_beq_eq_true hv
    subst nY
    obtain⟨_,rG⟩:=hr e sz ver l hb
    obtain⟨g,m,cap,hθ,hx⟩:=rG rfl
    simp only[cond_true]
    split
    ·rename_i e2 oB v2 l2 mj
     have mq:i<c'.nx:=by
      simp only[J0,Jq,hb,hv,cond_true,mj,X0,Nat.blt_eq]at mM
      omega
     refine .elt i v2 k off x mq fun e3 zr v3 l3 qm=>?_
     rw[mj]at qm
     cases qm
     refine⟨Nat.le_refl _,fun _=>?_⟩
     obtain⟨b,oW,mU⟩:=h.blk i _ mj
     rw[hb]at oW
     cases oW
     obtain⟨v,mU⟩:=mU
     cases mU
     exact⟨g,m,cap,by rw[h.θ];exact hθ,hx⟩
    ·rename_i mj
     split
     ·rename_i el mI
      have hn:A5 c'.hp i=none:=by
       cases hq:A5 c'.hp i with
       |none=>rfl
       |some b' =>
        obtain⟨b,oW,mU⟩:=h.blk i _ hq
        rw[hb]at oW
        cases oW
        obtain⟨v,rfl⟩:=mU
        exact absurd hq (mj _ _ _ _)
      have nQ:=HF h hb hn
      rw[hθ]at nQ
      cases nQ with
      |sl sz l a nd f nK hm hu hsz hc hh =>
       have pP:k<l.length:=(List.getElem?_eq_some_iff.1 mI).1
       have uK:=hsz el (List.mem_of_getElem? mI)
       rw[hx]
       refine .im (.iptr _ _ (fun j=>f k (off+j)) (fun hne=>?_) (fun j hj=>?_) (fun j u qH=>?_))
       ·have h1:=List.length_pos_iff.2 hne
        rw[List.length_drop]at h1
        exact hu (by intro e;subst e;simp at pP) (by omega)
       ·rw[List.length_drop]at hj
        have:=hc k pP (off+j) (by omega)
        rw[H3]at this ⊢
        rw[←this]
        congr 2
        omega
       ·rw[List.getElem?_drop]at qH
        exact hh k el mI (off+j) u qH
     ·exact .any x
  ·exact .any x
theorem J5.cv{E:Env}{n:Nat}{θ:Th}{σ σ':St}{a:Act}{w:World}(h:J5 E n θ σ a w)(h0:E.n0≤σ'.nx)
  (hs:∀s x',look σ'.sl s=some x'→∃x,look σ.sl s=some x∧J0 σ.hp σ'.hp x=x'∧(σ.nx≤σ'.nx∨X0 σ'.nx x'=true))
  (hb:∀i b',A5 σ'.hp i=some b'→(σ.nx≤σ'.nx∨i<σ'.nx)∧∃b,A5 σ.hp i=some b∧FY σ.hp σ'.hp b b'∧(σ.nx≤σ'.nx∨∀τ l,b'=.bx τ l→V0 σ'.nx l=true)):J5 E n θ σ' a w:=by
 have sub:(cx E θ σ w).sub (cx E θ σ' w):=⟨rfl,rfl,fun _ h=>h,fun i b' hi=>by
  obtain⟨_,b,h1,h2,_⟩:=hb i b' hi
  exact⟨b,h1,h2⟩,h.apart,fun i b k hi hk=>(h.mine i b k hi hk).1,fun i b hi=>(h.owns i b hi).2⟩
 refine⟨h.size,h.defers,h.fr,fun s x' hx=>?_,fun i b' hi=>?_,fun i j b1 b2 k hi hj=>?_,fun i b' k hi=>?_,h.X,⟨h0,fun i hi=>(h.base.2 i hi).imp id fun ⟨h1,h2⟩=>⟨h1,fun ⟨e',sz,v,l,hl,hk⟩=>h2 (by
  obtain⟨_,b,g1,g2,_⟩:=hb i _ hl
  cases b with
  |bx _ _=>cases g2
  |map _=>cases g2
  |it _ _=>cases g2
  |row e1 sz1 v1 l1 =>
   obtain⟨v2,g3⟩:=g2
   cases g3
   exact⟨_,_,_,_,g1,hk⟩)⟩⟩⟩
 ·obtain⟨x,h1,rfl,h2⟩:=hs s x' hx
  exact Id sub (h.slots s x h1) h2
 ·obtain⟨h0,b,h1,h2,h3⟩:=hb i b' hi
  obtain⟨h4,h5⟩:=h.owns i b h1
  refine⟨h0.elim (fun h=>by omega) id,?_⟩
  cases b with
  |bx τ l =>
   simp only[FY]at h2
   subst h2
   obtain⟨b',mu,T,e1,e2,e3,e4⟩:=h5
   refine⟨b',mu,T,e1,e2,by rw[Q3,List.length_map];exact e3,fun j u z hu hz=>?_⟩
   rw[Q3]at hu h3
   have nE:=List.mem_of_getElem? hu
   simp only[List.getElem?_map,Option.map_eq_some_iff]at hu
   obtain⟨u0,oS,rfl⟩:=hu
   exact Id sub (e4 j u0 z oS hz) (h3.imp id fun h=>Ae (h _ _ rfl) _ nE)
  |row e sz v l =>
   obtain⟨v2,rfl⟩:=h2
   obtain⟨xs,e1,e2,e3,e4⟩:=h5
   exact⟨xs,e1,e2,(fun k el hk j x hx=>by
    obtain⟨y,hy,hi⟩:=e3 k el hk j x hx
    exact⟨y,hy,sub.im hi⟩),fun hne=>⟨(e4 hne).1,fun k el hk j e' mP l' hj=>by
    obtain⟨g,m,cap,y,ys,q1,q2,q3,q4,q5,q6,q7⟩:=(e4 hne).2 k el hk j e' mP l' hj
    exact⟨g,m,cap,y,ys,q1,q2,q3,q4,q5,fun q nl hq j' x hx=>by
     obtain⟨z,hz,hi⟩:=q6 q nl hq j' x hx
     exact⟨z,hz,sub.im hi⟩,q7⟩⟩⟩
  |map m =>
   simp only[FY]at h2
   subst h2
   obtain⟨r,es,clock,e1,e2,e3,e4⟩:=h5
   exact⟨r,es,clock,e1,e2,e3,fun j q e hj he=>⟨(e4 j q e hj he).1,sub.im (e4 j q e hj he).2⟩⟩
  |it t p =>
   simp only[FY]at h2
   subst h2
   exact h5
 ·intro oX mW
  obtain⟨_,b1',h1,g1,_⟩:=hb i b1 hi
  obtain⟨_,b2',h2,g2,_⟩:=hb j b2 hj
  exact h.apart i j _ _ k h1 h2 (FP.cv g1 oX) (FP.cv g2 mW)
 ·intro hk
  obtain⟨_,b1',h1,g1,_⟩:=hb i b' hi
  exact h.mine i _ k h1 (FP.cv g1 hk)
def Rr(m:Nat):List (Nat×AV)→Bool
 |[]=>true
 |(_,x)::r=>X0 m x && Rr m r
def K8(m:Nat):Hp→Bool
 |[]=>true
 |(i,some (.bx _ l))::r=>Nat.blt i m && V0 m l && K8 m r
 |(i,_)::r=>Nat.blt i m && K8 m r
theorem PT{m:Nat}:∀{l:List (Nat×AV)} {s:Nat} {x:AV},Rr m l=true→look l s=some x→X0 m x=true
 |[],s,x,_,h=>by cases h
 |(s0,x0)::r,s,x,hs,h=>by
  simp only[Rr,Bool.and_eq_true]at hs
  rw[E9]at h
  by_cases e:s0=s
  ·subst e;rw[if_pos rfl]at h;cases h;exact hs.1
  ·rw[if_neg e]at h;exact PT hs.2 h
theorem CE{m:Nat}:∀{l:Hp} {i:Nat} {b:C4},K8 m l=true→A5 l i=some b→i<m∧∀τ c,b=.bx τ c→V0 m c=true
 |[],i,b,_,h=>by cases h
 |(i0,b0)::r,i,b,hs,h=>by
  rw[G4]at h
  have nU:Nat.blt i0 m=true∧(∀τ c,b0=some (.bx τ c)→V0 m c=true)∧K8 m r=true:=by
   match b0,hs with
   |some (.bx τ c),hs=>simp only[K8,Bool.and_eq_true]at hs;exact⟨hs.1.1,(fun _ c' e=>by cases e;exact hs.1.2),hs.2⟩
   |some (.row ..),hs=>simp only[K8,Bool.and_eq_true]at hs;exact⟨hs.1,(fun _ c' e=>by cases e),hs.2⟩
   |some (.map ..),hs=>simp only[K8,Bool.and_eq_true]at hs;exact⟨hs.1,(fun _ c' e=>by cases e),hs.2⟩
   |some (.it ..),hs=>simp only[K8,Bool.and_eq_true]at hs;exact⟨hs.1,(fun _ c' e=>by cases e),hs.2⟩
   |none,hs=>simp only[K8,Bool.and_eq_true]at hs;exact⟨hs.1,(fun _ c' e=>by cases e),hs.2⟩
  by_cases e:i0=i
  ·subst e
   rw[if_pos rfl]at h
   subst h
   exact⟨Nat.blt_eq▸nU.1,fun τ c hc=>nU.2.1 τ c (by rw[hc])⟩
  ·rw[if_neg e]at h;exact CE nU.2.2 h
def HG(σ:St)(h':Hp):List (Nat×AV)→Prop
 |[]=>True
 |(s,x)::r=>(look σ.sl s).map (J0 σ.hp h')=some x∧HG σ h' r
def EK(σ:St)(h':Hp):Hp→Prop
 |[]=>True
 |(_,none)::r=>EK σ h' r
 |(i,some b)::r=>(match A5 σ.hp i with
  |some b0=>FY σ.hp h' b0 b
  |none=>False)∧EK σ h' r
theorem HG.look{σ:St}{h':Hp}:∀{l:List (Nat×AV)} {s:Nat} {x:AV},HG σ h' l→look l s=some x→(look σ.sl s).map (J0 σ.hp h')=some x
 |[],s,x,_,h=>by cases h
 |(s0,x0)::r,s,x,hs,h=>by
  rw[E9]at h
  by_cases e:s0=s
  ·subst e;rw[if_pos rfl]at h;cases h;exact hs.1
  ·rw[if_neg e]at h;exact HG.look hs.2 h
theorem EK.look{σ:St}{h':Hp}:∀{l:Hp} {i:Nat} {b:C4},EK σ h' l→A5 l i=some b→∃b0,A5 σ.hp i=some b0∧FY σ.hp h' b0 b
 |[],i,b,_,h=>by cases h
 |(i0,none)::r,i,b,hs,h=>by
  rw[G4]at h
  by_cases e:i0=i
  ·subst e;rw[if_pos rfl]at h;cases h
  ·rw[if_neg e]at h;exact EK.look (l:=r) hs h
 |(i0,some b0)::r,i,b,hs,h=>by
  rw[G4]at h
  by_cases e:i0=i
  ·subst e
   rw[if_pos rfl]at h
   cases h
   have h1:=hs.1
   split at h1
   ·rename_i b1 no;exact⟨b1,no,h1⟩
   ·exact h1.elim
  ·rw[if_neg e]at h;exact EK.look hs.2 h
theorem A7{E:Env}{n m:Nat}{σ σ':St}(h0:E.n0=m)(hm:Nat.ble m σ'.nx=true)(hs:HG σ σ'.hp σ'.sl)(hh:EK σ σ'.hp σ'.hp)(hn:Nat.ble σ'.nx σ.nx=true)(hl:Rr σ'.nx σ'.sl=true)(hb:K8 σ'.nx σ'.hp=true):St.le E n σ σ':=by
 rintro a w ⟨θ,h⟩
 refine⟨θ,h.cv (h0▸Nat.ble_eq▸hm) (fun s x' hx=>?_) (fun i b' hi=>?_)⟩
 ·have:=HG.look hs hx
  rw[Option.map_eq_some_iff]at this
  obtain⟨x,h1,h2⟩:=this
  exact⟨x,h1,h2,.inr (PT hl hx)⟩
 ·obtain⟨b0,h1,h2⟩:=EK.look hh hi
  obtain⟨h3,h4⟩:=CE hb hi
  exact⟨.inr h3,b0,h1,h2,.inr h4⟩
def AY(f:AV→AV):List (Nat×AV)→List (Nat×AV)
 |[]=>[]
 |(s,x)::r=>(s,f x)::AY f r
def Af(i:Nat):Hp→Hp
 |[]=>[]
 |(k,b)::r=>cond (Nat.beq k i) (Af i r) ((k,b)::Af i r)
def FZ(f:AV→AV):Hp→Hp
 |[]=>[]
 |(k,some (.bx τ l))::r=>(k,some (.bx τ (l.map f)))::FZ f r
 |(k,b)::r=>(k,b)::FZ f r
theorem CX(f:AV→AV):∀(l:List (Nat×AV)) (s:Nat),look (AY f l) s=(look l s).map f
 |[],s=>rfl
 |(k,x)::r,s=>by
  simp only[AY,E9]
  by_cases e:k=s
  ·simp[e]
  ·simp[e,CX f r s]
theorem CY(i:Nat):∀(l:Hp) (j:Nat),A5 (Af i l) j=if i=j then none else A5 l j
 |[],j=>by simp[Af,A5,look]
 |(k,b)::r,j=>by
  simp only[Af]
  cases h:Nat.beq k i with
  |true =>
   have:=Nat.eq_of_beq_eq_true h
   subst this
   rw[cond_true,CY k r j,G4]
   by_cases e:k=j<;>simp[e]
  |false =>
   have hne:k≠i:=by intro e;subst e;simp at h
   rw[cond_false,G4,G4,CY i r j]
   by_cases e:k=j
   ·subst e;simp[Ne.symm hne]
   ·simp[e]
def Dx(f:AV→AV):C4→C4
 |.bx τ l=>.bx τ (l.map f)
 |b=>b
theorem GD(f:AV→AV):∀(l:Hp) (j:Nat),A5 (FZ f l) j=(A5 l j).map (Dx f)
 |[],j=>by simp[FZ,A5,look]
 |(k,b)::r,j=>by
  have:FZ f ((k,b)::r)=(k,b.map (Dx f))::FZ f r:=by
   cases b with
   |none=>rfl
   |some b=>cases b<;>rfl
  rw[this,G4,G4,GD f r j]
  by_cases e:k=j<;>simp[e]
def St.frz(σ:St)(i:Nat):St :=
 let h':=Af i σ.hp
 { sl:=AY (J0 σ.hp h') σ.sl,nx:=σ.nx,hp:=FZ (J0 σ.hp h') h' }
theorem Ud{h h1 h2:Hp}(e:∀j,(A5 h2 j)=(A5 h1 j).map (Dx (J0 h h1)))(i v len:Nat):Jp h h2 i v len=Jp h h1 i v len:=by
 unfold Jp
 rw[e i]
 cases A5 h1 i with
 |none=>rfl
 |some b=>cases b<;>rfl
theorem Ue{h h1 h2:Hp}(e:∀j,(A5 h2 j)=(A5 h1 j).map (Dx (J0 h h1)))(i v k off:Nat):Jq h h2 i v k off=Jq h h1 i v k off:=by
 unfold Jq
 rw[e i]
 cases A5 h1 i with
 |none=>rfl
 |some b=>cases b<;>rfl
theorem Uf{h h1 h2:Hp}(e:∀j,(A5 h2 j)=(A5 h1 j).map (Dx (J0 h h1)))(i v k off:Nat):Jr h h2 i v k off=Jr h h1 i v k off:=by
 unfold Jr
 rw[e i]
 cases A5 h1 i with
 |none=>rfl
 |some b=>cases b<;>rfl
theorem Ug{h h1 h2:Hp}(e:∀j,(A5 h2 j)=(A5 h1 j).map (Dx (J0 h h1)))(i off:Nat):Md h h2 i off=Md h h1 i off:=by
 unfold Md
 rw[e i]
 cases A5 h1 i with
 |none=>rfl
 |some b=>cases b<;>rfl
mutual
theorem Ie{h h1 h2:Hp}(e:∀j,(A5 h2 j)=(A5 h1 j).map (Dx (J0 h h1))):∀a,J0 h h2 a=J0 h h1 a
 |.row i v len=>by simp only[J0];exact Ud e i v len
 |.elt i v k off=>by simp only[J0];exact Ue e i v k off
 |.sub i v k off=>by simp only[J0];exact Uf e i v k off
 |.ref i off=>by simp only[J0];exact Ug e i off
 |.agg l=>by simp only[J0];rw[CF e l]
 |.tup l=>by simp only[J0];rw[CF e l]
 |.fo f l=>by simp only[J0];rw[CF e l]
 |.any=>rfl
 |.v _=>rfl
 |.str _=>rfl
 |.iptr _=>rfl
 |.sl _ _=>rfl
 |.mp _=>rfl
 |.fn _ _=>rfl
 |.err=>rfl
 |.own _ _ _=>rfl
theorem CF{h h1 h2:Hp}(e:∀j,(A5 h2 j)=(A5 h1 j).map (Dx (J0 h h1))):∀l,CD h h2 l=CD h h1 l
 |[]=>rfl
 |x::r=>by simp only[CD];rw[Ie e x,CF e r]
end
theorem Et{E:Env}{n:Nat}{σ:St}(i:Nat):St.le E n σ (σ.frz i):=by
 rintro a w ⟨θ,h⟩
 have e:∀j,A5 (σ.frz i).hp j=(A5 (Af i σ.hp) j).map (Dx (J0 σ.hp (Af i σ.hp))):=fun j=>GD _ _ _
 refine⟨θ,h.cv h.base.1 (fun s x' hx=>?_) (fun j b' hj=>?_)⟩
 ·have oz:(look σ.sl s).map (J0 σ.hp (Af i σ.hp))=some x':=by rw[←CX];exact hx
  rw[Option.map_eq_some_iff]at oz
  obtain⟨x,h1,h2⟩:=oz
  exact⟨x,h1,by rw[Ie e];exact h2,.inl (Nat.le_refl _)⟩
 ·refine⟨.inl (Nat.le_refl _),?_⟩
  rw[e j,Option.map_eq_some_iff]at hj
  obtain⟨b,hb,rfl⟩:=hj
  rw[CY]at hb
  split at hb
  ·cases hb
  ·refine⟨b,hb,?_,.inl (Nat.le_refl _)⟩
   cases b with
   |bx τ l=>simp only[FY,Dx,CF e,Q3]
   |row e sz v l=>exact⟨v,rfl⟩
   |map m=>rfl
   |it _ _=>rfl
def CZ:List Nat→Hp→Hp
 |[],h=>h
 |i::r,h=>CZ r (Af i h)
theorem Kc:∀(is:List Nat) (h:Hp) (j:Nat),A5 (CZ is h) j=none∨A5 (CZ is h) j=A5 h j
 |[],h,j=>.inr rfl
 |i::r,h,j=>by
  rcases Kc r (Af i h) j with e|e
  ·exact .inl e
  ·rw[CZ,e,CY]
   by_cases qq:i=j
   ·exact .inl (by rw[if_pos qq])
   ·exact .inr (by rw[if_neg qq])
mutual
def Fa:AV→Bool
 |.v _|.str _|.err=>true
 |.agg l|.tup l=>Me l
 |.sl _ []=>true
 |_=>false
def Me:List AV→Bool
 |[]=>true
 |x::r=>Fa x && Me r
end
theorem HH:∀{l:List AV},Me l=true→∀x∈l,Fa x=true
 |[],_,x,hx=>by cases hx
 |y::r,h,x,hx=>by
  simp only[Me,Bool.and_eq_true]at h
  rcases List.mem_cons.1 hx with rfl|hx
  ·exact h.1
  ·exact HH h.2 x hx
theorem fQ{U U':Nat→Prop}{w:World}{a:AV}{v:Value}(h:Im U w a v):Fa a=true→Im U' w a v:=by
 induction h with
 |v x=>intro _;exact .v x
 |str l=>intro _;exact .str l
 |agg l cs hl h ih=>intro hf;exact .agg l cs hl fun j x c hx hc=>ih j x c hx hc (HH (by simpa [Fa]using hf) x (List.mem_of_getElem? hx))
 |tup l cs hl h ih=>intro hf;exact .tup l cs hl fun j x c hx hc=>ih j x c hx hc (HH (by simpa [Fa]using hf) x (List.mem_of_getElem? hx))
 |fn f l cs hl h ih=>intro hf;cases hf
 |iptr l a f hu hc h ih=>intro hf;cases hf
 |err t p=>intro _;exact .err t p
 |any x=>intro _;exact .any x
 |own e sz l x=>intro _;exact .own e sz l x
 |slnil sz=>intro _;exact .slnil sz
 |sl sz l a cap f nK hm hu hsz hc h ih =>
  intro hf
  cases l with
  |nil=>exact .sl sz [] a cap f nK hm (fun h=>absurd rfl h) hsz hc (fun i e he=>by simp at he)
  |cons x r=>cases hf
theorem Rs{P:Program}{E:Env}{nx:Nat}{hp:Hp}{ev:Operand→Option AV}{ty:TypeId}{f:Nat}{xs:List Operand}{args caps L:List AV}{r:AV}{ts:Array TypeId}{g:Operand}(is:List Nat)(hc:A3 P f (L++caps) r)(ha:m4 ev xs=some args)
  (hL:CD hp (CZ is hp) args=L) (mf:I9 L=true) (nV:Fa r=true)
  (hg:∀θ a w,v8 E θ nx hp ev a w→∃cs:List Value,a.eval g=.func (.func f) #[] cs.toArray∧caps.length=cs.length∧∀(j:Nat) x c,caps[j]?=some x→cs[j]?=some c→Im (kx E θ nx hp w).U w x c) :
  G7 P E nx hp ev (.call ⟨.value g,xs.toArray,ts⟩) ty r:=by
 intro d pos after θ a w K hs hk
 obtain⟨hl,hr⟩:=Bk hs xs args ha
 obtain⟨cs,pK,oy,nr⟩:=hg θ a w hs
 unfold IU
 rw[Rf hc.1 pK]
 let h':=CZ is hp
 let H:=FZ (J0 hp h') h'
 have e:∀j,A5 H j=(A5 h' j).map (Dx (J0 hp h')):=fun j=>GD _ _ _
 have sub:(kx E θ nx hp w).sub (kx E θ nx H w):=⟨rfl,rfl,fun _ h=>h,fun j b' hj=>by
  have mi:A5 H j=some b':=hj
  rw[e j,Option.map_eq_some_iff]at mi
  obtain⟨b,hb,rfl⟩:=mi
  rcases Kc is hp j with h|h
  ·have oW:A5 (CZ is hp) j=some b:=hb
   rw[h]at oW;cases oW
  ·have oW:A5 (CZ is hp) j=some b:=hb
   rw[h]at oW
   refine⟨b,oW,?_⟩
   cases b with
   |bx τ l=>simp only[FY,Dx,kx,CF e,Q3]
   |row e sz v l=>exact⟨v,rfl⟩
   |map m=>rfl
   |it _ _=>rfl,hs.apart,hs.fresh,fun i b hi=>(hs.owns i b hi).2⟩
 have hX:=hc.2 (kx E θ nx H w).U w (xs.map a.eval++cs) (fun k hk=>hs.Ult k (sub.U k hk)) (hs.tab.mono (fun k _ hk=>sub.U k hk) fun _ _ _=>rfl) (by simp only[List.length_append,←hL,Q3,List.length_map,hl,oy]) fun j av v hj hv=>by
  have yn:L.length=xs.length:=by rw[←hL,Q3,List.length_map,hl]
  rw[List.getElem?_append]at hj hv
  have e1:(xs.map a.eval).length=L.length:=by simp[yn]
  rw[e1]at hv
  split at hj
  ·rename_i mM
   rw[if_pos mM]at hv
   have sv:=U2 mf av (List.mem_of_getElem? hj)
   rw[←hL,Q3,List.getElem?_map,Option.map_eq_some_iff]at hj
   obtain⟨a0,zb,rfl⟩:=hj
   have h1:=Id sub (hr j a0 v zb hv) (.inl (Nat.le_refl _))
   have h2:J0 (kx E θ nx hp w).hp (kx E θ nx H w).hp a0=J0 hp (CZ is hp) a0:=Ie (h:=hp) (h1:=h') (h2:=H) e a0
   rw[h2]at h1
   exact sv.im h1
  ·rename_i mM
   rw[if_neg mM]at hv
   exact sub.im (nr _ av v hj hv)
 rw[←List.append_toArray]at hX
 refine Calls.mono hX ?_
 rintro e w' ⟨v,rfl,hv,hb⟩
 exact⟨v,rfl,hk v w' hb (.im (fQ hv nV))⟩
structure G5(p A:Prop):Prop where
 h:p
 k:A
structure Q1{α:Type}(l:List α)(i:Int)(F:α→Prop):Prop where
 h0:0≤i
 h:i<l.length
 k:∀el,l[i.toNat]?=some el→F el
structure ix(a:AV)(F:AV→Prop):Prop where
 h:F a
theorem RB{a b:AV}{F:AV→Prop}(e:a=b)(h:F b):ix a F:=⟨e▸h⟩
structure ON{α:Type}(l:List α)(F:Nat→Prop):Prop where
 k:F l.length
structure Bf(b:Bool)(A B:Prop):Prop where
 t:b=true→A
 f:b=false→B
structure RC(P:Program)(f:Nat)(args:List AV)(F:AV→Prop):Prop where
 h:∃r,A3 P f args r∧F r
structure ko(P:Program)(f:Nat)(hp:Hp)(l caps:List AV)(F:AV→Prop):Prop where
 h:∃(is:List Nat) (L:List AV) (r:AV),CD hp (CZ is hp) l=L∧I9 L=true∧A3 P f (L++caps) r∧Fa r=true∧F r
structure LT(P:Program)(T:Nat)(F:Bool→Nat→Prop):Prop where
 h:∃ag sz,G6 P T ag sz∧F ag sz
structure Wv(P:Program)(T:Nat)(F:List AV→Prop):Prop where
 h:∃l,H9 P T l∧F (l.map g8)
structure OO(P:Program)(S f:Nat)(F:Nat→Nat→Prop):Prop where
 h:∃off sz,D8 P S f off sz∧F off sz
structure IG(P:Program)(T:Nat)(F:Nat→Nat→Prop):Prop where
 h:∃e sz,L3 P T e sz∧F e sz
structure bn(P:Program)(T:Nat)(F:Nat→Nat→Prop):Prop where
 h:∃len e sz,LP P T len e sz∧F len sz
structure ep(P:Program)(T:Nat)(A:Prop):Prop where
 [h:Yv P T]
 k:A
structure DZ(P:Program)(T:Nat)(A:Prop):Prop where
 h:j8 P T
 k:A
structure GY(P:Program)(T:Nat)(A:Prop):Prop where
 h:Ek P T
 k:A
structure Mf(P:Program)(T:Nat)(k1 k2:IntKind)(A:Prop):Prop where
 h:HA P T k1 k2
 k:A
structure HI(P:Program)(T:Nat)(k:IntKind)(A:Prop):Prop where
 h:Ef P T k
 k:A
structure Mg(P:Program)(T:Nat)(k1 k2 k3:IntKind)(A:Prop):Prop where
 h:Jo P T k1 k2 k3
 k:A
structure Mh(P:Program)(T:Nat)(A:Prop):Prop where
 h:Jn P T
 k:A
structure Ig(P:Program)(T:Nat)(F:List AV→List (Nat×Nat)→Prop):Prop where
 h:∃zs pl,H9 P T zs∧K7 P T pl∧F (zs.map g8) pl
structure Eu(P:Program)(T:Nat)(F:Nat→Nat→Nat→List AV→Prop):Prop where
 h:∃e sz bs z,L3 P T e sz∧H9 P e z∧M5 P e bs∧z.length=sz∧F e sz bs (z.map g8)
structure Ww(P:Program)(T:Nat)(F:TypeDesc→AV→Prop):Prop where
 h:∃k e t z,EJ P T k e t z∧F t (g8 z)
inductive Mi (P:Program) (S T:Nat):AV→AV→Prop
 |bytes {e sz:Nat} (l:List UInt8) [j8 P S] [L3 P T e sz] [S4 P e .u8] (h:l.length≤9223372036854775807):Mi P S T (.str l) (.sl 1 (l.map fun b=>[.v (.int .u8 b.toNat)]))
 |back {e sz:Nat} (l:List UInt8) [L3 P S e sz] [S4 P e .u8] [j8 P T]:Mi P S T (.sl 1 (l.map fun b=>[.v (.int .u8 b.toNat)])) (.str l)
 |int {k k':IntKind} (m:Int) [S4 P T k] [S4 P S k']:Mi P S T (.v (.int k' m)) (.v (.int k (k.wrap m)))
 |rune {k:IntKind} (m:Int) [S4 P S k] [j8 P T]:Mi P S T (.v (.int k m)) (.str (Utf8.encode m).data.toList)
structure BA(P:Program)(S T:Nat)(a:AV)(F:AV→Prop):Prop where
 h:∃r,Mi P S T a r∧F r
theorem I6{p A:Prop}(h:p)(k:A):G5 p A:=⟨h,k⟩
theorem Ag{α β:Type}{l:List β}{f:β→α}{k:Nat}{F:α→Prop}(h:k<l.length)(kk:∀x,l[k]?=some x→F (f x)):Q1 (l.map f) (k:Int) F :=
 ⟨by omega,by simpa using h,fun el mI=>by
  simp at mI
  obtain⟨u,hu,rfl⟩:=mI
  exact kk u hu⟩
theorem o9{α β:Type}{l:List β}{f:β→α}{i:Int}{F:α→Prop}(h0:0≤i)(h:i<l.length)(kk:∀x,l[i.toNat]?=some x→F (f x)):Q1 (l.map f) i F :=
 ⟨h0,by simpa using h,fun el mI=>by
  simp at mI
  obtain⟨u,hu,rfl⟩:=mI
  exact kk u hu⟩
theorem ZM{α:Type}{l:List α}{i:Int}{F:α→Prop}(h0:0≤i)(h:i<l.length)(kk:∀x,l[i.toNat]?=some x→F x):Q1 l i F:=⟨h0,h,kk⟩
theorem EL{α:Type}{l:List α}{i:Int}{x:α}{F:α→Prop}(h:l[i.toNat]?=some x)(h0:0≤i)(kk:F x):Q1 l i F:=by
 have h1:=(List.getElem?_eq_some_iff.1 h).1
 exact⟨h0,by omega,fun el mI=>by rw[h]at mI;cases mI;exact kk⟩
theorem A2{α β:Type}{l:List β}{f:β→α}{i:Int}{x:β}{F:α→Prop}(h:l[i.toNat]?=some x)(h0:0≤i)(kk:F (f x)):Q1 (l.map f) i F :=
 EL (by simp[h]) h0 kk
theorem fR{α:Type}{l:List α}{i:Int}{x:α}{F:α→Prop}(h:l[i.toNat]?=some x)(h0:decide (0≤i)=true)(kk:F x):Q1 l i F:=by
 have h1:=(List.getElem?_eq_some_iff.1 h).1
 have h2:=of_decide_eq_true h0
 exact⟨h2,by omega,fun el mI=>by rw[h]at mI;cases mI;exact kk⟩
theorem fS{α β:Type}{l:List β}{f:β→α}{F:Nat→Prop}(k:F l.length):ON (l.map f) F:=⟨by rw[List.length_map];exact k⟩
theorem kp{α:Type}{l:List α}{F:Nat→Prop}(k:F l.length):ON l F:=⟨k⟩
theorem iy{A B:Prop}(k:A):Bf true A B:=⟨fun _=>k,fun h=>by cases h⟩
theorem iz{A B:Prop}(k:B):Bf false A B:=⟨(fun h=>by cases h),fun _=>k⟩
theorem jA{p A B:Prop}[Decidable p](h1:p→A)(h2:¬p→B):Bf (decide p) A B:=⟨fun h=>h1 (of_decide_eq_true h),fun h=>h2 (of_decide_eq_false h)⟩
theorem fT{p A B:Prop}[Decidable p](h1:¬p→A)(h2:p→B):Bf (!decide p) A B:=⟨fun h=>h1 (by simpa using h),fun h=>h2 (by simpa using h)⟩
theorem jB{b:Bool}{A B:Prop}(h1:b=true→A)(h2:b=false→B):Bf b A B:=⟨h1,h2⟩
theorem fU{b:Bool}{A B:Prop}(h1:b=false→A)(h2:b=true→B):Bf (!b) A B:=⟨(fun h=>h1 (by simpa using h)),fun h=>h2 (by simpa using h)⟩
theorem A0{P:Program}{f:Nat}{args:List AV}{r:AV}{F:AV→Prop}(h:A3 P f args r)(k:F r):RC P f args F:=⟨⟨r,h,k⟩⟩
theorem kq{P:Program}{T:Nat}{ag:Bool}{sz:Nat}{F:Bool→Nat→Prop}[h:G6 P T ag sz](k:F ag sz):LT P T F:=⟨⟨ag,sz,h,k⟩⟩
theorem jC{P:Program}{T:Nat}{l:List Value}{F:List AV→Prop}[h:H9 P T l](k:F (l.map g8)):Wv P T F:=⟨⟨l,h,k⟩⟩
theorem kr{P:Program}{S f off sz:Nat}{F:Nat→Nat→Prop}[h:D8 P S f off sz](k:F off sz):OO P S f F:=⟨⟨off,sz,h,k⟩⟩
theorem lY{P:Program}{T e sz:Nat}{F:Nat→Nat→Prop}[h:L3 P T e sz](k:F e sz):IG P T F:=⟨⟨e,sz,h,k⟩⟩
theorem ku{P:Program}{T len e sz:Nat}{F:Nat→Nat→Prop}[h:LP P T len e sz](k:F len sz):bn P T F:=⟨⟨len,e,sz,h,k⟩⟩
theorem lZ{P:Program}{T:Nat}{A:Prop}[h:Yv P T](k:A):ep P T A:=⟨k⟩
theorem jD{P:Program}{T:Nat}{A:Prop}[h:j8 P T](k:A):DZ P T A:=⟨h,k⟩
theorem fV{P:Program}{T:Nat}{A:Prop}[h:Ek P T](k:A):GY P T A:=⟨h,k⟩
theorem kv{P:Program}{T:Nat}{k:IntKind}{A:Prop}[h:Ef P T k](kk:A):HI P T k A:=⟨h,kk⟩
theorem fW{P:Program}{T:Nat}{k1 k2 k3:IntKind}{A:Prop}[h:Jo P T k1 k2 k3](k:A):Mg P T k1 k2 k3 A:=⟨h,k⟩
theorem fX{P:Program}{T:Nat}{k1 k2:IntKind}{A:Prop}[h:HA P T k1 k2](k:A):Mf P T k1 k2 A:=⟨h,k⟩
theorem fY{P:Program}{T:Nat}{A:Prop}[h:Jn P T](k:A):Mh P T A:=⟨h,k⟩
theorem fZ{P:Program}{T:Nat}{zs:List Value}{pl:List (Nat×Nat)}{F:List AV→List (Nat×Nat)→Prop}[h:H9 P T zs][h2:K7 P T pl](k:F (zs.map g8) pl):Ig P T F:=⟨⟨zs,pl,h,h2,k⟩⟩
theorem kw{P:Program}{T e sz bs:Nat}{z:List Value}{F:Nat→Nat→Nat→List AV→Prop}[h:L3 P T e sz][h2:H9 P e z][h3:M5 P e bs](hz:z.length=sz)(k:F e sz bs (z.map g8)):Eu P T F:=⟨⟨e,sz,bs,z,h,h2,h3,hz,k⟩⟩
theorem ky{P:Program}{T k e:Nat}{t:TypeDesc}{z:Value}{F:TypeDesc→AV→Prop}[h:EJ P T k e t z](kk:F t (g8 z)):Ww P T F:=⟨⟨k,e,t,z,h,kk⟩⟩
theorem Wx{P:Program}{S T e sz:Nat}{l:List UInt8}{F:AV→Prop}[j8 P S][L3 P T e sz][S4 P e .u8](h:l.length≤9223372036854775807)(k:F (.sl 1 (l.map fun b=>[.v (.int .u8 b.toNat)]))):BA P S T (.str l) F:=⟨⟨_,.bytes (e:=e) (sz:=sz) l h,k⟩⟩
theorem ZN{P:Program}{S T e sz:Nat}{l:List UInt8}{F:AV→Prop}[L3 P S e sz][S4 P e .u8][j8 P T](k:F (.str l)):BA P S T (.sl 1 (l.map fun b=>[.v (.int .u8 b.toNat)])) F:=⟨_,.back (e:=e) (sz:=sz) l,k⟩
theorem fa{P:Program}{S T:Nat}{k k':IntKind}{m:Int}{F:AV→Prop}[S4 P T k][S4 P S k'](h:k.wrap m=m)(kk:F (.v (.int k m))):BA P S T (.v (.int k' m)) F:=⟨⟨_,.int (k:=k) m,by rw[h];exact kk⟩⟩
theorem bo{P:Program}{S T:Nat}{k k':IntKind}{m:Int}{F:AV→Prop}[S4 P T k][S4 P S k'](kk:F (.v (.int k (k.wrap m)))):BA P S T (.v (.int k' m)) F:=⟨⟨_,.int (k:=k) m,kk⟩⟩
theorem ZO{P:Program}{S T:Nat}{k:IntKind}{m:Int}{F:AV→Prop}[S4 P S k][j8 P T](kk:F (.str (Utf8.encode m).data.toList)):BA P S T (.v (.int k m)) F:=⟨⟨_,.rune (k:=k) m,kk⟩⟩
theorem cond_false{c:Bool}{A:Prop}(h:cond c A False):c=true∧A:=by
 cases c
 ·exact h.elim
 ·exact⟨rfl,h⟩
def Wy:Value→Bool
 |.agg _|.tuple _=>false
 |_=>true
theorem Ih{v:Value}(h:Wy v=true):v.oneCell'=true:=by cases v<;>first|rfl|cases h
def Rt(hp:Hp)(a:AV)(A:Prop):Prop :=
 match a with
 |.v x=>cond (Wy x) A False
 |.str _|.sl _ _|.iptr _|.ref _ _|.mp _|.fn _ _|.fo _ _=>A
 |.row i ver _=>match A5 hp i with
  |some (.row _ _ v' _)=>G5 (ver=v') A
  |_=>False
 |_=>False
theorem Ii{hp:Hp}{a:AV}{A:Prop}(h:Rt hp a A):One hp a∧A:=by
 unfold Rt at h
 split at h
 ·rename_i x
  obtain⟨h1,h2⟩:=cond_false h
  exact⟨One.v (Ih h1),h2⟩
 ·exact⟨.str _,h⟩
 ·exact⟨.sl _ _,h⟩
 ·exact⟨.iptr _,h⟩
 ·exact⟨.ref _ _,h⟩
 ·exact⟨.mp _,h⟩
 ·exact⟨.fn _ _,h⟩
 ·exact⟨.fo _ _,h⟩
 ·split at h
  ·rename_i hl
   obtain⟨rfl,h⟩:=h
   exact⟨.row hl,h⟩
  ·exact h.elim
 ·exact h.elim
def Wz(hp:Hp):List AV→Prop→Prop
 |[],A=>A
 |x::r,A=>Rt hp x (Wz hp r A)
theorem Mj{hp:Hp}:∀{l:List AV} {A:Prop},Wz hp l A→Ep hp l∧A
 |[],A,h=>⟨trivial,h⟩
 |x::r,A,h=>by
  obtain⟨h1,h2⟩:=Ii h
  obtain⟨h3,h4⟩:=Mj h2
  exact⟨⟨h1,h3⟩,h4⟩
def Ru(hp:Hp)(a:AV)(A:Prop):Prop :=
 match a with
 |.agg _=>A
 |a=>Rt hp a A
theorem Ij{hp:Hp}{a:AV}{A:Prop}(h:Ru hp a A):Fits hp a∧A:=by
 unfold Ru at h
 split at h
 ·exact⟨trivial,h⟩
 ·rename_i hn
  obtain⟨h1,h2⟩:=Ii h
  refine⟨?_,h2⟩
  cases a<;>first|exact h1|exact trivial
def Dn(hp:Hp):List (Nat×AV)→Prop→Prop
 |[],A=>A
 |(_,a)::r,A=>Ru hp a (Dn hp r A)
theorem p7{hp:Hp}:∀{l:List (Nat×AV)} {A:Prop},Dn hp l A→DX hp l∧A
 |[],A,h=>⟨trivial,h⟩
 |(_,x)::r,A,h=>by
  obtain⟨h1,h2⟩:=Ij h
  obtain⟨h3,h4⟩:=p7 h2
  exact⟨⟨h1,h3⟩,h4⟩
def jE(a:AV)(A:Prop):Prop :=
 match a with
 |.v x=>cond (Wy x) A False
 |.str _|.sl _ _|.iptr _|.fn _ _=>A
 |_=>False
theorem bp{a:AV}{A:Prop}(h:jE a A):c9 a∧A:=by
 unfold jE at h
 split at h
 ·obtain⟨h1,h2⟩:=cond_false h
  exact⟨Ih h1,h2⟩
 ·exact⟨trivial,h⟩
 ·exact⟨trivial,h⟩
 ·exact⟨trivial,h⟩
 ·exact⟨trivial,h⟩
 ·exact h.elim
def bq:List AV→Prop→Prop
 |[],A=>A
 |x::r,A=>jE x (bq r A)
def Mk:List (List AV)→Prop→Prop
 |[],A=>A
 |x::r,A=>bq x (Mk r A)
theorem PU:∀{l:List AV} {A:Prop},bq l A→(∀u∈l,c9 u)∧A
 |[],A,h=>⟨fun u hu=>by (cases hu),h⟩
 |x::r,A,h=>by
  obtain⟨h1,h2⟩:=bp h
  obtain⟨h3,h4⟩:=PU h2
  refine⟨fun u hu=>?_,h4⟩
  rcases List.mem_cons.1 hu with rfl|hu
  ·exact h1
  ·exact h3 u hu
theorem EM:∀{l:List (List AV)} {A:Prop},Mk l A→Bl l∧A
 |[],A,h=>⟨trivial,h⟩
 |x::r,A,h=>by
  obtain⟨h1,h2⟩:=PU h
  obtain⟨h3,h4⟩:=EM h2
  exact⟨⟨h1,h3⟩,h4⟩
def Y5(x:Option AV)(F:AV→Prop):Prop :=
 match x with
 |some a=>F a
 |none=>False
theorem J8{x:Option AV}{F:AV→Prop}(h:Y5 x F):∃a,x=some a∧F a:=by
 unfold Y5 at h
 split at h
 ·exact⟨_,rfl,h⟩
 ·exact h.elim
def Rv(op:BinOp)(k:IntKind)(a b:Int)(F:AV→Prop):Prop :=
 match op,k with
 |.add,.i64=>G5 (-9223372036854775808≤a+b∧a+b≤9223372036854775807) (F (.v (.int .i64 (a+b))))
 |.sub,.i64=>G5 (-9223372036854775808≤a-b∧a-b≤9223372036854775807) (F (.v (.int .i64 (a-b))))
 |.mul,.i64=>G5 (-9223372036854775808≤a*b∧a*b≤9223372036854775807) (F (.v (.int .i64 (a*b))))
 |.quo,.i64=>G5 (b≠0∧-9223372036854775808≤a.tdiv b∧a.tdiv b≤9223372036854775807) (F (.v (.int .i64 (a.tdiv b))))
 |.quo,k=>G5 (b≠0) (F (.v (.int k (k.wrap (a.tdiv b)))))
 |.rem,k=>G5 (b≠0) (F (.v (.int k (a.tmod b))))
 |op,k=>match CU op k a b with
  |some r=>F (.v r)
  |none=>False
def br(op:BinOp)(a b:List UInt8)(F:AV→Prop):Prop :=
 match op with
 |.add=>G5 (a.length+b.length≤9223372036854775807) (F (.str (a++b)))
 |op=>match Wn op a b with
  |some r=>F (.v r)
  |none=>False
def XA(P:Program)(T:Nat)(op:BinOp)(a b:Bool)(F:AV→Prop):Prop :=
 match op with
 |.eql=>Mh P T (F (.v (.bool (decide (a=b)))))
 |.neq=>Mh P T (F (.v (.bool (decide (a≠b)))))
 |_=>False
def P2(P:Program)(T:Nat)(op:BinOp)(l m:List AV)(F:AV→Prop):Prop :=
 match op,l,m with
 |.eql,[.v (.int k1 a1),.v (.int k2 a2)],[.v (.int k3 b1),.v (.int k4 b2)]=>cond (decide (k1=k3∧k2=k4)) (Mf P T k1 k2 (F (.v (.bool (decide (a1=b1∧a2=b2)))))) False
 |.neq,[.v (.int k1 a1),.v (.int k2 a2)],[.v (.int k3 b1),.v (.int k4 b2)]=>cond (decide (k1=k3∧k2=k4)) (Mf P T k1 k2 (F (.v (.bool (!decide (a1=b1∧a2=b2)))))) False
 |.eql,[.v (.int k1 a1),.v (.int k2 a2),.v (.int k3 a3)],[.v (.int l1 b1),.v (.int l2 b2),.v (.int l3 b3)]=>cond (decide (k1=l1∧k2=l2∧k3=l3)) (Mg P T k1 k2 k3 (F (.v (.bool (decide (a1=b1∧a2=b2∧a3=b3)))))) False
 |.neq,[.v (.int k1 a1),.v (.int k2 a2),.v (.int k3 a3)],[.v (.int l1 b1),.v (.int l2 b2),.v (.int l3 b3)]=>cond (decide (k1=l1∧k2=l2∧k3=l3)) (Mg P T k1 k2 k3 (F (.v (.bool (!decide (a1=b1∧a2=b2∧a3=b3)))))) False
 |.eql,[.str a1,.v (.int k2 a2)],[.str b1,.v (.int k4 b2)]=>cond (decide (k2=k4)) (HI P T k2 (F (.v (.bool (decide (a1=b1∧a2=b2)))))) False
 |.neq,[.str a1,.v (.int k2 a2)],[.str b1,.v (.int k4 b2)]=>cond (decide (k2=k4)) (HI P T k2 (F (.v (.bool (!decide (a1=b1∧a2=b2)))))) False
 |_,_,_=>False
def Ml:Operand→Bool
 |.const .nilIface=>true
 |_=>false
def Rw(P:Program)(T:Nat)(op:BinOp)(x:Option AV)(F:AV→Prop):Prop :=
 match op,x with
 |.eql,some .err=>GY P T (F (.v (.bool false)))
 |.neq,some .err=>GY P T (F (.v (.bool true)))
 |.eql,some (.v .nilIface)=>GY P T (F (.v (.bool true)))
 |.neq,some (.v .nilIface)=>GY P T (F (.v (.bool false)))
 |_,_=>False
def Rx(P:Program)(T:Nat)(op:BinOp)(x y:Option AV)(F:AV→Prop):Prop :=
 match op,x,y with
 |.shl,some (.v (.int k a)),some (.v (.int _ b))=>G5 (0≤b) (F (.v (.int k (k.wrap (a*2 ^ (min b.toNat k.bits))))))
 |.shr,some (.v (.int k a)),some (.v (.int _ b))=>G5 (0≤b) (F (.v (.int k (a.fdiv (2 ^ (min b.toNat k.bits))))))
 |op,some (.v (.int k a)),some (.v (.int k' b))=>cond (decide (k=k')) (Rv op k a b F) False
 |op,some (.str s),some (.str t)=>br op s t F
 |op,some (.v (.bool a)),some (.v (.bool b))=>XA P T op a b F
 |op,some (.agg l),some (.agg m)=>P2 P T op l m F
 |_,_,_=>False
def Mm(P:Program)(T:Nat)(hp:Hp)(x:Option AV)(F:AV→Prop):Prop :=
 match x with
 |some (.ref i off)=>match A5 hp i with
  |some (.bx τ l)=>LT P T fun ag sz=>cond ag
    (cond (Nat.beq off 0 && Nat.beq l.length sz) (F (.agg l)) (G5 (((l.drop off).take sz).length=sz) (F (.agg ((l.drop off).take sz)))))
    (Y5 (l[off]?) F)
  |_=>False
 |some (.iptr l)=>LT P T fun ag sz=>cond ag
   (cond (Nat.beq l.length sz) (F (.agg l)) (G5 ((l.take sz).length=sz) (F (.agg (l.take sz)))))
   (match l with|av::_=>F av|[]=>False)
 |some (.elt i ver k off)=>match A5 hp i with
  |some (.row _ sz mz l)=>G5 (ver=mz) (Q1 l (k:Int) fun el=>LT P T fun ag szT=>cond ag
    (cond (Nat.beq off 0 && Nat.beq szT sz) (F (.agg el)) False) (Y5 (el[off]?) F))
  |_=>False
 |_=>False
def Ry(hp:Hp)(off:Nat)(x:Option AV)(F:AV→Prop):Prop :=
 match x with
 |some (.ref i o)=>F (.ref i (o+off))
 |some (.iptr l)=>F (.iptr (l.drop off))
 |some (.elt i ver k o)=>match A5 hp i with
  |some (.row _ _ mz _)=>G5 (ver=mz) (F (.elt i ver k (o+off)))
  |_=>False
 |_=>False
def Ik(P:Program)(T:Nat)(hp:Hp)(x y:Option AV)(F:AV→Prop):Prop :=
 match x,y with
 |some (.sl sz l),some (.v (.int _ i))=>IG P T fun _ mP=>cond (Nat.beq sz mP) (Q1 l i fun el=>F (.iptr el)) False
 |some (.row r ver len),some (.v (.int _ i))=>match A5 hp r with
  |some (.row _ sz mz _)=>G5 (ver=mz) (IG P T fun _ mP=>cond (Nat.beq sz mP) (G5 (0≤i∧i<len) (F (.elt r ver i.toNat 0))) False)
  |_=>False
 |some (.ref r o),some (.v (.int _ i))=>bn P T fun len sz=>G5 (0≤i∧i<len) (F (.ref r (o+i.toNat*sz)))
 |_,_=>False
def bu(hp:Hp)(x:Option AV)(F:AV→Prop):Prop :=
 match x with
 |some (.ref i o)=>F (.ref i o)
 |some (.iptr l)=>F (.iptr l)
 |some (.elt i ver k o)=>match A5 hp i with
  |some (.row _ _ mz _)=>G5 (ver=mz) (F (.elt i ver k o))
  |_=>False
 |_=>False
def HJ(P:Program)(T:Nat)(hp:Hp)(x:Option AV)(F:AV→Prop):Prop :=
 match x with
 |some (.sl _ l)=>IG P T fun _ _=>ON l fun m=>F (.i m)
 |some (.str s)=>DZ P T (F (.i s.length))
 |some (.row r ver len)=>match A5 hp r with
  |some (.row _ _ mz _)=>G5 (ver=mz) (IG P T fun _ _=>F (.i len))
  |_=>False
 |some (.v (.slice none 0 0))=>IG P T fun _ _=>F (.i 0)
 |_=>False
def RD(P:Program)(f:Nat)(hp:Hp)(l caps:List AV)(F:AV→Prop):Prop:=cond (I9 l) (RC P f (l++caps) F) (ko P f hp l caps F)
def Mn(P:Program)(T:Nat)(ev:Operand→Option AV)(x:Option AV)(lo hi:Option Operand)(F:AV→Prop):Prop :=
 match x with
 |some (.str s)=>DZ P T (match AX ev 0 lo,AX ev s.length hi with
  |some l,some h=>G5 (0≤l∧l≤h∧h≤s.length) (F (.str ((s.take h.toNat).drop l.toNat)))
  |_,_=>False)
 |some (.sl sz s)=>IG P T fun _ mP=>cond (Nat.beq sz mP) (match AX ev 0 lo,AX ev s.length hi with
  |some l,some h=>G5 (0≤l∧l≤h∧h≤s.length) (F (.sl sz ((s.take h.toNat).drop l.toNat)))
  |_,_=>False) False
 |_=>False
def OP(P:Program)(T:Nat)(hp:Hp)(ok:Bool)(x y:Option AV)(F:AV→Prop):Prop :=
 match x,y with
 |some (.mp i),some qz=>match A5 hp i,keyOf qz with
  |some (.map m),some k=>Ww P T fun t z=>cond (DY t k) (G5 (t4 t m) (cond ok (ix (.tup [w9 m k z,.b (o8 m k).isSome]) F) (ix (w9 m k z) F))) False
  |_,_=>False
 |_,_=>False
def Fb(P:Program)(op:Op)(ev:Operand→Option AV)(hp:Hp)(F:AV→Prop):Prop :=
 match op with
 |.move x=>Y5 (ev x) F
 |.assign x=>Y5 (ev x) F
 |.pick c a b=>match ev c with
  |some (.v (.bool t))=>Bf t (Y5 (ev a) F) (Y5 (ev b) F)
  |_=>False
 |.binOp op T x y _=>cond (Ml y) (Rw P T op (ev x) F) (Rx P T op (ev x) (ev y) F)
 |.unOp .not _ x=>match ev x with
  |some (.v (.bool b))=>F (.v (.bool (!b)))
  |_=>False
 |.unOp .neg _ x=>match ev x with
  |some (.v (.int .i64 a))=>G5 (-9223372036854775807≤a∧a≤9223372036854775807) (F (.v (.int .i64 (-a))))
  |_=>False
 |.load T x=>Mm P T hp (ev x) F
 |.fieldAddr S x f=>OO P S f fun off sz=>cond (Nat.blt 0 sz) (Ry hp off (ev x) F) False
 |.indexAddr T x y=>Ik P T hp (ev x) (ev y) F
 |.index T x y=>match ev x,ev y with
  |some (.str s),some (.v (.int _ i))=>DZ P T (Q1 s i fun b=>F (.v (.int .u8 b.toNat)))
  |_,_=>False
 |.nilCheck x=>bu hp (ev x) F
 |.convert S T x=>Y5 (ev x) fun a=>BA P S T a F
 |.call ⟨.builtin .len,⟨[x]⟩,⟨[T]⟩⟩=>HJ P T hp (ev x) F
 |.call ⟨.builtin .min,⟨[x,y]⟩,⟨[_,_]⟩⟩=>match ev x,ev y with
  |some (.v (.int k a)),some (.v (.int k' b))=>cond (decide (k=k')) (F (.v (.int k (min a b)))) False
  |_,_=>False
 |.call ⟨.builtin .max,⟨[x,y]⟩,⟨[_,_]⟩⟩=>match ev x,ev y with
  |some (.v (.int k a)),some (.v (.int k' b))=>cond (decide (k=k')) (F (.v (.int k (max a b)))) False
  |_,_=>False
 |.call ⟨.value (.func f),⟨args⟩,_⟩=>match m4 ev args with
  |some l=>RD P f hp l [] F
  |none=>False
 |.call ⟨.value (.tmp t),⟨args⟩,_⟩=>match ev (.tmp t),m4 ev args with
  |some (.fn f caps),some l=>RD P f hp l caps F
  |_,_=>False
 |.build T ⟨parts⟩=>match BP ev parts with
  |some ps=>Ig P T fun zs pl=>Dn hp ps (Y5 ((Be pl zs ps).map AV.agg) F)
  |none=>False
 |.buildSlice T len ⟨parts⟩=>match BP ev parts with
  |some ps=>Eu P T fun _ sz _ _=>cond (CV 0 ps && t3 sz (L4 ps) && Nat.beq ps.length len && Nat.blt 0 sz) (G5 (len*sz≤16777216) (Dn hp ps (Mk (L4 ps) (F (.sl sz (L4 ps)))))) False
  |none=>False
 |.lookup T x y ok=>OP P T hp ok (ev x) (ev y) F
 |.slice T x lo hi none=>Mn P T ev (ev x) lo hi F
 |.extract x k=>match ev x with
  |some (.tup l)=>Y5 (l[k]?) F
  |_=>False
 |.makeFunc (.func f) ⟨[]⟩ ⟨xs⟩=>match m4 ev xs with
  |some caps=>cond (I9 caps) (F (.fn f caps)) False
  |none=>False
 |_=>False
section sound
variable {P:Program} {E:Env} {nx:Nat} {hp:Hp} {ev:Operand→Option AV} {ty:TypeId} {x y:Operand} {F:AV→Prop} {T T2:TypeId}
theorem jF{op:BinOp}(h:Rx P T op (ev x) (ev y) F):∃av,G7 P E nx hp ev (.binOp op T x y T2) ty av∧F av:=by
 unfold Rx at h
 split at h
 ·rename_i hx hy;exact⟨_,eb hx hy h.h,h.k⟩
 ·rename_i hx hy;exact⟨_,ee hx hy h.h,h.k⟩
 ·rename_i hx hy
  obtain⟨hk,hq⟩:=cond_false h
  clear h
  have hk:=of_decide_eq_true hk
  subst hk
  unfold Rv at hq
  split at hq
  ·exact⟨_,Dm hx hy (by simp only[CU,Q0 hq.h]),hq.k⟩
  ·exact⟨_,Dm hx hy (by simp only[CU,Q0 hq.h]),hq.k⟩
  ·exact⟨_,Dm hx hy (by simp only[CU,Q0 hq.h]),hq.k⟩
  ·have nq:=Qz (P:=P) (E:=E) (nx:=nx) (hp:=hp) (ty:=ty) (T:=T) (T2:=T2) hx hy hq.h.1
   rw[Q0 hq.h.2]at nq
   exact⟨_,nq,hq.k⟩
  ·exact⟨_,Qz hx hy hq.h,hq.k⟩
  ·exact⟨_,eZ hx hy hq.h,hq.k⟩
  ·split at hq
   ·rename_i hr;exact⟨_,Dm hx hy hr,hq⟩
   ·exact hq.elim
 ·rename_i s t hx hy
  unfold br at h
  split at h
  ·exact⟨_,ZA hx hy h.h,h.k⟩
  ·split at h
   ·rename_i hr;exact⟨_,Yz hx hy hr,h⟩
   ·exact h.elim
 ·rename_i a b hx hy
  unfold XA at h
  split at h
  ·have:=h.h;exact⟨_,RA (T:=T) false hx hy,h.k⟩
  ·have:=h.h;exact⟨_,RA (T:=T) true hx hy,h.k⟩
  ·exact h.elim
 ·rename_i l m hx hy
  unfold P2 at h
  split at h
  ·obtain⟨hk,hq⟩:=cond_false h
   obtain⟨rfl,rfl⟩:=of_decide_eq_true hk
   have:=hq.h;exact⟨_,HC (T:=T) false hx hy,hq.k⟩
  ·obtain⟨hk,hq⟩:=cond_false h
   obtain⟨rfl,rfl⟩:=of_decide_eq_true hk
   have:=hq.h;exact⟨_,HC (T:=T) true hx hy,hq.k⟩
  ·obtain⟨hk,hq⟩:=cond_false h
   obtain⟨rfl,rfl,rfl⟩:=of_decide_eq_true hk
   have:=hq.h;exact⟨_,HE (T:=T) false hx hy,hq.k⟩
  ·obtain⟨hk,hq⟩:=cond_false h
   obtain⟨rfl,rfl,rfl⟩:=of_decide_eq_true hk
   have:=hq.h;exact⟨_,HE (T:=T) true hx hy,hq.k⟩
  ·obtain⟨hk,hq⟩:=cond_false h
   obtain rfl:=of_decide_eq_true hk
   have:=hq.h;exact⟨_,MU (T:=T) false hx hy,hq.k⟩
  ·obtain⟨hk,hq⟩:=cond_false h
   obtain rfl:=of_decide_eq_true hk
   have:=hq.h;exact⟨_,MU (T:=T) true hx hy,hq.k⟩
  ·exact h.elim
 ·exact h.elim
theorem bv{op:BinOp}(hy:Ml y=true)(h:Rw P T op (ev x) F):∃av,G7 P E nx hp ev (.binOp op T x y T2) ty av∧F av:=by
 obtain rfl:y=.const .nilIface:=by
  unfold Ml at hy
  split at hy
  ·rfl
  ·cases hy
 unfold Rw at h
 split at h
 ·rename_i hx;have:=h.h;exact⟨_,Rb (T:=T) false hx,h.k⟩
 ·rename_i hx;have:=h.h;exact⟨_,Rb (T:=T) true hx,h.k⟩
 ·rename_i hx;have:=h.h;exact⟨_,Rc (T:=T) false hx,h.k⟩
 ·rename_i hx;have:=h.h;exact⟨_,Rc (T:=T) true hx,h.k⟩
 ·exact h.elim
theorem fb(h:Mm P T hp (ev x) F):∃av,G7 P E nx hp ev (.load T x) ty av∧F av:=by
 unfold Mm at h
 split at h
 ·rename_i i off hx
  split at h
  ·rename_i l hb
   obtain⟨⟨ag,sz,tv,h⟩⟩:=h
   cases ag with
   |true =>
    change cond (Nat.beq off 0 && Nat.beq l.length sz) _ _ at h
    cases hc:(Nat.beq off 0 && Nat.beq l.length sz)with
    |true =>
     rw[hc]at h
     simp only[Bool.and_eq_true,Nat.beq_eq]at hc
     obtain⟨rfl,hs⟩:=hc
     exact⟨_,Wp (sz:=sz) hx hb hs,h⟩
    |false =>
     rw[hc]at h
     exact⟨_,GX (sz:=sz) hx hb rfl h.h,h.k⟩
   |false =>
    obtain⟨av,hl,h⟩:=J8 h
    exact⟨_,Wo (sz:=sz) hx hb hl,h⟩
  ·exact h.elim
 ·rename_i l hx
  obtain⟨⟨ag,sz,tv,h⟩⟩:=h
  cases ag with
  |true =>
   change cond (Nat.beq l.length sz) _ _ at h
   cases hc:Nat.beq l.length sz with
   |true =>
    rw[hc]at h
    exact⟨_,AW (sz:=sz) hx (by rw[←Nat.eq_of_beq_eq_true hc,List.take_length]) (Nat.eq_of_beq_eq_true hc),h⟩
   |false =>
    rw[hc]at h
    exact⟨_,AW (sz:=sz) hx rfl h.h,h.k⟩
  |false =>
   cases l with
   |nil=>exact h.elim
   |cons av r=>exact⟨_,KT (sz:=sz) hx,h⟩
 ·rename_i i ver k off hx
  split at h
  ·rename_i e sz mz l hb
   obtain⟨rfl,hq⟩:=h
   obtain⟨h0,h1,hk⟩:=hq
   have mM:k<l.length:=by omega
   have mI:l[k]?=some l[k]:=List.getElem?_eq_getElem mM
   obtain⟨⟨ag,szT,tv,h⟩⟩:=hk l[k] (by rw[Int.toNat_natCast];exact mI)
   cases ag with
   |true =>
    obtain⟨hc,h2⟩:=cond_false h
    simp only[Bool.and_eq_true,Nat.beq_eq]at hc
    obtain⟨rfl,hs⟩:=hc
    exact⟨_,OG hx hb mI hs,h2⟩
   |false =>
    obtain⟨av,hl,h⟩:=J8 h
    exact⟨_,Wq (szT:=szT) hx hb mI hl,h⟩
  ·exact h.elim
 ·exact h.elim
theorem bw{S f off sz:Nat}[tf:D8 P S f off sz](hz:Nat.blt 0 sz=true)(h:Ry hp off (ev x) F):∃av,G7 P E nx hp ev (.fieldAddr S x f) ty av∧F av:=by
 unfold Ry at h
 split at h
 ·rename_i hx;exact⟨_,KU (off:=off) (sz:=sz) hx hz,h⟩
 ·rename_i hx;exact⟨_,IW (off:=off) (sz:=sz) hx hz,h⟩
 ·rename_i hx
  split at h
  ·rename_i hb
   obtain⟨rfl,h⟩:=h
   exact⟨_,UW (off:=off) (sz:=sz) hx hb hz,h⟩
  ·exact h.elim
 ·exact h.elim
theorem bz(h:Ik P T hp (ev x) (ev y) F):∃av,G7 P E nx hp ev (.indexAddr T x y) ty av∧F av:=by
 unfold Ik at h
 split at h
 ·rename_i hx hy
  obtain⟨⟨e,mP,ts,h⟩⟩:=h
  obtain⟨hz,hq⟩:=cond_false h
  clear h
  have:=Nat.eq_of_beq_eq_true hz
  subst this
  obtain⟨h0,h1,hk⟩:=hq
  rename_i sz l kk i
  have mM:i.toNat<l.length:=by omega
  have mI:l[i.toNat]?=some l[i.toNat]:=List.getElem?_eq_getElem mM
  exact⟨_,MQ (e:=e) hx hy h0 mI,hk _ mI⟩
 ·rename_i hx hy
  split at h
  ·rename_i hb
   obtain⟨rfl,h⟩:=h
   obtain⟨⟨e,mP,ts,h⟩⟩:=h
   obtain⟨hz,hq⟩:=cond_false h
   clear h
   have:=Nat.eq_of_beq_eq_true hz
   subst this
   exact⟨_,UX (e:=e) hx hb hy hq.h.1 hq.h.2,hq.k⟩
  ·exact h.elim
 ·rename_i hx hy
  obtain⟨⟨len,e,sz,ta,h⟩⟩:=h
  exact⟨_,UY (e:=e) (sz:=sz) hx hy h.h.1 h.h.2,h.k⟩
 ·exact h.elim
theorem jG(h:bu hp (ev x) F):∃av,G7 P E nx hp ev (.nilCheck x) ty av∧F av:=by
 unfold bu at h
 split at h
 ·rename_i hx;exact⟨_,ZE hx,h⟩
 ·rename_i hx;exact⟨_,Wr hx,h⟩
 ·rename_i hx
  split at h
  ·rename_i hb
   obtain⟨rfl,h⟩:=h
   exact⟨_,ZF hx hb,h⟩
  ·exact h.elim
 ·exact h.elim
theorem jH(h:HJ P T hp (ev x) F):∃av,G7 P E nx hp ev (.call ⟨.builtin .len,#[x],#[T]⟩) ty av∧F av:=by
 unfold HJ at h
 split at h
 ·rename_i hx
  obtain⟨⟨e,sz,ts,h⟩⟩:=h
  exact⟨_,Re (e:=e) (sz:=sz) hx,h.k⟩
 ·rename_i hx
  obtain⟨ts,h⟩:=h
  exact⟨_,PL hx,h⟩
 ·rename_i hx
  split at h
  ·rename_i hb
   obtain⟨rfl,h⟩:=h
   obtain⟨⟨e,sz,ts,h⟩⟩:=h
   exact⟨_,ZC (e:=e) (sz:=sz) hx hb,h⟩
  ·exact h.elim
 ·rename_i hx
  obtain⟨⟨e,sz,ts,h⟩⟩:=h
  exact⟨_,PM (e:=e) (sz:=sz) hx,h⟩
 ·exact h.elim
theorem cB{lo hi:Option Operand}(h:Mn P T ev (ev x) lo hi F):∃av,G7 P E nx hp ev (.slice T x lo hi none) ty av∧F av:=by
 unfold Mn at h
 split at h
 ·rename_i hx
  obtain⟨ts,h⟩:=h
  split at h
  ·rename_i hl hh;exact⟨_,Kb hx hl hh h.h.1 h.h.2.1 h.h.2.2,h.k⟩
  ·exact h.elim
 ·rename_i hx
  obtain⟨⟨e,mP,ts,h⟩⟩:=h
  obtain⟨hz,hq⟩:=cond_false h
  clear h
  have:=Nat.eq_of_beq_eq_true hz
  subst this
  split at hq
  ·rename_i hl hh;exact⟨_,Wu (e:=e) hx hl hh hq.h.1 hq.h.2.1 hq.h.2.2,hq.k⟩
  ·exact hq.elim
 ·exact h.elim
theorem ZP{ok:Bool}(h:OP P T hp ok (ev x) (ev y) F):∃av,G7 P E nx hp ev (.lookup T x y ok) ty av∧F av:=by
 unfold OP at h
 split at h
 ·rename_i hx hy
  split at h
  ·rename_i hb hk
   obtain⟨⟨k,e,t,z,tm,h⟩⟩:=h
   obtain⟨hkb,hq⟩:=cond_false h
   cases ok with
   |true=>exact⟨_,Ub (T:=T) hx hb hy hk hkb hq.h,hq.k.h⟩
   |false=>exact⟨_,bk (T:=T) hx hb hy hk hkb hq.h,hq.k.h⟩
  ·exact h.elim
 ·exact h.elim
theorem er{op:Op}(h:Fb P op ev hp F):∃av,G7 P E nx hp ev op ty av∧F av:=by
 unfold Fb at h
 split at h
 ·obtain⟨a,hx,h⟩:=J8 h;exact⟨a,Yy hx,h⟩
 ·obtain⟨a,hx,h⟩:=J8 h;exact⟨a,RY hx,h⟩
 ·split at h
  ·rename_i t hc
   obtain⟨h1,h2⟩:=h
   cases t with
   |true=>obtain⟨a,hx,h⟩:=J8 (h1 rfl);exact⟨a,bZ hc hx,h⟩
   |false=>obtain⟨a,hx,h⟩:=J8 (h2 rfl);exact⟨a,ba hc hx,h⟩
  ·exact h.elim
 ·rename_i y _
  cases hn:Ml y with
  |true=>rw[hn]at h;exact bv hn h
  |false=>rw[hn]at h;exact jF h
 ·split at h
  ·rename_i hx;exact⟨_,eh hx,h⟩
  ·exact h.elim
 ·split at h
  ·rename_i a hx
   have h1:=h.h
   refine⟨_,kf hx,?_⟩
   rw[Q0 (by omega)]
   exact h.k
  ·exact h.elim
 ·exact fb h
 ·obtain⟨⟨off,sz,tf,h⟩⟩:=h
  obtain⟨hz,h⟩:=cond_false h
  exact bw (off:=off) (sz:=sz) hz h
 ·exact bz h
 ·split at h
  ·rename_i s k i hx hy
   obtain⟨ts,h0,h1,hk⟩:=h
   have mM:i.toNat<s.length:=by omega
   have mI:s[i.toNat]?=some s[i.toNat]:=List.getElem?_eq_getElem mM
   exact⟨_,KV hx hy h0 mI,hk _ mI⟩
  ·exact h.elim
 ·exact jG h
 ·obtain⟨a,hx,h⟩:=J8 h
  obtain⟨⟨r,hr,h⟩⟩:=h
  cases hr with
  |bytes l hl=>rename_i e sz _ _ _;exact⟨_,KW (e:=e) (sz:=sz) hx hl,h⟩
  |back l=>rename_i e sz _ _ _;exact⟨_,KY (e:=e) (sz:=sz) hx,h⟩
  |int m=>exact⟨_,MS hx,h⟩
  |rune m=>exact⟨_,KZ hx,h⟩
 ·exact jH h
 ·split at h
  ·rename_i hx hy
   obtain⟨hk,h2⟩:=cond_false h
   have:=of_decide_eq_true hk
   subst this
   exact⟨_,kg hx hy,h2⟩
  ·exact h.elim
 ·split at h
  ·rename_i hx hy
   obtain⟨hk,h2⟩:=cond_false h
   have:=of_decide_eq_true hk
   subst this
   exact⟨_,ki hx hy,h2⟩
  ·exact h.elim
 ·split at h
  ·rename_i l hl
   unfold RD at h
   cases hc:I9 l with
   |true =>
    rw[hc]at h
    obtain⟨⟨r,hr,h⟩⟩:=h
    rw[List.append_nil]at hr
    exact⟨_,Rg hr hl hc,h⟩
   |false =>
    rw[hc]at h
    obtain⟨⟨is,L,r,hL,mf,hr,nV,h⟩⟩:=h
    exact⟨_,Rs is hr hl hL mf nV fun _ _ _ _=>⟨[],rfl,rfl,fun j x c hx=>by simp at hx⟩,h⟩
  ·exact h.elim
 ·split at h
  ·rename_i f caps l hg hl
   unfold RD at h
   cases hc:I9 l with
   |true =>
    rw[hc]at h
    obtain⟨⟨r,hr,h⟩⟩:=h
    exact⟨_,fP hg hr hl hc,h⟩
   |false =>
    rw[hc]at h
    obtain⟨⟨is,L,r,hL,mf,hr,nV,h⟩⟩:=h
    refine⟨_,Rs is hr hl hL mf nV fun θ a w h=>?_,h⟩
    have:=(h.rel hg)
    generalize a.eval _=v at this
    cases this with
    |im hi=>cases hi with|fn f l cs hl hc=>exact⟨cs,rfl,hl,hc⟩
  ·exact h.elim
 ·split at h
  ·rename_i ps rj
   obtain⟨⟨zs,pl,tz,tp,h⟩⟩:=h
   obtain⟨hf,h⟩:=p7 h
   obtain⟨a,ha,h⟩:=J8 h
   rw[Option.map_eq_some_iff]at ha
   obtain⟨l,hl,rfl⟩:=ha
   exact⟨_,Vd (T:=_) rj hf hl,h⟩
  ·exact h.elim
 ·split at h
  ·rename_i ps rj
   obtain⟨⟨e,sz,bs,z,ts,tz,tb,hz,h⟩⟩:=h
   obtain⟨hc,h⟩:=cond_false h
   simp only[Bool.and_eq_true,Nat.beq_eq,Nat.blt_eq]at hc
   obtain⟨hs,h⟩:=h
   obtain⟨hf,h⟩:=p7 h
   obtain⟨hi,h⟩:=EM h
   exact⟨_,Ic (e:=e) (z:=z) rj hf hc.1.1.1 hc.1.1.2 hc.1.2 hz hs hc.2 hi,h⟩
  ·exact h.elim
 ·exact ZP h
 ·exact cB h
 ·split at h
  ·rename_i hx
   obtain⟨a,ha,h⟩:=J8 h
   exact⟨a,PQ hx ha,h⟩
  ·exact h.elim
 ·split at h
  ·rename_i caps hc
   obtain⟨mf,h⟩:=cond_false h
   exact⟨_,Wt hc mf,h⟩
  ·exact h.elim
 ·exact h.elim
end sound
def Rd(a:AV):Prop:=∃U w v,Im U w a v
theorem Rd.sl{sz:Nat}{l:List (List AV)}(h:Rd (.sl sz l)):l.length≤9223372036854775807:=by
 obtain⟨U,w,v,h⟩:=h
 cases h with
 |slnil=>simp
 |sl sz l a cap f nK hm hu hsz hc h=>unfold maxLen at hm;omega
theorem Rd.agg{l:List AV}(h:Rd (.agg l)):∀x∈l,Rd x:=by
 obtain⟨U,w,v,h⟩:=h
 cases h with
 |agg l cs hl h =>
  intro x hx
  obtain⟨j,hj,rfl⟩:=List.getElem_of_mem hx
  have h2:j<cs.length:=by omega
  exact⟨U,w,_,h j _ _ (List.getElem?_eq_getElem hj) (List.getElem?_eq_getElem h2)⟩
theorem Rd.elem{sz:Nat}{l:List (List AV)}(h:Rd (.sl sz l)):∀e∈l,∀x∈e,Rd x:=by
 obtain⟨U,w,v,h⟩:=h
 cases h with
 |slnil=>intro e he;cases he
 |sl sz l a cap f nK hm hu hsz hc h =>
  intro e he x hx
  obtain⟨i,hi,rfl⟩:=List.getElem_of_mem he
  obtain⟨j,hj,rfl⟩:=List.getElem_of_mem hx
  exact⟨U,w,_,h i _ (List.getElem?_eq_getElem hi) j _ (List.getElem?_eq_getElem hj)⟩
def BB:List AV→Nat→List (Nat×AV)
 |[],_=>[]
 |a::r,k=>(k,a)::BB r (k+1)
theorem EN:∀(l:List AV) (k s:Nat) (x:AV),look (BB l k) s=some x→k≤s∧l[s-k]?=some x
 |[],_,_,_,h=>by cases h
 |a::r,k,s,x,h=>by
  simp only[BB,E9]at h
  by_cases e:k=s
  ·subst e;simp at h;subst h;simp
  ·rw[if_neg e]at h
   obtain⟨h1,h2⟩:=EN r (k+1) s x h
   refine⟨by omega,?_⟩
   have:s-k=(s-(k+1))+1:=by omega
   rw[this]
   simpa using h2
def X3(tmps:Array Value):ResultVar→Sem Value
 |.tmp t=>pure (tmps.getD t undef)
 |.cell a t=>do loadVar t (←asAddr (tmps.getD a undef))
theorem LU{P:Program}{w:World}{tmps:Array Value}:∀{rvs:List ResultVar} {vs:List Value},rvs.length=vs.length→(∀(j:Nat) rv v,rvs[j]?=some rv→vs[j]?=some v→(X3 tmps rv).run P w=.ok v w)→(rvs.mapM (X3 tmps)).run P w=.ok vs w
 |[],[],_,_=>by simp[Sem.run_pure]
 |rv::r,v::s,hl,h=>by
  have h1:=h 0 rv v rfl rfl
  have h2:=LU (rvs:=r) (vs:=s) (by simpa using hl) (fun j rv v hj hv=>h (j+1) rv v (by simpa using hj) (by simpa using hv))
  simp[List.mapM_cons,Sem.run_bind,h1,h2]
 |[],_::_,hl,_=>by simp at hl
 |_::_,[],hl,_=>by simp at hl
theorem Kd{P:Program}{w:World}{fn:Func}{tmps:Array Value}{rvs:List ResultVar}{vs:List Value}(h:fn.results=rvs.toArray)(hne:rvs.length≠1)(hl:rvs.length=vs.length)(hv:∀(j:Nat) rv v,rvs[j]?=some rv→vs[j]?=some v→(X3 tmps rv).run P w=.ok v w):
  (results fn tmps).run P w=.ok (.tuple vs.toArray) w:=by
 have hm:=LU (P:=P) (w:=w) (tmps:=tmps) hl hv
 have e:results fn tmps=(do let vs ←fn.results.mapM (X3 tmps);pure (if h:vs.size=1 then vs[0]else .tuple vs)):=by
  unfold results
  congr
 rw[e,h,List.mapM_toArray]
 simp only[Sem.run_bind,map_eq_pure_bind,hm,Sem.run_pure,Result.andThen_ok]
 rw[dif_neg (by simp;omega)]
theorem Rz{P:Program}{w:World}{fn:Func}{tmps:Array Value}{rv:ResultVar}{v:Value}(h:fn.results=[rv].toArray)(hv:(X3 tmps rv).run P w=.ok v w):
  (results fn tmps).run P w=.ok v w:=by
 have hm:=LU (P:=P) (w:=w) (tmps:=tmps) (rvs:=[rv]) (vs:=[v]) rfl (fun j rv' v' hj nY=>by
  cases j with
  |zero=>simp at hj nY;subst hj nY;exact hv
  |succ j=>simp at hj)
 have e:results fn tmps=(do let vs ←fn.results.mapM (X3 tmps);pure (if h:vs.size=1 then vs[0]else .tuple vs)):=by
  unfold results
  congr
 rw[e,h,List.mapM_toArray]
 simp only[Sem.run_bind,map_eq_pure_bind,hm,Sem.run_pure,Result.andThen_ok]
 rfl
inductive NL:AV→AV→Prop
 |refl (a:AV):NL a a
 |any (a:AV):NL a .any
 |nil (sz:Nat):NL (.v (.slice none 0 0)) (.sl sz [])
 |agg (l m:List AV) (h:l.length=m.length) (hh:∀(j:Nat) x y,l[j]?=some x→m[j]?=some y→NL x y):NL (.agg l) (.agg m)
 |tup (l m:List AV) (h:l.length=m.length) (hh:∀(j:Nat) x y,l[j]?=some x→m[j]?=some y→NL x y):NL (.tup l) (.tup m)
 |sl (sz:Nat) (l m:List (List AV)) (h:l.length=m.length) (hl:∀(i:Nat) e e',l[i]?=some e→m[i]?=some e'→e.length=e'.length) (hh:∀(i:Nat) e e',l[i]?=some e→m[i]?=some e'→∀(j:Nat) x y,e[j]?=some x→e'[j]?=some y→NL x y):NL (.sl sz l) (.sl sz m)
theorem P3{α β:Type}{l:List α}{m:List β}(h:l.length=m.length){j:Nat}{y:β}(hy:m[j]?=some y):∃x,l[j]?=some x:=by
 have:=(List.getElem?_eq_some_iff.1 hy).1
 exact⟨_,List.getElem?_eq_getElem (by omega)⟩
theorem NL.im{U:Nat→Prop}{w:World}{a b:AV}(h:NL a b):∀{v:Value},Im U w a v→Im U w b v:=by
 induction h with
 |refl a=>intro v h;exact h
 |any a=>intro v h;exact .any v
 |nil sz=>intro v h;cases h;exact .slnil sz
 |agg l m hl hh ih =>
  intro v h
  cases h with
  |agg l cs hc h =>
   refine .agg m cs (by omega) fun j y c hy oG=>?_
   obtain⟨x,hx⟩:=P3 hl hy
   exact ih j x y hx hy (h j x c hx oG)
 |tup l m hl hh ih =>
  intro v h
  cases h with
  |tup l cs hc h =>
   refine .tup m cs (by omega) fun j y c hy oG=>?_
   obtain⟨x,hx⟩:=P3 hl hy
   exact ih j x y hx hy (h j x c hx oG)
 |sl sz l m hl mL hh ih =>
  intro v h
  cases h with
  |slnil =>
   have:m=[]:=List.eq_nil_of_length_eq_zero (by rw[←hl];rfl)
   subst this
   exact .slnil sz
  |sl sz l a cap f nK hm hu hsz hc h =>
   rw[hl]
   refine .sl sz m a cap f (by omega) hm (fun hne=>hu (fun e=>hne (List.eq_nil_of_length_eq_zero (by rw[←hl,e];rfl)))) (fun e he=>?_) (fun i hi=>hc i (by omega)) (fun i e' pz j y hy=>?_)
   ·obtain⟨i,hi,rfl⟩:=List.getElem_of_mem he
    obtain⟨x,hx⟩:=P3 hl (List.getElem?_eq_getElem hi)
    rw[←mL i x _ hx (List.getElem?_eq_getElem hi)]
    exact hsz x (List.mem_of_getElem? hx)
   ·obtain⟨e,he⟩:=P3 hl pz
    obtain⟨x,hx⟩:=P3 (mL i e e' he pz) hy
    exact ih i e e' he pz j x y hx hy (h i e he j x hx)
theorem Mo{c:Cx}{a b:AV}(h:NL a b):∀{v:Value},E0 c a v→E0 c b v:=by
 induction h with
 |refl a=>intro v h;exact h
 |any a=>intro v h;exact .any v
 |nil sz=>intro v h;rw[h.val];exact .im (.slnil sz)
 |agg l m hl hh ih =>
  intro v h
  obtain⟨cs,rfl,hc,hr⟩:=Eh h
  refine .agg m cs (by omega) fun j y z hy hz=>?_
  obtain⟨x,hx⟩:=P3 hl hy
  exact ih j x y hx hy (hr j x z hx hz)
 |tup l m hl hh ih =>
  intro v h
  have:∃cs:List Value,v=.tuple cs.toArray∧l.length=cs.length∧∀(j:Nat) u z,l[j]?=some u→cs[j]?=some z→E0 c u z:=by
   cases h with
   |im hi=>cases hi with|tup l cs hl hc=>exact⟨cs,rfl,hl,fun j u z hu hz=>.im (hc j u z hu hz)⟩
   |tup l cs hl hc=>exact⟨cs,rfl,hl,hc⟩
  obtain⟨cs,rfl,hc,hr⟩:=this
  refine .tup m cs (by omega) fun j y z hy hz=>?_
  obtain⟨x,hx⟩:=P3 hl hy
  exact ih j x y hx hy (hr j x z hx hz)
 |sl sz l m hl mL hh ih =>
  intro v h
  cases h with
  |im hi=>exact .im ((NL.sl sz l m hl mL hh).im hi)
def XB(P:Program)(σ:St):ResultVar→AV→Prop
 |.tmp t,a=>∃a',(look σ.sl t).map (J0 σ.hp [])=some a'∧NL a' a
 |.cell t T,a=>∃i τ l sz,look σ.sl t=some (.ref i 0)∧A5 σ.hp i=some (.bx τ l)∧G6 P T true sz∧l.length=sz∧NL (.agg (CD σ.hp [] l)) a
def HK(P:Program)(σ:St):List ResultVar→List AV→Prop
 |[],[]=>True
 |v::r,a::s=>XB P σ v a∧HK P σ r s
 |_,_=>False
theorem HK.get{P:Program}{σ:St}:∀{rvs:List ResultVar} {as:List AV},HK P σ rvs as→rvs.length=as.length∧∀(j:Nat) rv a,rvs[j]?=some rv→as[j]?=some a→XB P σ rv a
 |[],[],_=>⟨rfl,fun j rv a h=>by simp at h⟩
 |v::r,a::s,h=>by
  obtain⟨h1,h2⟩:=HK.get h.2
  refine⟨by simp[h1],fun j rv b hj hb=>?_⟩
  cases j with
  |zero=>simp at hj hb;subst hj hb;exact h.1
  |succ j=>exact h2 j rv b (by simpa using hj) (by simpa using hb)
 |[],_::_,h=>h.elim
 |_::_,[],h=>h.elim
def eu(P:Program)(rs:Array ResultVar)(r:AV)(σ:St):Prop :=
 (∃rvs as,rs=rvs.toArray∧rvs.length≠1∧HK P σ rvs as∧r=.tup as) ∨
 (∃t,rs=#[.tmp t]∧(look σ.sl t).map (J0 σ.hp [])=some r) ∨
 (∃t sz,rs=#[.tmp t]∧look σ.sl t=some (.v (.slice none 0 0))∧r=.sl sz []) ∨
 (∃t u a b,rs=#[.tmp t,.tmp u]∧(look σ.sl t).map (J0 σ.hp [])=some a∧(look σ.sl u).map (J0 σ.hp [])=some b∧r=.tup [a,b]) ∨
 (∃t T i τ l,rs=#[.cell t T]∧look σ.sl t=some (.ref i 0)∧A5 σ.hp i=some (.bx τ l)∧r=.agg (CD σ.hp [] l))
def D0(P:Program)(rs:Array ResultVar)(r:AV):Exit→St→Prop
 |.ret,σ=>eu P rs r σ
 |.normal,σ=>eu P rs r σ
 |_,_=>False
theorem A1{P:Program}{t:Nat}{r r':AV}{σ:St}(h:(look σ.sl t).map (J0 σ.hp [])=some r')(e:r'=r):D0 P #[.tmp t] r .ret σ:=.inr (.inl ⟨t,rfl,e▸h⟩)
theorem SA{P:Program}{rs:List ResultVar}{vs:List AV}{r:AV}{σ:St}(hn:(Nat.beq rs.length 1)=false)(h:HK P σ rs vs)(e:.tup vs=r):D0 P rs.toArray r .ret σ:=.inl ⟨rs,vs,rfl,(fun h=>by rw[h]at hn;cases hn),h,e.symm⟩
theorem SB{P:Program}{t:Nat}{a' a:AV}{σ:St}(h:(look σ.sl t).map (J0 σ.hp [])=some a')(e:NL a' a):XB P σ (.tmp t) a:=⟨a',h,e⟩
theorem Ev{P:Program}{t u v:Nat}{a b c r:AV}{σ:St}(h:(look σ.sl t).map (J0 σ.hp [])=some a)(h2:(look σ.sl u).map (J0 σ.hp [])=some b)(h3:(look σ.sl v).map (J0 σ.hp [])=some c)(e:.tup [a,b,c]=r):D0 P #[.tmp t,.tmp u,.tmp v] r .ret σ :=
 SA (rs:=[.tmp t,.tmp u,.tmp v]) (vs:=[a,b,c]) rfl ⟨⟨a,h,.refl _⟩,⟨b,h2,.refl _⟩,⟨c,h3,.refl _⟩,trivial⟩ e
theorem S8{P:Program}{t T i u sz τ:Nat}{l:List AV}{a b b' r:AV}{σ:St}[tv:G6 P T true sz](h:look σ.sl t=some (.ref i 0))(hb:A5 σ.hp i=some (.bx τ l))(hl:Nat.beq l.length sz=true)(na:NL (.agg (CD σ.hp [] l)) a)(h2:(look σ.sl u).map (J0 σ.hp [])=some b')(nb:NL b' b)(e:.tup [a,b]=r):D0 P #[.cell t T,.tmp u] r .ret σ :=
 SA (rs:=[.cell t T,.tmp u]) (vs:=[a,b]) rfl ⟨⟨i,τ,l,sz,h,hb,tv,Nat.eq_of_beq_eq_true hl,na⟩,⟨b',h2,nb⟩,trivial⟩ e
theorem I3{P:Program}{t u:Nat}{a b r:AV}{σ:St}(h:(look σ.sl t).map (J0 σ.hp [])=some a)(h2:(look σ.sl u).map (J0 σ.hp [])=some b)(e:.tup [a,b]=r):D0 P #[.tmp t,.tmp u] r .ret σ:=.inr (.inr (.inr (.inl ⟨t,u,a,b,rfl,h,h2,e.symm⟩)))
theorem l5{P:Program}{t sz:Nat}{r:AV}{σ:St}(h:look σ.sl t=some (.v (.slice none 0 0)))(e:.sl sz []=r):D0 P #[.tmp t] r .ret σ:=.inr (.inr (.inl ⟨t,sz,rfl,h,e.symm⟩))
theorem cC{P:Program}{t T i τ:Nat}{l:List AV}{r:AV}{σ:St}(h:look σ.sl t=some (.ref i 0))(h2:A5 σ.hp i=some (.bx τ l))(e:.agg (CD σ.hp [] l)=r):D0 P #[.cell t T] r .ret σ:=.inr (.inr (.inr (.inr ⟨t,T,i,τ,l,rfl,h,h2,e.symm⟩)))
section rules
variable {P:Program} {E:Env} {n:Nat} {ops:Array Oper} {rest:List Oper} {σ:St} {K:St→Prop} {Q:Exit→St→Prop}
variable {d:Nat} {ty:TypeId} {pos:String} {after:Array Edge} {x y:Operand}
theorem PX{fn:Func}{r:AV}{X:Nat→Prop}{w w':World}{qL:S3 (fun k=>X k∨(fun _=>False) k) w}{rf:Bool}{θ:Th}{σ':St}{a:Act}(hs:J5 ⟨w,X,fun _=>False,fun _=>undef,0,qL,rf⟩ n θ σ' a w')(wq:a.defers=[])(mf:R0 r)
  (oQ:∀t T,fn.results=#[.cell t T]→∃sz,G6 P T true sz∧∀l,r=.agg l→l.length=sz) (sr:eu P fn.results r σ'):bodyPost P fn (fun e qG=>∃v,e=.returned v∧Im X qG r v∧Below w.heap.size w qG) .ret a w':=by
 have od:Below w.heap.size w w':=⟨hs.fr.os,hs.fr.tape,hs.fr.output,hs.fr.size,fun k hk=>hs.fr.block k hk (fun h=>h)⟩
 have sv:=hs.cv (σ':=⟨AY (J0 σ'.hp []) σ'.sl,σ'.nx,[]⟩) (Nat.zero_le _) (fun s x' hx=>by
  rw[CX,Option.map_eq_some_iff]at hx
  obtain⟨x,h1,h2⟩:=hx
  exact⟨x,h1,h2,.inl (Nat.le_refl _)⟩) (fun i b' hi=>by cases hi)
 have wF:∀{a:AV} {v:Value},R0 a→E0 (cx ⟨w,X,fun _=>False,fun _=>undef,0,qL,rf⟩ θ ⟨AY (J0 σ'.hp []) σ'.sl,σ'.nx,[]⟩ w') a v→Im X w' a v:=fun hc hi=>(hc.im hi).mono (fun _ _ _=>rfl) fun k _ hu=>.inl hu
 have slot:∀{t:Nat} {r:AV},(look σ'.sl t).map (J0 σ'.hp [])=some r→look (AY (J0 σ'.hp []) σ'.sl) t=some r:=fun h=>by rw[CX];exact h
 rcases sr with ⟨rvs,as,h1,qx,sy,rfl⟩|⟨t,h1,h2⟩|⟨t,sz,h1,h2,rfl⟩|⟨t,u,a1,b1,h1,h2,h3,rfl⟩|⟨t,T,i,τ,l,h1,h2,h3,rfl⟩
 ·obtain⟨mL,oA⟩:=HK.get sy
  have zN:∀a∈as,R0 a:=by cases mf with|tup hk=>exact hk
  have one:∀(rv:ResultVar) (b:AV),R0 b→XB P σ' rv b→∃v,(X3 a.tmps rv).run P w'=.ok v w'∧Im X w' b v:=by
   intro rv b hb hv
   cases rv with
   |tmp t =>
    obtain⟨a',h1,h2⟩:=hv
    exact⟨_,by simp[X3,Sem.run_pure],wF hb (Mo h2 (sv.slots t a' (slot h1)))⟩
   |cell t T =>
    obtain⟨i,τ,l,sz,h2,h3,tv,rl,uw⟩:=hv
    obtain⟨b1,hθ,hv,_⟩:=k7 (hs.slots t _ h2)
    obtain⟨b',mu,T',ni,hh,hsz,hr⟩:=(hs.owns i _ h3).2
    have ov:θ i=.pointer (some ⟨b1,0,none⟩):=hθ
    have pc:θ i=.pointer (some ⟨b',0,none⟩):=ni
    rw[ov]at pc
    cases pc
    have vE:w'.heap[b1]?=some (.cells mu T' (0,0)):=hh
    have sub:(cx ⟨w,X,fun _=>False,fun _=>undef,0,qL,rf⟩ θ σ' w').sub (cx ⟨w,X,fun _=>False,fun _=>undef,0,qL,rf⟩ θ ⟨AY (J0 σ'.hp []) σ'.sl,σ'.nx,[]⟩ w'):=⟨rfl,rfl,fun _ h=>h,(fun i b' hi=>by cases hi),hs.apart,fun i b k hi hk=>(hs.mine i b k hi hk).1,fun i b hi=>(hs.owns i b hi).2⟩
    have pR:=S5 (P:=P) (T:=T) (sz:=sz) (w:=w') (a:=⟨b1,0,none⟩) (cs:=mu.toList) (by rw[Array.length_toList,hsz,rl]) (fun j v hj=>by rw[H3,J9 vE];simpa using hj)
    refine⟨.agg mu,by simp[X3,hv,Sem.run_bind,Sem.run_pure,asAddr,pR],wF hb (Mo uw (by
     have:=E0.agg (c:=cx ⟨w,X,fun _=>False,fun _=>undef,0,qL,rf⟩ θ ⟨AY (J0 σ'.hp []) σ'.sl,σ'.nx,[]⟩ w') (CD σ'.hp [] l) mu.toList (by rw[Q3];simp[hsz]) (fun j x y hx hy=>by
      rw[Q3]at hx
      simp only[List.getElem?_map,Option.map_eq_some_iff]at hx
      obtain⟨u0,oS,rfl⟩:=hx
      exact Id sub (hr j u0 y oS (by simpa using hy)) (.inl (Nat.le_refl _)))
     simpa using this))⟩
  have all:∀(m:Nat),m≤rvs.length→∃vs:List Value,vs.length=m∧∀(j:Nat) rv v,rvs[j]?=some rv→vs[j]?=some v→(X3 a.tmps rv).run P w'=.ok v w'∧∀b,as[j]?=some b→Im X w' b v:=by
   intro m
   induction m with
   |zero=>intro _;exact⟨[],rfl,fun j rv v _ h=>by simp at h⟩
   |succ m ih =>
    intro hm
    obtain⟨vs,hl,pd⟩:=ih (by omega)
    have xF:rvs[m]?=some rvs[m]:=List.getElem?_eq_getElem (by omega)
    have ham:as[m]?=some (as[m]'(by omega)):=List.getElem?_eq_getElem (by omega)
    obtain⟨v,tj,pu⟩:=one rvs[m] (as[m]'(by omega)) (zN _ (List.getElem_mem _)) (oA m _ _ xF ham)
    refine⟨vs++[v],by simp[hl],fun j rv u hj hu=>?_⟩
    by_cases e:j<m
    ·rw[List.getElem?_append_left (by omega)]at hu
     exact pd j rv u hj hu
    ·rw[List.getElem?_append_right (by omega),hl]at hu
     have ej:j=m:=by
      have:=(List.getElem?_eq_some_iff.1 hu).1
      simp at this;omega
     subst ej
     simp at hu
     subst hu
     rw[xF]at hj
     cases hj
     exact⟨tj,fun b hb=>by rw[ham]at hb;cases hb;exact pu⟩
  obtain⟨vs,rq,pd⟩:=all rvs.length (Nat.le_refl _)
  refine⟨wq,_,Kd h1 qx rq.symm (fun j rv v hj hv=>(pd j rv v hj hv).1),_,rfl,.tup as vs (by omega) fun j b v hb hv=>?_,od⟩
  obtain⟨rv,yy⟩:=P3 mL hb
  exact(pd j rv v yy hv).2 b hb
 ·exact⟨wq,_,results_tmp h1 _ _ _,_,rfl,wF mf (sv.slots t r (slot h2)),od⟩
 ·exact⟨wq,_,results_tmp h1 _ _ _,_,rfl,by rw[(hs.slots t _ h2).val];exact .slnil sz,od⟩
 ·refine⟨wq,_,results_tmp2 h1 _ _ _,_,rfl,?_,od⟩
  refine wF mf (.tup [a1,b1] [_,_] rfl fun j x y hx hy=>?_)
  match j,hx,hy with
  |0,hx,hy=>cases hx;cases hy;exact sv.slots t _ (slot h2)
  |1,hx,hy=>cases hx;cases hy;exact sv.slots u _ (slot h3)
 ·obtain⟨b,hθ,hv,_⟩:=k7 (hs.slots t _ h2)
  obtain⟨b',mu,T',ni,hh,hsz,hr⟩:=(hs.owns i _ h3).2
  have ov:θ i=.pointer (some ⟨b,0,none⟩):=hθ
  have pc:θ i=.pointer (some ⟨b',0,none⟩):=ni
  rw[ov]at pc
  cases pc
  obtain⟨sz,tv,mL⟩:=oQ t T h1
  have rl:=mL _ rfl
  rw[Q3,List.length_map]at rl
  have vE:w'.heap[b]?=some (.cells mu T' (0,0)):=hh
  have sub:(cx ⟨w,X,fun _=>False,fun _=>undef,0,qL,rf⟩ θ σ' w').sub (cx ⟨w,X,fun _=>False,fun _=>undef,0,qL,rf⟩ θ ⟨AY (J0 σ'.hp []) σ'.sl,σ'.nx,[]⟩ w'):=⟨rfl,rfl,fun _ h=>h,(fun i b' hi=>by cases hi),hs.apart,fun i b k hi hk=>(hs.mine i b k hi hk).1,fun i b hi=>(hs.owns i b hi).2⟩
  refine⟨wq,.agg mu,?_,_,rfl,wF mf (by
   have:=E0.agg (c:=cx ⟨w,X,fun _=>False,fun _=>undef,0,qL,rf⟩ θ ⟨AY (J0 σ'.hp []) σ'.sl,σ'.nx,[]⟩ w') (CD σ'.hp [] l) mu.toList (by rw[Q3];simp[hsz]) (fun j x y hx hy=>by
    rw[Q3]at hx
    simp only[List.getElem?_map,Option.map_eq_some_iff]at hx
    obtain⟨u0,oS,rfl⟩:=hx
    exact Id sub (hr j u0 y oS (by simpa using hy)) (.inl (Nat.le_refl _)))
   simpa using this),od⟩
  have pR:=S5 (P:=P) (T:=T) (sz:=sz) (w:=w') (a:=⟨b,0,none⟩) (cs:=mu.toList) (by rw[Array.length_toList,hsz,rl]) (fun j v hj=>by rw[H3,J9 vE];simpa using hj)
  rw[Array.getD_eq_getD_getElem?]at hv
  simp[results,h1,hv,Sem.run_bind,Sem.run_pure,asAddr,pR]
theorem Ke {f : Nat} {fn : Func} {code : Code} {args : List AV} {r : AV} {rs : Array ResultVar} (hf : P.funcs[f]? = some fn) (oF : (fn.name == "runtime.NumGoroutine") = false) (hb : fn.body = some code) (hn : fn.ntmps = n) (rm : fn.results = rs)
  (mm:Nat.ble args.length n=true) (mf:J1 r=true) (oQ:∀t T,rs=#[.cell t T]→∃sz,G6 P T true sz∧∀l,r=.agg l→l.length=sz)
  (h:(∀a∈args,Rd a)→∀E,E.n0=0→C9 P E n code ⟨BB args 0,0,[]⟩ (D0 P rs r)):A3 P f args r:=by
 subst hn rm
 have mf:=S7 mf
 refine⟨⟨fn,hf,oF,by rw[hb];rfl⟩,fun X w vs hX nL hl pd=>?_⟩
 have qL:S3 (fun k=>X k∨(fun _=>False) k) w:=nL.mono (fun k _ h=>h.elim id False.elim) fun _ _ _=>rfl
 have mK:∀a∈args,Rd a:=by
  intro a ha
  obtain⟨j,hj,rfl⟩:=List.getElem_of_mem ha
  have h2:j<vs.length:=by omega
  exact⟨X,w,_,pd j _ _ (List.getElem?_eq_getElem hj) (List.getElem?_eq_getElem h2)⟩
 refine calls_of_wp hf hb ?_
 have nT:args.length≤fn.ntmps:=Nat.ble_eq▸mm
 have start:j7 ⟨w,X,fun _=>False,fun _=>undef,0,qL,false⟩ fn.ntmps ⟨BB args 0,0,[]⟩ { tmps:=vs.toArray++Array.replicate (fn.ntmps-vs.toArray.size) undef,defers:=[] } w:=by
  refine⟨⟨fun _=>undef,fun _ _=>none⟩,?_,.nil,⟨rfl,rfl,rfl,Nat.le_refl _,fun _ _ _=>rfl⟩,fun s x hs=>?_,fun i b hi=>?_,fun i j b b' k hi=>?_,fun i b k hi=>?_,hX,⟨Nat.le_refl _,fun i hi=>?_⟩⟩
  ·simp;omega
  ·obtain⟨_,hx⟩:=EN args 0 s x hs
   rw[Nat.sub_zero]at hx
   have mM:s<vs.length:=by rw[←hl];exact(List.getElem?_eq_some_iff.1 hx).1
   have hv:vs[s]?=some vs[s]:=List.getElem?_eq_getElem mM
   have e:(vs.toArray++Array.replicate (fn.ntmps-vs.toArray.size) undef).getD s undef=vs[s]:=by
    rw[Array.getD_eq_getD_getElem?,Array.getElem?_append]
    simp[mM]
   rw[e]
   refine .im ((pd s x _ hx hv).mono (fun _ _ _=>rfl) fun k _ hu=>?_)
   rcases hu with hu|⟨i,b,hi,_⟩
   ·exact hu
   ·cases hi
  ·cases hi
  ·cases hi
  ·cases hi
  ·exact absurd hi (Nat.not_lt_zero _)
 refine wp_mono (h mK ⟨w,X,fun _=>False,fun _=>undef,0,qL,false⟩ rfl _ w start) ?_
 rintro e a w' ⟨σ',hq,θ,hs⟩
 have fin:=PX (P:=P) (fn:=fn) (r:=r) hs (hs.defers.1 rfl) mf oQ
 cases e with
 |normal=>exact fin hq
 |ret=>exact fin hq
 |exit id=>exact hq.elim
 |goto l=>exact hq.elim
 |panic c=>exact hq.elim
 |outgrown=>exact hq.elim
theorem A3.congr{f:Nat}{args:List AV}{r r':AV}(h:A3 P f args r)(e:r=r'):A3 P f args r':=e▸h
theorem DG{l:List Oper}{σ':St}(h:St.le E n σ σ')(k:B3 P E n ops l σ' K):B3 P E n ops l σ K:=fun a w hs=>k a w (h a w hs)
theorem H7{d e sz:Nat}(hd:look σ.sl d=some (.v (.slice none 0 0)))(he:Nat.blt e K0=true:=by rfl):St.le E n σ ((σ.new (.row e sz 0 [])).put d (.row σ.nx 0 0)):=by
 rintro a w ⟨θ,h⟩
 have h2:=h.grow (w':=w) (Below.refl _ _) (.slice none 0 0) (.row e sz 0 []) (fun k hk=>by cases hk) (fun le=>⟨[],⟨by simp,.inl ⟨by simp[cx,F1],rfl⟩⟩,(fun el mI=>by cases mI),(fun k el hk=>by simp at hk),.lt (Nat.blt_eq▸he)⟩) (N8 (Nat.blt_eq▸he))
 refine⟨_,h2.size,h2.defers,h2.fr,fun s x hs=>?_,h2.owns,h2.apart,h2.mine,h2.X,h2.base⟩
 simp only[St.put,E9]at hs
 by_cases ed:d=s
 ·subst ed
  rw[if_pos rfl]at hs
  cases hs
  have hv:=(h.slots d _ hd).val
  rw[hv]
  refine .row _ _ _ _ (by simp[cx,St.new,St.put]) fun e' mP v' l' hl=>?_
  simp only[cx,St.new,St.put,G4,if_pos]at hl
  cases hl
  exact⟨Nat.le_refl _,fun _=>⟨rfl,by simp[cx,F1]⟩⟩
 ·rw[if_neg ed]at hs
  exact h2.slots s x hs
theorem ZQ{d sz:Nat}(hd:look σ.sl d=some (.v (.slice none 0 0))):St.le E n σ (σ.put d (.sl sz [])):=by
 rintro a w ⟨θ,h⟩
 refine⟨θ,h.size,h.defers,h.fr,fun s x hs=>?_,h.owns,h.apart,h.mine,h.X,h.base⟩
 simp only[St.put,E9]at hs
 by_cases ed:d=s
 ·subst ed
  rw[if_pos rfl]at hs
  cases hs
  rw[(h.slots d _ hd).val]
  exact .im (.slnil sz)
 ·rw[if_neg ed]at hs
  exact h.slots s x hs
structure g9(P:Program)(E:Env)(n:Nat)(ops:Array Oper)(o:Oper)(rest:List Oper)(l:List AV)(σ:St)(K:St→Prop):Prop where
 h:B3 P E n ops (o::rest) σ K
mutual
def cD:AV→Option Nat
 |.ref i _|.row i _ _|.elt i _ _ _=>some i
 |.agg l|.tup l|.fo _ l=>PY l
 |_=>none
def PY:List AV→Option Nat
 |[]=>none
 |x::r=>match cD x with
  |some i=>some i
  |none=>PY r
end
theorem Mp{f:Nat}{xs:List Operand}{ts:Array TypeId}{d:Nat}{ty:TypeId}{pos:String}{after:Array Edge}{M L l:List AV}{r:AV}(is:List Nat)(hc:A3 P f M r)(om:m4 (F5 σ) xs=some l)(hL:CD σ.hp (CZ is σ.hp) l=L)(hM:L++[]=M)(mf:I9 L=true)(nV:Fa r=true)(hd:Nat.blt d n=true)
  (k:B3 P E n ops rest (σ.put d r) K):g9 P E n ops ⟨some d,.call ⟨.value (.func f),⟨xs⟩,ts⟩,ty,pos,after,none⟩ rest l σ K :=
 ⟨IV (Rs is (caps:=[]) (hM▸hc) om hL mf nV fun _ _ _ _=>⟨[],rfl,rfl,fun j x c hx=>by simp at hx⟩) hd k⟩
theorem I4{o:Oper}{l:List AV}(i:Nat)(h:B3 P E n ops (o::rest) (σ.frz i) K):g9 P E n ops o rest l σ K:=⟨DG (Et i) h⟩
def lits:List Nat:=[0,1,2,3,4,5,6,7,8,9,10,11,12,13,14,15,16,17,18,19,20,21,22,23,24,25,26,27,28,29,30,31,32,33,34,35,36,37,38,39,40,41,42,43,44,45,46,47,48,49,50,51,52,53,54,55,56,57,58,59,60,61,62,63]
def Il:List Nat→Nat→Option Nat
 |[],_=>none
 |x::_,0=>some x
 |_::r,k+1=>Il r k
theorem Vi:∀(l:List Nat) (m:Nat),Il l m=l[m]?
 |[],m=>by simp[Il]
 |x::r,0=>by simp[Il]
 |x::r,k+1=>by simp[Il,Vi r k]
theorem ZR{m k:Nat}(h:Il lits m=some k):k=m:=by
 by_cases hm:m<64
 ·have h2:∀j,j<64→Il lits j=some j:=by decide
  rw[h2 m hm]at h
  exact(Option.some.inj h).symm
 ·rw[Vi,List.getElem?_eq_none (by simp[lits];omega)]at h
  cases h
def H0(m:Nat)(F:Nat→Prop):Prop :=
 match Il lits m with
 |some k=>F k
 |none=>F m
theorem E3{m:Nat}{F:Nat→Prop}(h:H0 m F):F m:=by
 unfold H0 at h
 split at h
 ·rename_i hk;rw[ZR hk]at h;exact h
 ·exact h
def SC(P:Program)(E:Env)(n:Nat)(ops:Array Oper)(o:Oper)(T:Nat)(x y:Option AV)(rest:List Oper)(σ:St)(K:St→Prop):Prop :=
 match x,y with
 |some (.ref i off),some av=>match A5 σ.hp i with
  |some (.bx τ l)=>LT P T fun _ sz=>cond (Nat.beq (K2 av).length sz && Nat.ble (off+sz) l.length) (Ru σ.hp av (Wz σ.hp (K2 av) (B3 P E n ops rest (σ.set i (.bx τ (CB l off (K2 av)))) K))) False
  |_=>False
 |some (.elt i ver k off),some av=>match A5 σ.hp i with
  |some (.row e sz mz l)=>G5 (ver=mz∧off<sz) (LT P T fun ag szT=>cond (cond ag false (Nat.beq szT 1 && w8 e)) (cond (J1 av) (Rt σ.hp av (Q1 l (k:Int) fun el=>B3 P E n ops rest (σ.set i (.row e sz ver (l.set k (el.set off av)))) K)) (g9 P E n ops o rest [av] σ K)) False)
  |_=>False
 |_,_=>False
def ew(P:Program)(E:Env)(n:Nat)(ops:Array Oper)(d T:Nat)(x y:Option AV)(rest:List Oper)(σ:St)(K:St→Prop):Prop :=
 match x,y with
 |some (.v (.int .i64 m)),some (.v (.int .i64 m'))=>Eu P T fun e sz bs z=>cond (Nat.blt e K6) (G5 (m=m'∧0≤m∧bs*m.toNat≤281474976710656∧m≤9223372036854775807) (H0 σ.nx fun nx=>B3 P E n ops rest ((σ.new (.row e sz 0 (List.replicate m.toNat z))).put d (.row nx 0 m.toNat)) K)) False
 |_,_=>False
def Vj(P:Program)(E:Env)(n:Nat)(ops:Array Oper)(d T:Nat)(x y:Option AV)(rest:List Oper)(σ:St)(K:St→Prop):Prop :=
 match x,y with
 |some (.row i ver len),some (.sl mP m)=>match A5 σ.hp i with
  |some (.row e sz mz l)=>G5 (ver=mz) (Eu P T fun e' oB bs _=>cond (Nat.beq e e' && Nat.beq sz oB && Nat.beq sz mP && Nat.blt 0 sz && Nat.blt e J4) (G5 (∀el∈m,∀u∈el,c9 u) (G5 ((len+m.length)*bs≤140737488355328∧len+m.length≤9223372036854775807)
    (B3 P E n ops rest ((σ.set i (.row e sz (ver+1) (l++m))).put d (.row i (ver+1) (len+m.length))) K))) False)
  |_=>False
 |some (.row i ver len),some (.row j tM wY)=>match A5 σ.hp i,A5 σ.hp j with
  |some (.row e sz mz l),some (.row _ mP ver2' m)=>G5 (ver=mz∧tM=ver2') (Eu P T fun e' oB bs _=>cond (Nat.beq e e' && Nat.beq sz oB && Nat.beq sz mP && Nat.blt 0 sz && Nat.blt e J4) (G5 (∀el∈m,∀u∈el,c9 u) (G5 ((len+m.length)*bs≤140737488355328∧len+m.length≤9223372036854775807)
    (B3 P E n ops rest ((σ.set i (.row e sz (ver+1) (l++m))).put d (.row i (ver+1) (len+m.length))) K))) False)
  |_,_=>False
 |some (.v (.slice none 0 0)),some (.sl mP m)=>Eu P T fun e sz bs _=>cond (Nat.beq sz mP && Nat.blt 0 sz && Nat.blt e J4) (G5 (∀el∈m,∀u∈el,c9 u) (G5 ((0+m.length)*bs≤140737488355328∧0+m.length≤9223372036854775807)
   (H0 σ.nx fun nx=>B3 P E n ops rest (((σ.new (.row e sz 0 [])).set nx (.row e sz 1 ([]++m))).put d (.row nx 1 (0+m.length))) K))) False
 |_,_=>False
def Vk(P:Program)(E:Env)(n:Nat)(ops:Array Oper)(d T T2:Nat)(x:Option AV)(s:List UInt8)(rest:List Oper)(σ:St)(K:St→Prop):Prop :=
 match x with
 |some (.row i ver len)=>match A5 σ.hp i with
  |some (.row e sz mz l)=>G5 (ver=mz) (Eu P T fun e' oB bs _=>DZ P T2 (cond (Nat.beq e e' && Nat.beq sz 1 && Nat.beq oB 1 && Nat.beq bs 1 && Nat.blt e J4) (ep P e (G5 (len+s.length≤140737488355328) (B3 P E n ops rest ((σ.set i (.row e 1 (ver+1) (l++IE s))).put d (.row i (ver+1) (len+s.length))) K))) False))
  |_=>False
 |some (.v (.slice none 0 0))=>Eu P T fun e sz bs _=>DZ P T2 (cond (Nat.beq sz 1 && Nat.beq bs 1 && Nat.blt e J4) (ep P e (G5 (0+s.length≤140737488355328) (H0 σ.nx fun nx=>B3 P E n ops rest (((σ.new (.row e 1 0 [])).set nx (.row e 1 1 ([]++IE s))).put d (.row nx 1 (0+s.length))) K))) False)
 |_=>False
def ZS(P:Program)(E:Env)(n:Nat)(ops:Array Oper)(T:Nat)(x y z:Option AV)(rest:List Oper)(σ:St)(K:St→Prop):Prop :=
 match x,y,z with
 |some (.mp i),some qz,some av=>match A5 σ.hp i,keyOf qz with
  |some (.map m),some k=>Ww P T fun t _=>cond (DY t k && J1 av) (G5 (t4 t m) (B3 P E n ops rest (σ.set i (.map (d0 m k av))) K)) False
  |_,_=>False
 |_,_,_=>False
def jI(P:Program)(E:Env)(n:Nat)(ops:Array Oper)(o:Oper)(rest:List Oper)(σ:St)(K:St→Prop):Prop :=
 match o.dst,o.op with
 |some d,.box T x=>cond (Nat.blt d n) (Y5 (F5 σ x) fun av=>Ru σ.hp av (H0 σ.nx fun nx=>B3 P E n ops rest ((σ.new (.box (K2 av))).put d (.ref nx 0)) K)) False
 |some d,.alloc T=>cond (Nat.blt d n) (Wv P T fun l=>H0 σ.nx fun nx=>B3 P E n ops rest ((σ.new (.box l)).put d (.ref nx 0)) K) False
 |none,.store T x y=>SC P E n ops ⟨o.dst,o.op,o.type,o.pos,o.after,none⟩ T (F5 σ x) (F5 σ y) rest σ K
 |some d,.makeSlice T x y=>cond (Nat.blt d n) (ew P E n ops d T (F5 σ x) (F5 σ y) rest σ K) False
 |some d,.makeMap T none=>cond (Nat.blt d n) (H0 σ.nx fun nx=>B3 P E n ops rest ((σ.new (.map [])).put d (.mp nx)) K) False
 |none,.mapUpdate T x y z=>ZS P E n ops T (F5 σ x) (F5 σ y) (F5 σ z) rest σ K
 |some d,.call ⟨.builtin .append,⟨[x,y]⟩,⟨[T,T']⟩⟩=>match F5 σ y with
  |some (.str s)=>cond (Nat.blt d n) (Vk P E n ops d T T' (F5 σ x) s rest σ K) False
  |_=>cond (Nat.blt d n && Nat.beq T T') (Vj P E n ops d T (F5 σ x) (F5 σ y) rest σ K) False
 |some d,.call ⟨.builtin .unsafeSliceData,⟨[x]⟩,ts⟩=>g9 P E n ops ⟨o.dst,o.op,o.type,o.pos,o.after,none⟩ rest [] σ K
 |some d,.call ⟨.builtin .unsafeString,⟨[x,y]⟩,ts⟩=>g9 P E n ops ⟨o.dst,o.op,o.type,o.pos,o.after,none⟩ rest [] σ K
 |some d,.call ⟨.value (.func f),⟨args⟩,_⟩=>cond (Nat.blt d n) (match m4 (F5 σ) args with
  |some l=>cond (I9 l) (RC P f (l++[]) fun av=>B3 P E n ops rest (σ.put d av) K) (g9 P E n ops ⟨o.dst,o.op,o.type,o.pos,o.after,none⟩ rest l σ K)
  |none=>False) False
 |some d,.call ⟨.value (.tmp t),⟨args⟩,ts⟩=>match F5 σ (.tmp t),m4 (F5 σ) args with
  |some (.fo _ caps),some l=>g9 P E n ops ⟨o.dst,o.op,o.type,o.pos,o.after,none⟩ rest (l++caps) σ K
  |_,_=>cond (Nat.blt d n) (Fb P (.call ⟨.value (.tmp t),⟨args⟩,ts⟩) (F5 σ) σ.hp fun av=>B3 P E n ops rest (σ.put d av) K) False
 |some d,.buildSlice T len ⟨parts⟩=>match BP (F5 σ) parts with
  |some ps=>cond (ps.all fun p=>J1 p.2) (cond (Nat.blt d n) (Fb P (.buildSlice T len ⟨parts⟩) (F5 σ) σ.hp fun av=>B3 P E n ops rest (σ.put d av) K) False) (g9 P E n ops ⟨o.dst,o.op,o.type,o.pos,o.after,none⟩ rest (ps.map (·.2)) σ K)
  |none=>False
 |some d,.slice T x lo hi none=>match F5 σ x with
  |some (.row i v len)=>g9 P E n ops ⟨o.dst,o.op,o.type,o.pos,o.after,none⟩ rest [.row i v len] σ K
  |_=>cond (Nat.blt d n) (Fb P (.slice T x lo hi none) (F5 σ) σ.hp fun av=>B3 P E n ops rest (σ.put d av) K) False
 |some d,.makeFunc f ⟨x::xs⟩ ⟨[]⟩=>g9 P E n ops ⟨o.dst,o.op,o.type,o.pos,o.after,none⟩ rest [] σ K
 |some d,.makeFunc f ⟨[]⟩ ⟨xs⟩=>cond (Nat.blt d n) (match m4 (F5 σ) xs with
  |some l=>cond (I9 l) (Fb P (.makeFunc f ⟨[]⟩ ⟨xs⟩) (F5 σ) σ.hp fun av=>B3 P E n ops rest (σ.put d av) K) (g9 P E n ops ⟨o.dst,o.op,o.type,o.pos,o.after,none⟩ rest l σ K)
  |none=>False) False
 |some d,op=>cond (Nat.blt d n) (Fb P op (F5 σ) σ.hp fun av=>B3 P E n ops rest (σ.put d av) K) False
 |_,_=>False
theorem SD{T:Nat}(h:SC P E n ops ⟨none,.store T x y,ty,pos,after,none⟩ T (F5 σ x) (F5 σ y) rest σ K):B3 P E n ops (⟨none,.store T x y,ty,pos,after,none⟩::rest) σ K:=by
 unfold SC at h
 split at h
 ·rename_i hx hy
  split at h
  ·rename_i hb
   obtain⟨⟨ag,sz,tv,h⟩⟩:=h
   obtain⟨hs,h⟩:=cond_false h
   simp only[Bool.and_eq_true,Nat.beq_eq,Nat.ble_eq]at hs
   obtain⟨hf,h⟩:=Ij h
   obtain⟨ho,h⟩:=Mj h
   exact OK (ag:=ag) (sz:=sz) hx hy hb hf ho hs.1 hs.2 h
  ·exact h.elim
 ·rename_i hx hy
  split at h
  ·rename_i e sz mz l hb
   obtain⟨⟨rfl,oK⟩,h⟩:=h
   obtain⟨⟨ag,szT,tv,h⟩⟩:=h
   obtain⟨hs,h3⟩:=cond_false h
   clear h
   cases ag with
   |true=>cases hs
   |false =>
    have h4:=h3
    clear h3
    cases mf:J1 _ with
    |false =>
     rw[mf]at h4
     exact h4.h
    |true =>
     rw[mf]at h4
     obtain⟨ho,h⟩:=Ii h4
     obtain⟨h0,h1,hk⟩:=h
     rename_i k _ _ _
     have mM:k<l.length:=by omega
     have mI:l[k]?=some l[k]:=List.getElem?_eq_getElem mM
     have mR:(Nat.beq szT 1 && w8 e)=true:=hs
     rw[Bool.and_eq_true]at mR
     exact OL (szT:=szT) hx hy hb mI oK (Nat.eq_of_beq_eq_true mR.1) mf ho (hk _ (by rw[Int.toNat_natCast];exact mI)) mR.2
  ·exact h.elim
 ·exact h.elim
theorem ZT{o:Oper}(hg:o.guard=none)(h:jI P E n ops o rest σ K):B3 P E n ops (o::rest) σ K:=by
 obtain⟨dst,op,ty,pos,after,guard⟩:=o
 simp only at hg
 subst hg
 have quiet:∀{d:Nat} {op:Op},Nat.blt d n=true→Fb P op (F5 σ) σ.hp (fun av=>B3 P E n ops rest (σ.put d av) K)→B3 P E n ops (⟨some d,op,ty,pos,after,none⟩::rest) σ K:=by
  intro d op hd h
  obtain⟨av,hq,h⟩:=er (E:=E) (nx:=σ.nx) (ty:=ty) h
  exact IV hq hd h
 unfold jI at h
 simp only at h
 split at h
 ·rename_i ho
  obtain⟨hd,h⟩:=cond_false h
  obtain⟨av,hx,h⟩:=J8 h
  obtain⟨hf,h⟩:=Ij h
  exact bc hx hf hd (E3 h)
 ·obtain⟨hd,h⟩:=cond_false h
  obtain⟨⟨l,tz,h⟩⟩:=h
  exact Ws (l:=l) hd (E3 h)
 ·exact SD h
 ·obtain⟨hd,h⟩:=cond_false h
  unfold ew at h
  split at h
  ·rename_i hx hy
   obtain⟨⟨e,sz,bs,z,ts,tz,tb,hz,h⟩⟩:=h
   obtain⟨pf,hq⟩:=cond_false h
   clear h
   obtain⟨⟨rfl,h0,h1,h2⟩,hq⟩:=hq
   exact ZK (e:=e) (z:=z) (by_:=bs) hx hy h0 h1 h2 hz (Nat.blt_eq▸pf) hd (E3 hq)
  ·exact h.elim
 ·obtain⟨hd,h⟩:=cond_false h
  exact Ro hd (E3 h)
 ·unfold ZS at h
  split at h
  ·rename_i hx hy hz
   split at h
   ·rename_i hb hk
    obtain⟨⟨k,e,t,z,tm,h⟩⟩:=h
    obtain⟨hc,h⟩:=cond_false h
    simp only[Bool.and_eq_true]at hc
    exact OM (T:=_) hx hb hy hk hc.1 h.h hz hc.2 h.k
   ·exact h.elim
  ·exact h.elim
 ·split at h
  ·rename_i xr
   obtain⟨hd,h3⟩:=cond_false h
   clear h
   unfold Vk at h3
   split at h3
   ·rename_i hx
    split at h3
    ·rename_i hb
     obtain⟨rfl,h⟩:=h3
     obtain⟨⟨e,sz,bs,z,ts,tz,tb,hz,h⟩⟩:=h
     obtain⟨tu,h⟩:=h
     obtain⟨hc,h5⟩:=cond_false h
     clear h
     simp only[Bool.and_eq_true,Nat.beq_eq,Nat.blt_eq]at hc
     obtain⟨⟨⟨⟨rfl,rfl⟩,rfl⟩,rfl⟩,nN⟩:=hc
     obtain⟨⟨mL,h⟩⟩:=h5
     exact MY hx hb xr nN mL hd h
    ·exact h3.elim
   ·rename_i hx
    obtain⟨⟨e,sz,bs,z,ts,tz,tb,hz,h⟩⟩:=h3
    obtain⟨tu,h⟩:=h
    obtain⟨hc,h5⟩:=cond_false h
    clear h
    simp only[Bool.and_eq_true,Nat.beq_eq,Nat.blt_eq]at hc
    obtain⟨⟨rfl,rfl⟩,nN⟩:=hc
    obtain⟨⟨mL,h⟩⟩:=h5
    exact Ib hx xr nN mL hd (E3 h)
   ·exact h3.elim
  rename_i xr
  clear xr
  obtain⟨hd,h3⟩:=cond_false h
  clear h
  have h:=h3
  clear h3
  simp only[Bool.and_eq_true,Nat.beq_eq]at hd
  obtain⟨hd,rfl⟩:=hd
  unfold Vj at h
  split at h
  ·rename_i hx hy
   split at h
   ·rename_i hb
    obtain⟨rfl,h⟩:=h
    obtain⟨⟨e,sz,bs,z,ts,tz,tb,hz,h⟩⟩:=h
    obtain⟨hc,h3⟩:=cond_false h
    clear h
    simp only[Bool.and_eq_true,Nat.beq_eq,Nat.blt_eq]at hc
    obtain⟨⟨⟨⟨rfl,rfl⟩,rfl⟩,mg⟩,nN⟩:=hc
    obtain⟨nQ,h⟩:=h3
    obtain⟨mL,h⟩:=h
    exact MZ (z:=z) (by_:=bs) hx hb hy nQ hz mg nN mL.1 mL.2 hd h
   ·exact h.elim
  ·rename_i hx hy
   split at h
   ·rename_i hb mj
    obtain⟨⟨rfl,rfl⟩,h⟩:=h
    obtain⟨⟨e,sz,bs,z,ts,tz,tb,hz,h⟩⟩:=h
    obtain⟨hc,h3⟩:=cond_false h
    clear h
    simp only[Bool.and_eq_true,Nat.beq_eq,Nat.blt_eq]at hc
    obtain⟨⟨⟨⟨rfl,rfl⟩,rfl⟩,mg⟩,nN⟩:=hc
    obtain⟨nQ,h⟩:=h3
    obtain⟨mL,h⟩:=h
    exact LR (z:=z) (by_:=bs) hx hb hy mj nQ hz mg nN mL.1 mL.2 hd h
   ·exact h.elim
  ·rename_i hx hy
   obtain⟨⟨e,sz,bs,z,ts,tz,tb,hz,h⟩⟩:=h
   obtain⟨hc,h3⟩:=cond_false h
   clear h
   simp only[Bool.and_eq_true,Nat.beq_eq,Nat.blt_eq]at hc
   obtain⟨⟨rfl,mg⟩,nN⟩:=hc
   obtain⟨nQ,h⟩:=h3
   obtain⟨mL,h⟩:=h
   exact Ma (z:=z) (by_:=bs) hx hy nQ hz mg nN mL.1 mL.2 hd (E3 h)
  ·exact h.elim
 ·exact h.h
 ·exact h.h
 ·obtain⟨hd,h⟩:=cond_false h
  split at h
  ·rename_i l hl
   cases hc:I9 l with
   |true =>
    rw[hc]at h
    obtain⟨⟨r,hr,h⟩⟩:=h
    rw[List.append_nil]at hr
    exact IV (Rg hr hl hc) hd h
   |false =>
    rw[hc]at h
    exact h.h
  ·exact h.elim
 ·split at h
  ·exact h.h
  ·obtain⟨hd,h⟩:=cond_false h
   exact quiet hd h
 ·split at h
  ·rename_i ps rj
   cases hc:ps.all fun p=>J1 p.2 with
   |true =>
    rw[hc]at h
    obtain⟨hd,h⟩:=cond_false h
    exact quiet hd h
   |false =>
    rw[hc]at h
    exact h.h
  ·exact h.elim
 ·split at h
  ·exact h.h
  ·obtain⟨hd,h⟩:=cond_false h
   exact quiet hd h
 ·exact h.h
 ·obtain⟨hd,h⟩:=cond_false h
  split at h
  ·rename_i l hl
   cases hc:I9 l with
   |true =>
    rw[hc]at h
    exact quiet hd h
   |false =>
    rw[hc]at h
    exact h.h
  ·exact h.elim
 ·obtain⟨hd,h⟩:=cond_false h
  exact quiet hd h
 ·exact h.elim
structure P6(b g:Bool)(A B:Prop):Prop where
 t:b=g→A
 f:b=(!g)→B
theorem cE{A B:Prop}(k:A):P6 true true A B:=⟨fun _=>k,fun h=>by cases h⟩
theorem cF{A B:Prop}(k:A):P6 false false A B:=⟨fun _=>k,fun h=>by cases h⟩
theorem cG{A B:Prop}(k:B):P6 true false A B:=⟨(fun h=>by cases h),fun _=>k⟩
theorem cH{A B:Prop}(k:B):P6 false true A B:=⟨(fun h=>by cases h),fun _=>k⟩
theorem cI{p A B:Prop}[Decidable p](h1:p→A)(h2:¬p→B):P6 (decide p) true A B:=⟨fun h=>h1 (of_decide_eq_true h),fun h=>h2 (of_decide_eq_false h)⟩
theorem cJ{p A B:Prop}[Decidable p](h1:¬p→A)(h2:p→B):P6 (decide p) false A B:=⟨fun h=>h1 (of_decide_eq_false h),fun h=>h2 (of_decide_eq_true h)⟩
theorem cK{b:Bool}{A B:Prop}(h1:b=true→A)(h2:b=false→B):P6 b true A B:=⟨h1,h2⟩
theorem cL{b:Bool}{A B:Prop}(h1:b=false→A)(h2:b=true→B):P6 b false A B:=⟨h1,h2⟩
theorem ZU{p A B:Prop}[Decidable p](h1:¬p→A)(h2:p→B):P6 (!decide p) true A B:=⟨fun h=>h1 (by simpa using h),fun h=>h2 (by simpa using h)⟩
theorem ZV{p A B:Prop}[Decidable p](h1:p→A)(h2:¬p→B):P6 (!decide p) false A B:=⟨fun h=>h1 (by simpa using h),fun h=>h2 (by simpa using h)⟩
theorem ZW{b:Bool}{A B:Prop}(h1:b=false→A)(h2:b=true→B):P6 (!b) true A B:=⟨fun h=>h1 (by simpa using h),fun h=>h2 (by simpa using h)⟩
theorem ZX{b:Bool}{A B:Prop}(h1:b=true→A)(h2:b=false→B):P6 (!b) false A B:=⟨fun h=>h1 (by simpa using h),fun h=>h2 (by simpa using h)⟩
def jJ(P:Program)(E:Env)(n:Nat)(ops:Array Oper)(l:List Oper)(σ:St)(K:St→Prop):Prop :=
 match l with
 |[]=>K σ
 |⟨dst,op,ty,pos,after,none⟩::rest=>jI P E n ops ⟨dst,op,ty,pos,after,none⟩ rest σ K
 |⟨some dd,op,ty,pos,after,some (j,g)⟩::rest=>match (ops[j]?).bind (·.dst)with
  |some dj=>cond (Nat.blt dd n) (match look σ.sl dj with
   |some (.v (.bool b))=>P6 b g (B3 P E n ops (⟨some dd,op,ty,pos,after,none⟩::rest) (σ.put dj (.v (.bool g))) K)
     (B3 P E n ops rest ((σ.put dj (.v (.bool !g))).put dd (.v undef)) K)
   |some (.v (.tuple t))=>B3 P E n ops rest (σ.put dd (.v undef)) K
   |_=>False) False
  |none=>False
 |⟨none,_,_,_,_,some _⟩::_=>False
theorem DH{l:List Oper}(h:jJ P E n ops l σ K):B3 P E n ops l σ K:=by
 unfold jJ at h
 split at h
 ·exact bT h
 ·exact ZT rfl h
 ·split at h
  ·rename_i dj hj
   obtain⟨qR,h⟩:=cond_false h
   split at h
   ·rename_i b hb
    exact RV hj hb qR h.t h.f
   ·rename_i t hb
    exact IB hj hb rfl qR h
   ·exact h.elim
  ·exact h.elim
 ·exact h.elim
structure Mq(P:Program)(E:Env)(n:Nat)(c:Code)(σ:St)(Q:Exit→St→Prop):Prop where
 h:C9 P E n (.loop c) σ Q
structure Ca(P:Program)(E:Env)(n:Nat)(id:Nat)(ops:Array Oper)(σ:St)(Q:Exit→St→Prop):Prop where
 h:C9 P E n (.region id ops true) σ Q
def XC(P:Program)(E:Env)(n:Nat)(c:Code)(σ:St)(Q:Exit→St→Prop):Prop :=
 match c with
 |.seq a b=>C9 P E n a σ (Qy (fun σ'=>C9 P E n b σ' Q) Q)
 |.region _ ops false=>B3 P E n ops ops.toList σ (fun σ'=>Q .normal σ')
 |.region id ops true=>Ca P E n id ops σ Q
 |.skip=>Q .normal σ
 |.ret=>Q .ret σ
 |.exit i=>Q (.exit i) σ
 |.block id c=>C9 P E n c σ (MK id Q)
 |.cond (.tmp t) a b=>match look σ.sl t with
  |some (.v (.bool c))=>Bf c (C9 P E n a (σ.put t (.v (.bool true))) Q) (C9 P E n b (σ.put t (.v (.bool false))) Q)
  |_=>False
 |.cond (.const (.bool true)) a b=>C9 P E n a σ Q
 |.cond (.const (.bool false)) a b=>C9 P E n b σ Q
 |.loop c=>Mq P E n c σ Q
 |_=>False
theorem ZY{c:Code}(h:XC P E n c σ Q):C9 P E n c σ Q:=by
 unfold XC at h
 split at h
 ·exact fN h
 ·exact Wh rfl h
 ·exact h.h
 ·exact bU h
 ·exact fO h
 ·exact bV h
 ·exact Yu h
 ·split at h
  ·rename_i hc;exact Wk hc h.t h.f
  ·exact h.elim
 ·exact Wi rfl h
 ·exact Wj rfl h
 ·exact h.h
 ·exact h.elim
theorem A9{ι:Type}{c:Code}(S:ι→St)(I:ι→Prop)(m:ι→Nat)(x0:ι)(hI:I x0)(h0:St.le E n σ (S x0))
  (h:∀x,I x→C9 P E n c (S x) (Qy (fun σ'=>∃y,I y∧m y<m x∧St.le E n σ' (S y)) Q)):Mq P E n c σ Q:=⟨bX S I m x0 hI h0 h⟩
end rules
end Go.Av
