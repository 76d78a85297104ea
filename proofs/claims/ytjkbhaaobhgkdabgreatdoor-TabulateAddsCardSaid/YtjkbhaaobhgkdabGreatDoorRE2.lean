/- Maps, tuples, closures, parts of strings and of rows. States that say less; freezing; what a function does. One rule for every operation: what is left to prove is reckoned by unfolding. The walk: operations that make or write memory, code, and what a function does. -/
import Derived.Test.YtjkbhaaobhgkdabGreatDoorRE1
set_option linter.unusedSimpArgs false
set_option linter.unusedVariables false
set_option linter.unnecessarySimpa false
set_option maxHeartbeats 64000000
namespace Go.Av
open Go Go.RowKit
class EZ(P:Program)(T:Nat)(k e:outParam Nat)(t:outParam TypeDesc)(z:outParam Value):Prop where
 out:P.underlying T=some (.map k e)∧P.underlying k=some t∧(P.info? e).bind (·.zero)=some z
section rules
variable {P:Program} {E:Env} {n nx:Nat} {hp:Hp} {ev:Operand→Option AV} {ops:Array Oper} {rest:List Oper} {σ:St} {K:St→Prop} {Q:Exit→St→Prop}
variable {d:Nat} {ty:TypeId} {pos:String} {after:Array Edge} {x y z:Operand}
def q8(t:TypeDesc)(m:List (Key×AV)):Prop:=∀p∈m,Dm t p.1=true
theorem p7.map{θ:Th}{a:Act}{w:World}(h:p7 E θ nx hp ev a w){i:Nat}{m:List (Key×AV)}(hb:A5 hp i=some (.map m)):
  ∃r es clock,θ i=.map (some r)∧w.heap[r]?=some (.map es clock)∧es.size=m.length ∧
   ∀(j:Nat) (q:Key×AV) e,m[j]?=some q→es[j]?=some e→e.key=q.1.val∧Im (kx E θ nx hp w).U w q.2 e.val:=(h.owns i _ hb).2
theorem run_findKey{kt:TypeId}{t:TypeDesc}{k:Key}(ht:P.underlying kt=some t){es:List MapEntry}{q:Option (Nat×Value)}(hq:Instr.findNow t k.val es 0=some q)(w:World):(Instr.findKey kt k.val es).run P w=.ok q w:=by
 simp[Instr.findKey,Sem.run_bind,run_underlying ht,hq,Sem.run_pure]
def x5(m:List (Key×AV))(k:Key)(d:AV):AV:=match n8 m k with
 |some v=>v
 |none=>d
theorem Mv{T kt e:Nat}{t:TypeDesc}{zv:Value}[tm:EZ P T kt e t zv]{θ:Th}{a:Act}{w:World}(h:p7 E θ nx hp ev a w){i:Nat}{m:List (Key×AV)}{rU:AV}{k:Key}(hx:ev x=some (.mp i))(hb:A5 hp i=some (.map m))(hy:ev y=some rU)(hk:keyOf rU=some k)(ou:Dm t k=true)(hm:q8 t m)(ok:Bool):
  ∃v,(Instr.lookup T (a.eval x) (a.eval y) ok).run P w=.ok (if ok then .tuple #[v,.bool (n8 m k).isSome]else v) w∧D7 (kx E θ nx hp w) (x5 m k (Z6 zv)) v:=by
 obtain⟨hu,ht,hz⟩:=tm.out
 obtain⟨r,es,clock,hθ,hr,hsz,uU⟩:=h.map hb
 obtain⟨hv,nz⟩:=Zp (h.rel hx)
 have oY:a.eval x=.map (some r):=by rw[hv];exact hθ
 have us:=Pf hk (h.rel hy)
 have pY:=EY ou
 obtain⟨q,hq,pZ⟩:=findNow_spec (t:=t) pY m es.toList 0 (by simpa using hsz) (fun p hp=>EY (hm p hp)) (fun j p e hj he=>(uU j p e hj (by simpa using he)).1)
 have oV:=cb (m:=m) (k:=k)
 simp only[Instr.lookup,Sem.run_bind,run_underlying hu,Result.andThen_ok,oY,us,MapKept.run_getObj_map hr,Sem.run_pure,Br ht pY,run_findKey ht hq]
 cases hf:m.findIdx? (fun p=>decide (p.1=k))with
 |none =>
  rw[hf]at pZ oV
  subst pZ
  simp only at oV
  cases hi:P.info? e with
  |none=>rw[hi]at hz;simp at hz
  |some inf =>
   rw[hi]at hz
   simp only[Sem.run_bind,k0 hi (by simpa using hz),Result.andThen_ok,Sem.run_pure,oV]
   refine⟨zv,by cases ok<;>rfl,?_⟩
   simp only[x5,oV]
   exact .im (Il zv)
 |some j =>
  rw[hf]at pZ oV
  obtain⟨e,he,rfl⟩:=pZ
  obtain⟨p,hp1,hp2,hp3⟩:=oV
  simp only[Sem.run_pure,Result.andThen_ok,hp3]
  refine⟨e.val,by cases ok<;>rfl,?_⟩
  simp only[x5,hp3]
  exact .im (uU j p e hp1 (by simpa using he)).2
theorem ce{T kt e:Nat}{t:TypeDesc}{zv:Value}[tm:EZ P T kt e t zv]{i:Nat}{m:List (Key×AV)}{rU:AV}{k:Key}(hx:ev x=some (.mp i))(hb:A5 hp i=some (.map m))(hy:ev y=some rU)(hk:keyOf rU=some k)(ou:Dm t k=true)(hm:q8 t m):
  F7 P E nx hp ev (.lookup T x y false) ty (x5 m k (Z6 zv)) :=
 E0 fun _ _ _ θ a w h=>by
  obtain⟨v,h1,h2⟩:=Mv (P:=P) (T:=T) h hx hb hy hk ou hm false
  exact⟨v,by simp only[execOp,Sem.run_bind,h1,Result.andThen_ok,Sem.run_pure];rfl,h2⟩
theorem Uy{T kt e:Nat}{t:TypeDesc}{zv:Value}[tm:EZ P T kt e t zv]{i:Nat}{m:List (Key×AV)}{rU:AV}{k:Key}(hx:ev x=some (.mp i))(hb:A5 hp i=some (.map m))(hy:ev y=some rU)(hk:keyOf rU=some k)(ou:Dm t k=true)(hm:q8 t m):
  F7 P E nx hp ev (.lookup T x y true) ty (.tup [x5 m k (Z6 zv),.b (n8 m k).isSome]) :=
 E0 fun _ _ _ θ a w h=>by
  obtain⟨v,h1,h2⟩:=Mv (P:=P) (T:=T) h hx hb hy hk ou hm true
  refine⟨.tuple #[v,.bool (n8 m k).isSome],by simp only[execOp,Sem.run_bind,h1,Result.andThen_ok,Sem.run_pure];rfl,?_⟩
  exact .tup [_,_] [v,.bool (n8 m k).isSome] rfl fun j u z hu hz=>by
   match j,hu,hz with
   |0,hu,hz=>cases hu;cases hz;exact h2
   |1,hu,hz=>cases hu;cases hz;exact .im (.v _)
theorem SB(k:Key)(m:Nat):Instr.sameBits m k.val k.val=true:=by
 cases k with
 |s l =>
  simp only[Key.val,Instr.sameBits]
  show (l.toArray == l.toArray)=true
  simp
 |i k n=>simp[Key.val,Instr.sameBits]
theorem Pg{k:Key}{v:AV}:∀(m:List (Key×AV)),(match m.findIdx? (fun p=>decide (p.1=k))with
   |none=>X9 m k v=m++[(k,v)]
   |some j=>X9 m k v=m.set j (k,v))
 |[]=>rfl
 |(k',v')::r=>by
  rw[List.findIdx?_cons]
  by_cases e:k'=k
  ·simp only[e,decide_true,if_true]
   simp[X9]
  ·simp only[e,decide_false]
   have ih:=Pg (k:=k) (v:=v) r
   cases hf:r.findIdx? (fun p=>decide (p.1=k))with
   |none=>rw[hf]at ih;simp[X9,e];exact ih
   |some j=>rw[hf]at ih;simp[X9,e];exact ih
theorem Oa{T kt e:Nat}{t:TypeDesc}{zv:Value}[tm:EZ P T kt e t zv]{i:Nat}{m:List (Key×AV)}{rU av:AV}{k:Key}(hx:E9 σ x=some (.mp i))(hb:A5 σ.hp i=some (.map m))(hy:E9 σ y=some rU)(hk:keyOf rU=some k)(ou:Dm t k=true)(hm:q8 t m)(hz:E9 σ z=some av)(nl:I8 av=true)
  (kk:B0 P E n ops rest (σ.set i (.map (X9 m k av))) K):B0 P E n ops (⟨none,.mapUpdate T x y z,ty,pos,after,none⟩::rest) σ K :=
 Iu hb (fun θ a w h=>by
  obtain⟨hu,ht,_⟩:=tm.out
  obtain⟨r,es,clock,hθ,hr,hsz,uU⟩:=h.map hb
  obtain⟨hv,nz⟩:=Zp (h.rel hx)
  have oY:a.eval x=.map (some r):=by rw[hv];exact hθ
  have us:=Pf hk (h.rel hy)
  have pY:=EY ou
  obtain⟨q,hq,pZ⟩:=findNow_spec (t:=t) pY m es.toList 0 (by simpa using hsz) (fun p hp=>EY (hm p hp)) (fun j p e hj he=>(uU j p e hj (by simpa using he)).1)
  have oQ:=Pg (k:=k) (v:=av) m
  have nR:r<w.heap.size:=(Array.getElem?_eq_some_iff.1 hr).1
  have nu:∃vy qp,(Instr.mapUpdate T (a.eval x) (a.eval y) (a.eval z)).run P w=.ok () { w with heap:=w.heap.setIfInBounds r (.map vy qp) }∧vy.size=(X9 m k av).length ∧
    ∀(j:Nat) (q:Key×AV) e,(X9 m k av)[j]?=some q→vy[j]?=some e→e.key=q.1.val∧Im (kx E θ σ.nx σ.hp w).U w q.2 e.val:=by
   have wW:=(Q8 nl).im (h.rel hz)
   cases hf:m.findIdx? (fun p=>decide (p.1=k))with
   |none =>
    rw[hf]at pZ oQ
    subst pZ
    refine⟨es.push { key:=k.val,val:=a.eval z,born:=clock },clock+1,?_,by simp only[oQ];simp[hsz],fun j q e hj he=>?_⟩
    ·simp only[Instr.mapUpdate,Sem.run_bind,run_underlying hu,Result.andThen_ok,oY,us,MapKept.run_getObj_map hr,Sem.run_pure,Br ht pY,run_findKey ht hq,MapKept.run_setObj_map _ hr]
    ·simp only[oQ]at hj
     rw[Array.getElem?_push]at he
     rw[List.getElem?_append]at hj
     split at hj
     ·rename_i pQ
      rw[if_neg (by omega)]at he
      exact uU j q e hj he
     ·rename_i px
      have:j=m.length:=by
       rcases Nat.lt_or_ge m.length j with h1|h1
       ·rw[List.getElem?_eq_none (by simp;omega)]at hj;cases hj
       ·omega
      subst this
      rw[if_pos (by omega)]at he
      cases he
      simp at hj
      subst hj
      exact⟨rfl,wW⟩
   |some j0 =>
    rw[hf]at pZ oQ
    obtain⟨e0,xB,rfl⟩:=pZ
    have ph:j0<m.length:=by
     have:=(List.getElem?_eq_some_iff.1 xB).1
     simp at this
     omega
    have hmj:m[j0]?=some m[j0]:=List.getElem?_eq_getElem ph
    have vh:m[j0].1=k:=by
     have:=List.findIdx?_eq_some_iff_getElem.1 hf
     exact of_decide_eq_true this.2.1
    have qR:e0.key=k.val:=by rw[(uU j0 _ e0 hmj (by simpa using xB)).1,vh]
    refine⟨es.modify j0 fun e=>{ e with key:=k.val,val:=a.eval z },clock,?_,by simp only[oQ];simp[hsz],fun j q e hj he=>?_⟩
    ·have ye:es[j0]?=some e0:=by simpa using xB
     simp only[Instr.mapUpdate,Sem.run_bind,run_underlying hu,Result.andThen_ok,oY,us,MapKept.run_getObj_map hr,Sem.run_pure,Br ht pY,run_findKey ht hq,Nat.zero_add,ye,Option.map_some,Option.getD_some,Instr.keyThatStays,qR,SB,if_true,MapKept.run_setObj_map _ hr]
    ·simp only[oQ]at hj
     rw[Array.getElem?_modify]at he
     rw[List.getElem?_set]at hj
     by_cases ej:j0=j
     ·subst ej
      rw[if_pos rfl]at he hj
      rw[if_pos ph]at hj
      cases hj
      cases hh:es[j0]? with
      |none=>rw[hh]at he;simp at he
      |some e1=>rw[hh]at he;simp at he;subst he;exact⟨rfl,wW⟩
     ·rw[if_neg ej]at he hj
      exact uU j q e hj he
  obtain⟨vy,qp,nv,zr,we⟩:=nu
  refine⟨{ w with heap:=w.heap.setIfInBounds r (.map vy qp) },by simp only[execOp,Sem.run_bind,nv,Result.andThen_ok,Sem.run_pure],rfl,rfl,rfl,by simp,fun k hk=>?_,rfl,fun le=>?_⟩
  ·have:k≠r:=by intro e;subst e;exact hk (by rw[hθ];rfl)
   simp[Array.getElem?_setIfInBounds_ne (Ne.symm this)]
  ·refine⟨r,vy,qp,by simp[cx,E5,hθ],by simp[cx,nR],zr,fun j q e hj he=>⟨(we j q e hj he).1,((we j q e hj he).2.mono le.heap le.U)⟩⟩) kk
theorem Ph{l:List AV}{av:AV}{k:Nat}(hx:ev x=some (.tup l))(hk:l[k]?=some av):F7 P E nx hp ev (.extract x k) ty av :=
 E0 fun _ _ _ θ a w h=>by
  have:∃cs:List Value,a.eval x=.tuple cs.toArray∧l.length=cs.length∧∀(j:Nat) u z,l[j]?=some u→cs[j]?=some z→D7 (kx E θ nx hp w) u z:=by
   have r:=h.rel hx
   generalize a.eval x=v at r
   cases r with
   |im hi=>cases hi with|tup l cs hl hc=>exact⟨cs,rfl,hl,fun j u z hu hz=>.im (hc j u z hu hz)⟩
   |tup l cs hl hc=>exact⟨cs,rfl,hl,hc⟩
  obtain⟨cs,hv,hl,hr⟩:=this
  have nR:k<cs.length:=by rw[←hl];exact(List.getElem?_eq_some_iff.1 hk).1
  have hc:cs[k]?=some cs[k]:=List.getElem?_eq_getElem nR
  refine⟨cs[k],?_,hr k av _ hk hc⟩
  simp only[execOp,hv,Instr.extract]
  simp[hc,Sem.run_bind,Sem.run_pure]
theorem SC{f:Nat}{xs:List Operand}{caps:List AV}(ha:e8 ev xs=some caps)(hf:f<HE):F7 P E nx hp ev (.makeFunc (.func f) #[] xs.toArray) ty (.fo f caps) :=
 E0 fun _ _ _ θ a w h=>by
  obtain⟨hl,hr⟩:=Af h xs caps ha
  exact⟨.func (.func f) #[] (xs.map a.eval).toArray,by simp[execOp,Instr.makeFunc,Sem.run_bind,Sem.run_pure],by
   have:=D7.fo (c:=kx E θ nx hp w) f caps (xs.map a.eval) (by simp[hl]) fun j u z hu hz=>hr j u z hu hz
   unfold Rg at this
   rwa[if_pos hf]at this⟩
theorem Xa{f:Nat}{xs:List Operand}{caps:List AV}(ha:e8 ev xs=some caps)(nl:I1 caps=true):F7 P E nx hp ev (.makeFunc (.func f) #[] xs.toArray) ty (.fn f caps) :=
 E0 fun _ _ _ θ a w h=>by
  obtain⟨hl,hr⟩:=Af h xs caps ha
  refine⟨.func (.func f) #[] (xs.map a.eval).toArray,by simp[execOp,Instr.makeFunc,Sem.run_bind,Sem.run_pure],.im (.fn f caps _ (by simp[hl]) fun j u z hu hz=>?_)⟩
  exact(R5 nl u (List.mem_of_getElem? hu)).im (hr j u z hu hz)
theorem Uz(l:List UInt8)(i j:Nat):((⟨l.toArray⟩:ByteArray).extract i j)=⟨((l.take j).drop i).toArray⟩:=by
 apply ByteArray.ext
 simp[ByteArray.data_extract]
 rw[List.drop_take]
def AX(ev:Operand→Option AV)(yv:Nat):Option Operand→Option Int
 |none=>some yv
 |some x=>match ev x with
  |some (.v (.int _ i))=>some i
  |_=>none
theorem Fk{k:IntKind}{i:Int}{m:Nat}(h0:0≤i)(h1:i≤m)(c:BoundsCode)(w:World):(Instr.sliceBound (.int k i) m c).run P w=.ok i.toNat w:=by
 simp[Instr.sliceBound,asIntOf,Sem.run_bind,Sem.run_pure,h0,h1]
theorem Cb{isS:Bool}{len cap:Nat}{lo hi:Option Operand}{l h:Int}{θ:Th}{a:Act}{w:World}(pf:p7 E θ nx hp ev a w)(hl:AX ev 0 lo=some l)(hh:AX ev len hi=some h)(h0:0≤l)(h1:l≤h)(h2:h≤cap):
  (Instr.sliceBounds isS len cap (lo.map a.eval) (hi.map a.eval) none).run P w=.ok (l.toNat,h.toNat,cap) w:=by
 have hb:∀(o:Option Operand) (df:Nat) (i:Int),AX ev df o=some i→(o=none∧i=df)∨∃y k,o=some y∧a.eval y=.int k i:=by
  intro o df i ho
  cases o with
  |none=>exact .inl ⟨rfl,by simp[AX]at ho;exact ho.symm⟩
  |some y =>
   simp only[AX]at ho
   split at ho
   ·rename_i k j hj
    cases ho
    exact .inr ⟨y,k,rfl,(pf.rel hj).val⟩
   ·cases ho
 have h3:0≤h:=by omega
 rcases hb lo 0 l hl with ⟨rfl,rfl⟩|⟨yl,kl,rfl,hyl⟩<;>rcases hb hi len h hh with ⟨rfl,rfl⟩|⟨yh,kh,rfl,hyh⟩
 ·simp[Instr.sliceBounds,Sem.run_bind,Sem.run_pure]
 ·simp only[Instr.sliceBounds,Option.map_none,Option.map_some,Sem.run_bind,Sem.run_pure,Result.andThen_ok,hyh,Fk h3 h2]
  rfl
 ·simp only[Instr.sliceBounds,Option.map_none,Option.map_some,Sem.run_bind,Sem.run_pure,Result.andThen_ok,hyl,Fk h0 h1]
  rfl
 ·have h4:l≤(h.toNat:Int):=by omega
  simp only[Instr.sliceBounds,Option.map_some,Sem.run_bind,Sem.run_pure,Result.andThen_ok,hyl,hyh,Fk h3 h2,Fk h0 h4]
theorem Kz{T:Nat}[ts:j3 P T]{s:List UInt8}{lo hi:Option Operand}{l h:Int}(hx:ev x=some (.str s))(hl:AX ev 0 lo=some l)(hh:AX ev s.length hi=some h)(h0:0≤l)(h1:l≤h)(h2:h≤s.length):
  F7 P E nx hp ev (.slice T x lo hi none) ty (.str ((s.take h.toNat).drop l.toNat)) :=
 E0 fun _ _ _ θ a w hs=>by
  have hv:=(hs.rel hx).sval
  refine⟨.string ⟨((s.take h.toNat).drop l.toNat).toArray⟩,?_,.im (.str _)⟩
  have hb:=Cb (P:=P) (isS:=false) (cap:=s.length) hs hl hh h0 h1 h2
  have hsz:(ByteArray.mk s.toArray).size=s.length:=rfl
  simp only[execOp,hv,Instr.sliceAt,Instr.slice,Sem.run_bind,run_underlying ts.out,Result.andThen_ok,Option.isSome_none,Option.map_none,hsz,Bool.false_eq_true,if_false,hb,Uz,Sem.run_pure]
theorem Xb{T e sz:Nat}[ts:L7 P T e sz]{s:List (List AV)}{lo hi:Option Operand}{l h:Int}(hx:ev x=some (.sl sz s))(hl:AX ev 0 lo=some l)(hh:AX ev s.length hi=some h)(h0:0≤l)(h1:l≤h)(h2:h≤s.length):
  F7 P E nx hp ev (.slice T x lo hi none) ty (.sl sz ((s.take h.toNat).drop l.toNat)) :=
 E0 fun _ _ _ θ a w hs=>by
  obtain⟨hu,inf,oS,hsz⟩:=ts.out
  have nO:((s.take h.toNat).drop l.toNat).length=h.toNat-l.toNat:=by rw[List.length_drop,List.length_take];omega
  rcases FG (hs.rel hx)with ⟨hv,e⟩|⟨p,cap,f,hv,h3,h4,h5,h6,h7,h8⟩
  ·subst e
   have hb:=Cb (P:=P) (isS:=true) (cap:=0) hs hl hh h0 h1 (by simpa using h2)
   have e1:h=0:=by simp at h2;omega
   have e2:l=0:=by omega
   subst e1;subst e2
   refine⟨.slice none 0 0,?_,.im (.slnil sz)⟩
   simp only[List.length_nil]at hb
   simp only[execOp,hv,Instr.sliceAt,Instr.slice,Sem.run_bind,run_underlying hu,Result.andThen_ok,Option.map_none,hb,Sem.run_pure,sizeOf,typeInfo,program,Sem.run,oS]
   rfl
  ·have hb:=Cb (P:=P) (isS:=true) (cap:=cap) hs hl hh h0 h1 (by omega)
   refine⟨.slice (some (if cap=l.toNat then p else p.add (l.toNat*sz))) (h.toNat-l.toNat) (cap-l.toNat),?_,?_⟩
   ·simp only[execOp,hv,Instr.sliceAt,Instr.slice,Sem.run_bind,run_underlying hu,Result.andThen_ok,Option.map_none,hb,Sem.run_pure,sizeOf,typeInfo,program,Sem.run,oS,hsz]
    split<;>rfl
   ·rw[←nO]
    have pB:∀(i:Nat) el,((s.take h.toNat).drop l.toNat)[i]?=some el→s[l.toNat+i]?=some el∧l.toNat+i<s.length∧l.toNat≠cap:=by
     intro i el hi
     rw[List.getElem?_drop,List.getElem?_take]at hi
     split at hi
     ·have:=(List.getElem?_eq_some_iff.1 hi).1
      exact⟨hi,this,by omega⟩
     ·cases hi
    refine .im (.sl sz _ _ _ (fun i j=>f (l.toNat+i) j) (by rw[nO];omega) (by omega) (fun hne rD=>?_) (fun el nN=>?_) (fun i hi j hj=>?_) (fun i el hi j u hu=>?_))
    ·have:s≠[]:=by intro e;subst e;simp at hne
     split
     ·exact h5 this rD
     ·rw[k8];exact h5 this rD
    ·exact h6 el (List.mem_of_mem_take (List.mem_of_mem_drop nN))
    ·have hg:=pB i _ (List.getElem?_eq_getElem hi)
     rw[if_neg (fun e=>hg.2.2 e.symm),DW]
     have:=h7 (l.toNat+i) hg.2.1 j hj
     rw[Nat.add_mul,Nat.add_assoc]at this
     exact this
    ·have hg:=pB i _ hi
     exact h8 _ _ hg.1 j u hu
end rules
def KJ(h h':Hp)(i v len:Nat):AV :=
 match A5 h i with
 |some (.row _ sz v1 l)=>cond (Nat.beq v v1) (match A5 h' i with
  |some (.row _ _ v2 _)=>.row i v2 len
  |_=>.sl sz l) .any
 |_=>.any
def KK(h h':Hp)(i v k off:Nat):AV :=
 match A5 h i with
 |some (.row _ sz v1 l)=>cond (Nat.beq v v1) (match A5 h' i with
  |some (.row _ _ v2 _)=>.elt i v2 k off
  |_=>match l[k]? with
   |some el=>.iptr (el.drop off)
   |none=>.any) .any
 |_=>.any
def KL(h h':Hp)(i v lo len:Nat):AV :=
 match A5 h i with
 |some (.row _ sz v1 l)=>cond (Nat.beq v v1) (match A5 h' i with
  |some (.row _ _ v2 _)=>.sub i v2 lo len
  |_=>.sl sz ((l.take (lo+len)).drop lo)) .any
 |_=>.any
def Mw(h h':Hp)(i off:Nat):AV :=
 match A5 h i with
 |some (.bx _ l)=>match A5 h' i with
  |some _=>.ref i off
  |none=>cond (I1 l) (.iptr (l.drop off)) (.ref i off)
 |_=>.ref i off
mutual
def I5(h h':Hp):AV→AV
 |.row i v len=>KJ h h' i v len
 |.elt i v k off=>KK h h' i v k off
 |.sub i v lo len=>KL h h' i v lo len
 |.ref i off=>Mw h h' i off
 |.agg l=>.agg (Cc h h' l)
 |.tup l=>.tup (Cc h h' l)
 |.fo f l=>.fo f (Cc h h' l)
 |x=>x
def Cc(h h':Hp):List AV→List AV
 |[]=>[]
 |x::r=>I5 h h' x::Cc h h' r
end
theorem O7(h h':Hp):∀l,Cc h h' l=l.map (I5 h h')
 |[]=>by simp[Cc]
 |x::r=>by simp[Cc,O7 h h' r]
def Fl(h h':Hp):C9→C9→Prop
 |.bx τ l,b=>b=.bx τ (Cc h h' l)
 |.row e sz _ l,b=>∃v,b=.row e sz v l
 |.map m,b=>b=.map m
 |.it s p,b=>b=.it s p
mutual
def U9(m:Nat):AV→Bool
 |.ref i _=>Nat.blt i m
 |.row i _ _=>Nat.blt i m
 |.mp i=>Nat.blt i m
 |.elt i _ _ _=>Nat.blt i m
 |.sub i _ _ _=>Nat.blt i m
 |.agg l=>S0 m l
 |.tup l=>S0 m l
 |.fo _ l=>S0 m l
 |_=>true
def S0(m:Nat):List AV→Bool
 |[]=>true
 |x::r=>U9 m x && S0 m r
end
theorem Ag{m:Nat}:∀{l:List AV},S0 m l=true→∀x∈l,U9 m x=true
 |[],_,x,hx=>by cases hx
 |y::r,h,x,hx=>by
  simp only[S0,Bool.and_eq_true]at h
  rcases List.mem_cons.1 hx with rfl|hx
  ·exact h.1
  ·exact Ag h.2 x hx
structure Cx.sub(c c':Cx):Prop where
 θ:c'.θ=c.θ
 w:c'.w=c.w
 X:∀k,c'.X k→c.X k
 blk:∀i b',A5 c'.hp i=some b'→∃b,A5 c.hp i=some b∧Fl c.hp c'.hp b b'
 apart:∀i j b b' k,A5 c.hp i=some b→A5 c.hp j=some b'→FP c.θ i b k→FP c.θ j b' k→i=j
 fresh:∀i b k,A5 c.hp i=some b→FP c.θ i b k→¬c.X k
 owns:∀i b,A5 c.hp i=some b→L4 c i b
theorem cg{h h':Hp}{b b':C9}(e:Fl h h' b b'):S8 b'=S8 b:=by
 cases b with
 |bx τ l=>simp only[Fl]at e;subst e;rfl
 |row e1 sz v l=>obtain⟨v2,rfl⟩:=e;rfl
 |map m=>simp only[Fl]at e;subst e;rfl
 |it s p=>simp only[Fl]at e;subst e;rfl
theorem FP.cv{θ:Th}{i k:Nat}{h h':Hp}{b b':C9}(e:Fl h h' b b')(f:FP θ i b' k):FP θ i b k:=by
 unfold FP at f ⊢
 rwa[cg e]at f
theorem Cx.sub.U{c c':Cx}(h:c.sub c'):∀k,c'.U k→c.U k:=by
 rintro k (hk|⟨i,b,hi,hk⟩)
 ·exact .inl (h.X k hk)
 ·obtain⟨b0,pE,td⟩:=h.blk i b hi
  exact .inr ⟨i,b0,pE,FP.cv td (by rw[←h.θ];exact hk)⟩
theorem Cx.sub.notU{c c':Cx}(h:c.sub c'){i:Nat}{b:C9}(hi:A5 c.hp i=some b)(hn:A5 c'.hp i=none){k:Nat}(hk:FP c.θ i b k):¬c'.U k:=by
 rintro (hx|⟨j,b',hj,oH⟩)
 ·exact h.fresh i b k hi hk (h.X k hx)
 ·obtain⟨b0,pE,td⟩:=h.blk j b' hj
  have:=h.apart i j b b0 k hi pE hk (FP.cv td (by rw[←h.θ];exact oH))
  subst this
  rw[hn]at hj
  cases hj
theorem Cx.sub.im{c c':Cx}(h:c.sub c'){a:AV}{x:Value}(hi:Im c.U c.w a x):Im c'.U c'.w a x:=hi.mono (fun k _ _=>by rw[h.w]) fun k _ hu=>h.U k hu
theorem HN{c c':Cx}(h:c.sub c'){i e sz v:Nat}{l:List (List AV)}(hi:A5 c.hp i=some (.row e sz v l))(hn:A5 c'.hp i=none):Im c'.U c'.w (.sl sz l) (c.θ i):=by
 obtain⟨xs,nT,hsz,hr,_⟩:=h.owns i _ hi
 rcases nT.2 with ⟨hv,vo⟩|⟨g,cap,nV,hv,_,hg,hc,hm,nO,hx⟩
 ·have:l=[]:=List.eq_nil_of_length_eq_zero vo
  subst this
  rw[hv]
  exact .slnil sz
 ·have oA:=nT
  rw[hv]at oA
  rw[hv]
  have wm:¬c'.U g:=h.notU hi hn (.inl (by rw[hv];rfl))
  have pB:∀i,i<l.length→∀j,j<sz→∃y,xs[i*sz+j]?=some y:=by
   intro i hi j hj
   have h1:(i+1)*sz≤l.length*sz:=Nat.mul_le_mul_right _ hi
   rw[Nat.add_mul,Nat.one_mul]at h1
   have h2:i*sz+j<xs.length:=by rw[nT.1];omega
   exact⟨_,List.getElem?_eq_getElem h2⟩
  refine .sl sz l ⟨g,0,none⟩ cap (fun i j=>xs.getD (i*sz+j) undef) hc hm (fun _ _=>wm) hsz (fun i hi j hj=>?_) (fun k el hk j x hx=>?_)
  ·obtain⟨y,hy⟩:=pB i hi j hj
   have:=oA.cells (g:=g) rfl _ _ hy
   rw[G7,h.w]
   have e:xs.getD (i*sz+j) undef=y:=by rw[List.getD,hy];rfl
   rw[e]
   simpa [G7]using this
  ·obtain⟨y,hy,oO⟩:=hr k el hk j x hx
   have e:xs.getD (k*sz+j) undef=y:=by rw[List.getD,hy];rfl
   rw[e]
   exact h.im oO
theorem jp{U:Nat→Prop}{w:World}{sz lo len:Nat}{l:List (List AV)}{v x:Value}(h:Im U w (.sl sz l) v)(hs:Rf v sz lo len x)(hl:lo+len≤l.length):Im U w (.sl sz ((l.take (lo+len)).drop lo)) x:=by
 have nO:((l.take (lo+len)).drop lo).length=len:=by rw[List.length_drop,List.length_take];omega
 rcases hs with ⟨rfl,rfl,rfl,rfl⟩|⟨g,n,cap,rfl,rfl⟩
 ·have:(l.take (0+0)).drop 0=[]:=by simp
  rw[this];exact .slnil sz
 ·cases h with
  |sl sz l a cap f oN hm hu hsz hc h =>
   have pB:∀(i:Nat) el,((l.take (lo+len)).drop lo)[i]?=some el→l[lo+i]?=some el∧lo+i<l.length∧cap≠lo:=by
    intro i el hi
    rw[List.getElem?_drop,List.getElem?_take]at hi
    split at hi
    ·have:=(List.getElem?_eq_some_iff.1 hi).1
     exact⟨hi,this,by omega⟩
    ·cases hi
   have key:∀p:Addr,p=(if cap=lo then ⟨g,0,none⟩else ⟨g,lo*sz,none⟩)→Im U w (.sl sz ((l.take (lo+len)).drop lo)) (.slice (some p) ((l.take (lo+len)).drop lo).length (cap-lo)):=fun p hp=>by
    refine .sl sz _ p _ (fun i j=>f (lo+i) j) (by rw[nO];omega) (by omega) (fun hne rD=>?_) (fun el nN=>?_) (fun i hi j hj=>?_) (fun i el hi j u hu=>?_)
    ·have:l≠[]:=by intro e;subst e;simp at hne
     have h5:=hu this rD
     rw[hp];split<;>exact h5
    ·exact hsz el (List.mem_of_mem_take (List.mem_of_mem_drop nN))
    ·have hg:=pB i _ (List.getElem?_eq_getElem hi)
     rw[hp,if_neg hg.2.2,G7]
     have:=hc (lo+i) hg.2.1 j hj
     rw[G7,Nat.zero_add,Nat.add_mul,Nat.add_assoc]at this
     exact this
    ·have hg:=pB i _ hi
     exact h _ _ hg.1 j u hu
   have:=key _ rfl
   rwa[nO]at this
theorem ll{c c':Cx}(h:c.sub c'){a:AV}{x:Value}(hi:Im c.U c.w a x):I5 c.hp c'.hp a=a∨D7 c' (I5 c.hp c'.hp a) x:=by
 induction hi with
 |v x=>exact .inl rfl
 |str l=>exact .inl rfl
 |fn f l cs hl hc ih=>exact .inl rfl
 |iptr l a f hu hc hh ih=>exact .inl rfl
 |err t p=>exact .inl rfl
 |any x=>exact .inl rfl
 |own e sz l x=>exact .inl rfl
 |slnil sz=>exact .inl rfl
 |sl sz l a cap f oN hm hu hsz hc hh ih=>exact .inl rfl
 |agg l cs hl hc ih =>
  refine .inr ?_
  simp only[I5,O7]
  refine .agg _ cs (by simp[hl]) fun j u z hu hz=>?_
  simp only[List.getElem?_map,Option.map_eq_some_iff]at hu
  obtain⟨u0,pP,rfl⟩:=hu
  rcases ih j u0 z pP hz with e|e
  ·rw[e];exact .im (h.im (hc j u0 z pP hz))
  ·exact e
 |tup l cs hl hc ih =>
  refine .inr ?_
  simp only[I5,O7]
  refine .tup _ cs (by simp[hl]) fun j u z hu hz=>?_
  simp only[List.getElem?_map,Option.map_eq_some_iff]at hu
  obtain⟨u0,pP,rfl⟩:=hu
  rcases ih j u0 z pP hz with e|e
  ·rw[e];exact .im (h.im (hc j u0 z pP hz))
  ·exact e
theorem Iy{c c':Cx}(h:c.sub c'){a:AV}{x:Value}(r:D7 c a x):c.nx≤c'.nx∨U9 c'.nx (I5 c.hp c'.hp a)=true→D7 c' (I5 c.hp c'.hp a) x:=by
 induction r with
 |any x=>intro _;exact .any x
 |im hi =>
  intro _
  rcases ll h hi with e|e
  ·rw[e];exact .im (h.im hi)
  ·exact e
 |agg l cs hl _ ih =>
  intro nR
  simp only[I5,O7]at nR ⊢
  refine .agg _ cs (by simp[hl]) fun j u z hu hz=>?_
  have oZ:=List.mem_of_getElem? hu
  simp only[List.getElem?_map,Option.map_eq_some_iff]at hu
  obtain⟨u0,pP,rfl⟩:=hu
  exact ih j u0 z pP hz (nR.imp id fun h=>Ag (by simpa only[U9]using h) _ oZ)
 |tup l cs hl _ ih =>
  intro nR
  simp only[I5,O7]at nR ⊢
  refine .tup _ cs (by simp[hl]) fun j u z hu hz=>?_
  have oZ:=List.mem_of_getElem? hu
  simp only[List.getElem?_map,Option.map_eq_some_iff]at hu
  obtain⟨u0,pP,rfl⟩:=hu
  exact ih j u0 z pP hz (nR.imp id fun h=>Ag (by simpa only[U9]using h) _ oZ)
 |fo f l cs hl _ ih =>
  intro nR
  simp only[I5,O7]at nR ⊢
  refine .fo f _ cs (by simp[hl]) fun j u z hu hz=>?_
  have oZ:=List.mem_of_getElem? hu
  simp only[List.getElem?_map,Option.map_eq_some_iff]at hu
  obtain⟨u0,pP,rfl⟩:=hu
  exact ih j u0 z pP hz (nR.imp id fun h=>Ag (by simpa only[U9]using h) _ oZ)
 |ref i off b hi hθ =>
  intro nR
  simp only[I5,Mw]at nR ⊢
  have oW:(c.nx≤c'.nx∨U9 c'.nx (.ref i off)=true)→D7 c' (.ref i off) (.pointer (some ⟨b,off,none⟩)):=fun nR=>by
   refine .ref i off b ?_ (by rw[h.θ];exact hθ)
   rcases nR with h1|h1
   ·omega
   ·simpa only[U9,Nat.blt_eq]using h1
  split at nR
  ·rename_i l hb
   split at nR
   ·exact oW nR
   ·rename_i hn
    cases nl:I1 l with
    |false=>rw[nl]at nR;exact oW nR
    |true =>
     obtain⟨b',ny,T,oc,hh,hsz,hr⟩:=h.owns i _ hb
     have e:b'=b:=by rw[hθ]at oc;injection oc with e;injection e with e;injection e with e;exact e.symm
     subst e
     have wm:¬c'.U b':=h.notU hb hn (.inl (by rw[hθ];rfl))
     refine .im (.iptr _ _ (fun j=>ny.getD (off+j) undef) (fun _=>wm) (fun j hj=>?_) (fun j u hu=>?_))
     ·have vi:off+j<ny.size:=by rw[List.length_drop]at hj;omega
      rw[G7,h.w,J7 hh]
      simp[Array.getD,vi]
     ·rw[List.getElem?_drop]at hu
      have vi:off+j<ny.size:=by have:=(List.getElem?_eq_some_iff.1 hu).1;omega
      have pB:ny[off+j]?=some (ny.getD (off+j) undef):=by simp[Array.getD,vi]
      have:=hr _ u _ hu pB
      exact h.im ((R5 nl u (List.mem_of_getElem? hu)).im this)
  ·exact oW nR
 |row i ver len x hi hr =>
  intro nR
  simp only[I5,KJ]
  split
  ·rename_i e sz v1 l hb
   cases hv:Nat.beq ver v1 with
   |false=>exact .any x
   |true =>
    have oY:=Nat.eq_of_beq_eq_true hv
    subst oY
    obtain⟨_,rZ⟩:=hr e sz ver l hb
    obtain⟨nO,hx⟩:=rZ rfl
    simp only[cond_true]
    split
    ·rename_i e2 ov v2 l2 nt
     have nz:i<c'.nx:=by
      simp only[I5,KJ,hb,hv,cond_true,nt,U9,Nat.blt_eq]at nR
      omega
     refine .row i v2 len x nz fun e3 zo v3 l3 rC=>?_
     rw[nt]at rC
     cases rC
     refine⟨Nat.le_refl _,fun _=>?_⟩
     obtain⟨b,pR,nk⟩:=h.blk i _ nt
     rw[hb]at pR
     cases pR
     obtain⟨v,nk⟩:=nk
     cases nk
     exact⟨nO,by rw[h.θ];exact hx⟩
    ·rename_i nt
     rw[hx]
     refine .im (HN h hb ?_)
     cases hq:A5 c'.hp i with
     |none=>rfl
     |some b' =>
      obtain⟨b,pR,nk⟩:=h.blk i _ hq
      rw[hb]at pR
      cases pR
      obtain⟨v,rfl⟩:=nk
      exact absurd hq (nt _ _ _ _)
  ·exact .any x
 |mp i r hi hθ =>
  intro nR
  refine .mp i r ?_ (by rw[h.θ];exact hθ)
  simp only[I5,U9,Nat.blt_eq]at nR
  omega
 |sub i ver lo len x hi hr =>
  intro nR
  simp only[I5,KL]
  split
  ·rename_i e sz v1 l hb
   cases hv:Nat.beq ver v1 with
   |false=>exact .any x
   |true =>
    have oY:=Nat.eq_of_beq_eq_true hv
    subst oY
    obtain⟨_,rZ⟩:=hr e sz ver l hb
    obtain⟨nO,hx⟩:=rZ rfl
    simp only[cond_true]
    split
    ·rename_i e2 ov v2 l2 nt
     have nz:i<c'.nx:=by
      simp only[I5,KL,hb,hv,cond_true,nt,U9,Nat.blt_eq]at nR
      omega
     refine .sub i v2 lo len x nz fun e3 zo v3 l3 rC=>?_
     rw[nt]at rC
     cases rC
     refine⟨Nat.le_refl _,fun _=>?_⟩
     obtain⟨b,pR,nk⟩:=h.blk i _ nt
     rw[hb]at pR
     cases pR
     obtain⟨v,nk⟩:=nk
     cases nk
     exact⟨nO,by rw[h.θ];exact hx⟩
    ·rename_i nt
     refine .im (jp (HN h hb ?_) hx nO)
     cases hq:A5 c'.hp i with
     |none=>rfl
     |some b' =>
      obtain⟨b,pR,nk⟩:=h.blk i _ hq
      rw[hb]at pR
      cases pR
      obtain⟨v,rfl⟩:=nk
      exact absurd hq (nt _ _ _ _)
  ·exact .any x
 |elt i ver k off x hi hr =>
  intro nR
  simp only[I5,KK]
  split
  ·rename_i e sz v1 l hb
   cases hv:Nat.beq ver v1 with
   |false=>exact .any x
   |true =>
    have oY:=Nat.eq_of_beq_eq_true hv
    subst oY
    obtain⟨_,rZ⟩:=hr e sz ver l hb
    obtain⟨g,m,cap,hθ,hx⟩:=rZ rfl
    simp only[cond_true]
    split
    ·rename_i e2 ov v2 l2 nt
     have nz:i<c'.nx:=by
      simp only[I5,KK,hb,hv,cond_true,nt,U9,Nat.blt_eq]at nR
      omega
     refine .elt i v2 k off x nz fun e3 zo v3 l3 rC=>?_
     rw[nt]at rC
     cases rC
     refine⟨Nat.le_refl _,fun _=>?_⟩
     obtain⟨b,pR,nk⟩:=h.blk i _ nt
     rw[hb]at pR
     cases pR
     obtain⟨v,nk⟩:=nk
     cases nk
     exact⟨g,m,cap,by rw[h.θ];exact hθ,hx⟩
    ·rename_i nt
     split
     ·rename_i el nN
      have hn:A5 c'.hp i=none:=by
       cases hq:A5 c'.hp i with
       |none=>rfl
       |some b' =>
        obtain⟨b,pR,nk⟩:=h.blk i _ hq
        rw[hb]at pR
        cases pR
        obtain⟨v,rfl⟩:=nk
        exact absurd hq (nt _ _ _ _)
      have oO:=HN h hb hn
      rw[hθ]at oO
      cases oO with
      |sl sz l a oR f oN hm hu hsz hc hh =>
       have pQ:k<l.length:=(List.getElem?_eq_some_iff.1 nN).1
       have uU:=hsz el (List.mem_of_getElem? nN)
       rw[hx]
       refine .im (.iptr _ _ (fun j=>f k (off+j)) (fun hne=>?_) (fun j hj=>?_) (fun j u qe=>?_))
       ·have h1:=List.length_pos_iff.2 hne
        rw[List.length_drop]at h1
        exact hu (by intro e;subst e;simp at pQ) (by omega)
       ·rw[List.length_drop]at hj
        have:=hc k pQ (off+j) (by omega)
        rw[G7]at this ⊢
        rw[←this]
        congr 2
        omega
       ·rw[List.getElem?_drop]at qe
        exact hh k el nN (off+j) u qe
     ·exact .any x
  ·exact .any x
theorem J0.cv{E:Env}{n:Nat}{θ:Th}{σ σ':St}{a:Act}{w:World}(h:J0 E n θ σ a w)(h0:E.n0≤σ'.nx)
  (hs:∀s x',look σ'.sl s=some x'→∃x,look σ.sl s=some x∧I5 σ.hp σ'.hp x=x'∧(σ.nx≤σ'.nx∨U9 σ'.nx x'=true))
  (hb:∀i b',A5 σ'.hp i=some b'→(σ.nx≤σ'.nx∨i<σ'.nx)∧∃b,A5 σ.hp i=some b∧Fl σ.hp σ'.hp b b'∧(σ.nx≤σ'.nx∨∀τ l,b'=.bx τ l→S0 σ'.nx l=true))
  (hv:∀i e sz v l,A5 σ'.hp i=some (.row e sz v l)→FB e=true→σ.nx≤σ'.nx∧∀j e1 se v1 l1 v2,A5 σ'.hp j=some (.row e1 se v1 l1)→A5 σ.hp j=some (.row e1 se v2 l1)→v1=v2):J0 E n θ σ' a w:=by
 have sub:(cx E θ σ w).sub (cx E θ σ' w):=⟨rfl,rfl,fun _ h=>h,fun i b' hi=>by
  obtain⟨_,b,h1,h2,_⟩:=hb i b' hi
  exact⟨b,h1,h2⟩,h.apart,fun i b k hi hk=>(h.mine i b k hi hk).1,fun i b hi=>(h.owns i b hi).2⟩
 refine⟨h.size,h.defers,h.fr,fun s x' hx=>?_,fun i b' hi=>?_,fun i j b1 b2 k hi hj=>?_,fun i b' k hi=>?_,h.X,⟨h0,fun i hi=>(h.base.2 i hi).imp id fun ⟨h1,h2⟩=>⟨h1,fun ⟨e',sz,v,l,hl,hk⟩=>h2 (by
  obtain⟨_,b,g1,g2,_⟩:=hb i _ hl
  cases b with
  |bx _ _=>cases g2
  |map _=>cases g2
  |it _ _=>cases g2
  |row e1 se v1 l1 =>
   obtain⟨v2,g3⟩:=g2
   cases g3
   exact⟨_,_,_,_,g1,hk⟩)⟩⟩⟩
 ·obtain⟨x,h1,rfl,h2⟩:=hs s x' hx
  exact Iy sub (h.slots s x h1) h2
 ·obtain⟨h0,b,h1,h2,h3⟩:=hb i b' hi
  obtain⟨h4,h5⟩:=h.owns i b h1
  refine⟨h0.elim (fun h=>by omega) id,?_⟩
  cases b with
  |bx τ l =>
   simp only[Fl]at h2
   subst h2
   obtain⟨b',ny,T,e1,e2,e3,e4⟩:=h5
   refine⟨b',ny,T,e1,e2,by rw[O7,List.length_map];exact e3,fun j u z hu hz=>?_⟩
   rw[O7]at hu h3
   have oZ:=List.mem_of_getElem? hu
   simp only[List.getElem?_map,Option.map_eq_some_iff]at hu
   obtain⟨u0,pP,rfl⟩:=hu
   exact Iy sub (e4 j u0 z pP hz) (h3.imp id fun h=>Ag (h _ _ rfl) _ oZ)
  |row e sz v l =>
   obtain⟨v2,rfl⟩:=h2
   obtain⟨xs,e1,e2,e3,e4⟩:=h5
   exact⟨xs,e1,e2,(fun k el hk j x hx=>by
    obtain⟨y,hy,hi⟩:=e3 k el hk j x hx
    exact⟨y,hy,sub.im hi⟩),fun hne=>⟨(e4 hne).1,fun k el hk j e' nU l' hj=>by
    rcases(e4 hne).2 k el hk j e' nU l' hj with ⟨q0,q1,g,m,cap,y,q2,q3,q4⟩|⟨g,m,cap,y,ys,q1,q2,q3,q4,q5,q6,q7⟩
    ·obtain⟨tR,rJ⟩:=hv i e sz v2 l hi q0
     refine .inl ⟨q0,q1,g,m,cap,y,q2,q3,?_⟩
     generalize e'-H3=mm at q4 ⊢
     cases q4 with
     |im h=>cases h
     |row _ _ _ _ hm hr =>
      refine .row _ _ _ _ (Nat.lt_of_lt_of_le hm tR) fun e1 se v1 l1 om=>?_
      obtain⟨_,b1,g1,g2,_⟩:=hb _ _ om
      cases b1 with
      |bx _ _=>cases g2
      |map _=>cases g2
      |it _ _=>cases g2
      |row e3 zo v3 l3 =>
       obtain⟨v4,g3⟩:=g2
       cases g3
       have:=rJ _ _ _ _ _ _ om g1
       subst this
       exact hr _ _ _ _ g1
    exact .inr ⟨g,m,cap,y,ys,q1,q2,q3,q4,q5,fun q og hq j' x hx=>by
     obtain⟨z,hz,hi⟩:=q6 q og hq j' x hx
     exact⟨z,hz,sub.im hi⟩,q7⟩⟩⟩
  |map m =>
   simp only[Fl]at h2
   subst h2
   obtain⟨r,es,clock,e1,e2,e3,e4⟩:=h5
   exact⟨r,es,clock,e1,e2,e3,fun j q e hj he=>⟨(e4 j q e hj he).1,sub.im (e4 j q e hj he).2⟩⟩
  |it t p =>
   simp only[Fl]at h2
   subst h2
   exact h5
 ·intro pk ni
  obtain⟨_,b1',h1,g1,_⟩:=hb i b1 hi
  obtain⟨_,b2',h2,g2,_⟩:=hb j b2 hj
  exact h.apart i j _ _ k h1 h2 (FP.cv g1 pk) (FP.cv g2 ni)
 ·intro hk
  obtain⟨_,b1',h1,g1,_⟩:=hb i b' hi
  exact h.mine i _ k h1 (FP.cv g1 hk)
def SD(m:Nat):List (Nat×AV)→Bool
 |[]=>true
 |(_,x)::r=>U9 m x && SD m r
def H8(m:Nat):Hp→Bool
 |[]=>true
 |(i,some (.bx _ l))::r=>Nat.blt i m && S0 m l && H8 m r
 |(i,some (.row e _ _ _))::r=>Nat.blt i m && (!(FB e) && H8 m r)
 |(i,_)::r=>Nat.blt i m && H8 m r
theorem Pi{m:Nat}:∀{l:List (Nat×AV)} {s:Nat} {x:AV},SD m l=true→look l s=some x→U9 m x=true
 |[],s,x,_,h=>by cases h
 |(s0,x0)::r,s,x,hs,h=>by
  simp only[SD,Bool.and_eq_true]at hs
  rw[E4]at h
  by_cases e:s0=s
  ·subst e;rw[if_pos rfl]at h;cases h;exact hs.1
  ·rw[if_neg e]at h;exact Pi hs.2 h
theorem CM{m:Nat}:∀{l:Hp} {i:Nat} {b:C9},H8 m l=true→A5 l i=some b→i<m∧∀τ c,b=.bx τ c→S0 m c=true
 |[],i,b,_,h=>by cases h
 |(i0,b0)::r,i,b,hs,h=>by
  rw[F4]at h
  have oP:Nat.blt i0 m=true∧(∀τ c,b0=some (.bx τ c)→S0 m c=true)∧H8 m r=true:=by
   match b0,hs with
   |some (.bx τ c),hs=>simp only[H8,Bool.and_eq_true]at hs;exact⟨hs.1.1,(fun _ c' e=>by cases e;exact hs.1.2),hs.2⟩
   |some (.row ..),hs=>simp only[H8,Bool.and_eq_true]at hs;exact⟨hs.1,(fun _ c' e=>by cases e),hs.2.2⟩
   |some (.map ..),hs=>simp only[H8,Bool.and_eq_true]at hs;exact⟨hs.1,(fun _ c' e=>by cases e),hs.2⟩
   |some (.it ..),hs=>simp only[H8,Bool.and_eq_true]at hs;exact⟨hs.1,(fun _ c' e=>by cases e),hs.2⟩
   |none,hs=>simp only[H8,Bool.and_eq_true]at hs;exact⟨hs.1,(fun _ c' e=>by cases e),hs.2⟩
  by_cases e:i0=i
  ·subst e
   rw[if_pos rfl]at h
   subst h
   exact⟨Nat.blt_eq▸oP.1,fun τ c hc=>oP.2.1 τ c (by rw[hc])⟩
  ·rw[if_neg e]at h;exact CM oP.2.2 h
theorem Gj{m:Nat}:∀{l:Hp} {i e sz v:Nat} {c:List (List AV)},H8 m l=true→A5 l i=some (.row e sz v c)→FB e=false
 |[],i,e,sz,v,c,_,h=>by cases h
 |(i0,b0)::r,i,e,sz,v,c,hs,h=>by
  rw[F4]at h
  by_cases e0:i0=i
  ·subst e0
   rw[if_pos rfl]at h
   subst h
   simp only[H8,Bool.and_eq_true,Bool.not_eq_true']at hs
   exact hs.2.1
  ·rw[if_neg e0]at h
   have oP:H8 m r=true:=by
    match b0,hs with
    |some (.row ..),hs=>simp only[H8,Bool.and_eq_true]at hs;exact hs.2.2
    |some (.bx ..),hs=>simp only[H8,Bool.and_eq_true]at hs;exact hs.2
    |some (.map ..),hs=>simp only[H8,Bool.and_eq_true]at hs;exact hs.2
    |some (.it ..),hs=>simp only[H8,Bool.and_eq_true]at hs;exact hs.2
    |none,hs=>simp only[H8,Bool.and_eq_true]at hs;exact hs.2
   exact Gj oP h
def HO(σ:St)(h':Hp):List (Nat×AV)→Prop
 |[]=>True
 |(s,x)::r=>(look σ.sl s).map (I5 σ.hp h')=some x∧HO σ h' r
def Ea(σ:St)(h':Hp):Hp→Prop
 |[]=>True
 |(_,none)::r=>Ea σ h' r
 |(i,some b)::r=>(match A5 σ.hp i with
  |some b0=>Fl σ.hp h' b0 b
  |none=>False)∧Ea σ h' r
theorem HO.look{σ:St}{h':Hp}:∀{l:List (Nat×AV)} {s:Nat} {x:AV},HO σ h' l→look l s=some x→(look σ.sl s).map (I5 σ.hp h')=some x
 |[],s,x,_,h=>by cases h
 |(s0,x0)::r,s,x,hs,h=>by
  rw[E4]at h
  by_cases e:s0=s
  ·subst e;rw[if_pos rfl]at h;cases h;exact hs.1
  ·rw[if_neg e]at h;exact HO.look hs.2 h
theorem Ea.look{σ:St}{h':Hp}:∀{l:Hp} {i:Nat} {b:C9},Ea σ h' l→A5 l i=some b→∃b0,A5 σ.hp i=some b0∧Fl σ.hp h' b0 b
 |[],i,b,_,h=>by cases h
 |(i0,none)::r,i,b,hs,h=>by
  rw[F4]at h
  by_cases e:i0=i
  ·subst e;rw[if_pos rfl]at h;cases h
  ·rw[if_neg e]at h;exact Ea.look (l:=r) hs h
 |(i0,some b0)::r,i,b,hs,h=>by
  rw[F4]at h
  by_cases e:i0=i
  ·subst e
   rw[if_pos rfl]at h
   cases h
   have h1:=hs.1
   split at h1
   ·rename_i b1 oo;exact⟨b1,oo,h1⟩
   ·exact h1.elim
  ·rw[if_neg e]at h;exact Ea.look hs.2 h
theorem A8{E:Env}{n m:Nat}{σ σ':St}(h0:E.n0=m)(hm:Nat.ble m σ'.nx=true)(hs:HO σ σ'.hp σ'.sl)(hh:Ea σ σ'.hp σ'.hp)(hn:Nat.ble σ'.nx σ.nx=true)(hl:SD σ'.nx σ'.sl=true)(hb:H8 σ'.nx σ'.hp=true):St.le E n σ σ':=by
 rintro a w ⟨θ,h⟩
 refine⟨θ,h.cv (h0▸Nat.ble_eq▸hm) (fun s x' hx=>?_) (fun i b' hi=>?_) (fun i e sz v l hi qc=>?_)⟩
 ·have:=HO.look hs hx
  rw[Option.map_eq_some_iff]at this
  obtain⟨x,h1,h2⟩:=this
  exact⟨x,h1,h2,.inr (Pi hl hx)⟩
 ·obtain⟨b0,h1,h2⟩:=Ea.look hh hi
  obtain⟨h3,h4⟩:=CM hb hi
  exact⟨.inr h3,b0,h1,h2,.inr h4⟩
 ·rw[Gj hb hi]at qc;cases qc
def AY(f:AV→AV):List (Nat×AV)→List (Nat×AV)
 |[]=>[]
 |(s,x)::r=>(s,f x)::AY f r
def Ah(i:Nat):Hp→Hp
 |[]=>[]
 |(k,b)::r=>cond (Nat.beq k i) (Ah i r) ((k,b)::Ah i r)
def Fm(f:AV→AV):Hp→Hp
 |[]=>[]
 |(k,some (.bx τ l))::r=>(k,some (.bx τ (l.map f)))::Fm f r
 |(k,b)::r=>(k,b)::Fm f r
theorem Cd(f:AV→AV):∀(l:List (Nat×AV)) (s:Nat),look (AY f l) s=(look l s).map f
 |[],s=>rfl
 |(k,x)::r,s=>by
  simp only[AY,E4]
  by_cases e:k=s
  ·simp[e]
  ·simp[e,Cd f r s]
theorem Ai(i:Nat):∀(l:Hp) (j:Nat),A5 (Ah i l) j=if i=j then none else A5 l j
 |[],j=>by simp[Ah,A5,look]
 |(k,b)::r,j=>by
  simp only[Ah]
  cases h:Nat.beq k i with
  |true =>
   have:=Nat.eq_of_beq_eq_true h
   subst this
   rw[cond_true,Ai k r j,F4]
   by_cases e:k=j<;>simp[e]
  |false =>
   have hne:k≠i:=by intro e;subst e;simp at h
   rw[cond_false,F4,F4,Ai i r j]
   by_cases e:k=j
   ·subst e;simp[Ne.symm hne]
   ·simp[e]
def EK(f:AV→AV):C9→C9
 |.bx τ l=>.bx τ (l.map f)
 |b=>b
theorem GR(f:AV→AV):∀(l:Hp) (j:Nat),A5 (Fm f l) j=(A5 l j).map (EK f)
 |[],j=>by simp[Fm,A5,look]
 |(k,b)::r,j=>by
  have:Fm f ((k,b)::r)=(k,b.map (EK f))::Fm f r:=by
   cases b with
   |none=>rfl
   |some b=>cases b<;>rfl
  rw[this,F4,F4,GR f r j]
  by_cases e:k=j<;>simp[e]
def St.frz(σ:St)(i:Nat):St :=
 let h':=Ah i σ.hp
 { sl:=AY (I5 σ.hp h') σ.sl,nx:=σ.nx,hp:=Fm (I5 σ.hp h') h' }
theorem VA{h h1 h2:Hp}(e:∀j,(A5 h2 j)=(A5 h1 j).map (EK (I5 h h1)))(i v len:Nat):KJ h h2 i v len=KJ h h1 i v len:=by
 unfold KJ
 rw[e i]
 cases A5 h1 i with
 |none=>rfl
 |some b=>cases b<;>rfl
theorem VB{h h1 h2:Hp}(e:∀j,(A5 h2 j)=(A5 h1 j).map (EK (I5 h h1)))(i v k off:Nat):KK h h2 i v k off=KK h h1 i v k off:=by
 unfold KK
 rw[e i]
 cases A5 h1 i with
 |none=>rfl
 |some b=>cases b<;>rfl
theorem VC{h h1 h2:Hp}(e:∀j,(A5 h2 j)=(A5 h1 j).map (EK (I5 h h1)))(i v k off:Nat):KL h h2 i v k off=KL h h1 i v k off:=by
 unfold KL
 rw[e i]
 cases A5 h1 i with
 |none=>rfl
 |some b=>cases b<;>rfl
theorem VD{h h1 h2:Hp}(e:∀j,(A5 h2 j)=(A5 h1 j).map (EK (I5 h h1)))(i off:Nat):Mw h h2 i off=Mw h h1 i off:=by
 unfold Mw
 rw[e i]
 cases A5 h1 i with
 |none=>rfl
 |some b=>cases b<;>rfl
mutual
theorem Iz{h h1 h2:Hp}(e:∀j,(A5 h2 j)=(A5 h1 j).map (EK (I5 h h1))):∀a,I5 h h2 a=I5 h h1 a
 |.row i v len=>by simp only[I5];exact VA e i v len
 |.elt i v k off=>by simp only[I5];exact VB e i v k off
 |.sub i v k off=>by simp only[I5];exact VC e i v k off
 |.ref i off=>by simp only[I5];exact VD e i off
 |.agg l=>by simp only[I5];rw[CN e l]
 |.tup l=>by simp only[I5];rw[CN e l]
 |.fo f l=>by simp only[I5];rw[CN e l]
 |.any=>rfl
 |.v _=>rfl
 |.str _=>rfl
 |.iptr _=>rfl
 |.sl _ _=>rfl
 |.mp _=>rfl
 |.fn _ _=>rfl
 |.err=>rfl
 |.own _ _ _=>rfl
theorem CN{h h1 h2:Hp}(e:∀j,(A5 h2 j)=(A5 h1 j).map (EK (I5 h h1))):∀l,Cc h h2 l=Cc h h1 l
 |[]=>rfl
 |x::r=>by simp only[Cc];rw[Iz e x,CN e r]
end
theorem Gk{E:Env}{n:Nat}{σ:St}(i:Nat):St.le E n σ (σ.frz i):=by
 rintro a w ⟨θ,h⟩
 have e:∀j,A5 (σ.frz i).hp j=(A5 (Ah i σ.hp) j).map (EK (I5 σ.hp (Ah i σ.hp))):=fun j=>GR _ _ _
 refine⟨θ,h.cv h.base.1 (fun s x' hx=>?_) (fun j b' hj=>?_) (fun _ _ _ _ _ _ _=>⟨Nat.le_refl _,fun j e1 se v1 l1 v2 h1 h2=>?_⟩)⟩
 ·have pq:(look σ.sl s).map (I5 σ.hp (Ah i σ.hp))=some x':=by rw[←Cd];exact hx
  rw[Option.map_eq_some_iff]at pq
  obtain⟨x,h1,h2⟩:=pq
  exact⟨x,h1,by rw[Iz e];exact h2,.inl (Nat.le_refl _)⟩
 ·refine⟨.inl (Nat.le_refl _),?_⟩
  rw[e j,Option.map_eq_some_iff]at hj
  obtain⟨b,hb,rfl⟩:=hj
  rw[Ai]at hb
  split at hb
  ·cases hb
  ·refine⟨b,hb,?_,.inl (Nat.le_refl _)⟩
   cases b with
   |bx τ l=>simp only[Fl,EK,CN e,O7]
   |row e sz v l=>exact⟨v,rfl⟩
   |map m=>rfl
   |it _ _=>rfl
 ·rw[e j,Option.map_eq_some_iff]at h1
  obtain⟨b,hb,oK⟩:=h1
  rw[Ai]at hb
  split at hb
  ·cases hb
  ·rw[hb]at h2
   cases h2
   cases oK;rfl
def Ce:List Nat→Hp→Hp
 |[],h=>h
 |i::r,h=>Ce r (Ah i h)
theorem LA:∀(is:List Nat) (h:Hp) (j:Nat),A5 (Ce is h) j=none∨A5 (Ce is h) j=A5 h j
 |[],h,j=>.inr rfl
 |i::r,h,j=>by
  rcases LA r (Ah i h) j with e|e
  ·exact .inl e
  ·rw[Ce,e,Ai]
   by_cases sT:i=j
   ·exact .inl (by rw[if_pos sT])
   ·exact .inr (by rw[if_neg sT])
mutual
def Fo:AV→Bool
 |.v _|.str _|.err=>true
 |.agg l|.tup l=>Mx l
 |.sl _ []=>true
 |_=>false
def Mx:List AV→Bool
 |[]=>true
 |x::r=>Fo x && Mx r
end
theorem HQ:∀{l:List AV},Mx l=true→∀x∈l,Fo x=true
 |[],_,x,hx=>by cases hx
 |y::r,h,x,hx=>by
  simp only[Mx,Bool.and_eq_true]at h
  rcases List.mem_cons.1 hx with rfl|hx
  ·exact h.1
  ·exact HQ h.2 x hx
theorem gP{U U':Nat→Prop}{w:World}{a:AV}{v:Value}(h:Im U w a v):Fo a=true→Im U' w a v:=by
 induction h with
 |v x=>intro _;exact .v x
 |str l=>intro _;exact .str l
 |agg l cs hl h ih=>intro hf;exact .agg l cs hl fun j x c hx hc=>ih j x c hx hc (HQ (by simpa [Fo]using hf) x (List.mem_of_getElem? hx))
 |tup l cs hl h ih=>intro hf;exact .tup l cs hl fun j x c hx hc=>ih j x c hx hc (HQ (by simpa [Fo]using hf) x (List.mem_of_getElem? hx))
 |fn f l cs hl h ih=>intro hf;cases hf
 |iptr l a f hu hc h ih=>intro hf;cases hf
 |err t p=>intro _;exact .err t p
 |any x=>intro _;exact .any x
 |own e sz l x=>intro _;exact .own e sz l x
 |slnil sz=>intro _;exact .slnil sz
 |sl sz l a cap f oN hm hu hsz hc h ih =>
  intro hf
  cases l with
  |nil=>exact .sl sz [] a cap f oN hm (fun h=>absurd rfl h) hsz hc (fun i e he=>by simp at he)
  |cons x r=>cases hf
theorem SE{P:Program}{E:Env}{nx:Nat}{hp:Hp}{ev:Operand→Option AV}{ty:TypeId}{f:Nat}{xs:List Operand}{args caps L:List AV}{r:AV}{ts:Array TypeId}{g:Operand}(is:List Nat)(hc:A3 P f (L++caps) r)(ha:e8 ev xs=some args)
  (hL:Cc hp (Ce is hp) args=L) (nl:I1 L=true) (pF:Fo r=true)
  (hg:∀θ a w,p7 E θ nx hp ev a w→∃cs:List Value,a.eval g=.func (.func f) #[] cs.toArray∧caps.length=cs.length∧∀(j:Nat) x c,caps[j]?=some x→cs[j]?=some c→Im (kx E θ nx hp w).U w x c) :
  F7 P E nx hp ev (.call ⟨.value g,xs.toArray,ts⟩) ty r:=by
 intro d pos after θ a w K hs hk
 obtain⟨hl,hr⟩:=Af hs xs args ha
 obtain⟨cs,px,qV,ow⟩:=hg θ a w hs
 unfold IY
 rw[Rs hc.1 px]
 let h':=Ce is hp
 let H:=Fm (I5 hp h') h'
 have e:∀j,A5 H j=(A5 h' j).map (EK (I5 hp h')):=fun j=>GR _ _ _
 have sub:(kx E θ nx hp w).sub (kx E θ nx H w):=⟨rfl,rfl,fun _ h=>h,fun j b' hj=>by
  have np:A5 H j=some b':=hj
  rw[e j,Option.map_eq_some_iff]at np
  obtain⟨b,hb,rfl⟩:=np
  rcases LA is hp j with h|h
  ·have pR:A5 (Ce is hp) j=some b:=hb
   rw[h]at pR;cases pR
  ·have pR:A5 (Ce is hp) j=some b:=hb
   rw[h]at pR
   refine⟨b,pR,?_⟩
   cases b with
   |bx τ l=>simp only[Fl,EK,kx,CN e,O7]
   |row e sz v l=>exact⟨v,rfl⟩
   |map m=>rfl
   |it _ _=>rfl,hs.apart,hs.fresh,fun i b hi=>(hs.owns i b hi).2⟩
 have hX:=hc.2 (kx E θ nx H w).U w (xs.map a.eval++cs) (fun k hk=>hs.Ult k (sub.U k hk)) (hs.tab.mono (fun k _ hk=>sub.U k hk) fun _ _ _=>rfl) (by simp only[List.length_append,←hL,O7,List.length_map,hl,qV]) fun j av v hj hv=>by
  have xR:L.length=xs.length:=by rw[←hL,O7,List.length_map,hl]
  rw[List.getElem?_append]at hj hv
  have e1:(xs.map a.eval).length=L.length:=by simp[xR]
  rw[e1]at hv
  split at hj
  ·rename_i nR
   rw[if_pos nR]at hv
   have td:=R5 nl av (List.mem_of_getElem? hj)
   rw[←hL,O7,List.getElem?_map,Option.map_eq_some_iff]at hj
   obtain⟨a0,ha0,rfl⟩:=hj
   have h1:=Iy sub (hr j a0 v ha0 hv) (.inl (Nat.le_refl _))
   have h2:I5 (kx E θ nx hp w).hp (kx E θ nx H w).hp a0=I5 hp (Ce is hp) a0:=Iz (h:=hp) (h1:=h') (h2:=H) e a0
   rw[h2]at h1
   exact td.im h1
  ·rename_i nR
   rw[if_neg nR]at hv
   exact sub.im (ow _ av v hj hv)
 rw[←List.append_toArray]at hX
 refine Calls.mono hX ?_
 rintro e w' ⟨v,rfl,hv,hb⟩
 exact⟨v,rfl,hk v w' hb (.im (gP hv pF))⟩
structure F5(p A:Prop):Prop where
 h:p
 k:A
structure O6{α:Type}(l:List α)(i:Int)(F:α→Prop):Prop where
 h0:0≤i
 h:i<l.length
 k:∀el,l[i.toNat]?=some el→F el
structure jq(a:AV)(F:AV→Prop):Prop where
 h:F a
theorem RQ{a b:AV}{F:AV→Prop}(e:a=b)(h:F b):jq a F:=⟨e▸h⟩
structure Ob{α:Type}(l:List α)(F:Nat→Prop):Prop where
 k:F l.length
structure Bh(b:Bool)(A B:Prop):Prop where
 t:b=true→A
 f:b=false→B
structure RR(P:Program)(f:Nat)(args:List AV)(F:AV→Prop):Prop where
 h:∃r,RP P f args r∧F r
structure lm(P:Program)(f:Nat)(hp:Hp)(l caps:List AV)(F:AV→Prop):Prop where
 h:∃(is:List Nat) (L:List AV) (r:AV),Cc hp (Ce is hp) l=L∧I1 L=true∧A3 P f (L++caps) r∧Fo r=true∧F r
structure JA(P:Program)(T:Nat)(F:Bool→Nat→Prop):Prop where
 h:∃ag sz,G2 P T ag sz∧F ag sz
structure Xd(P:Program)(T:Nat)(F:List AV→Prop):Prop where
 h:∃l,H5 P T l∧F (l.map Z6)
structure Oc(P:Program)(S f:Nat)(F:Nat→Nat→Prop):Prop where
 h:∃off sz,D9 P S f off sz∧F off sz
structure Ic(P:Program)(T:Nat)(F:Nat→Nat→Prop):Prop where
 h:∃e sz,L7 P T e sz∧F e sz
structure ch(P:Program)(T:Nat)(F:Nat→Nat→Prop):Prop where
 h:∃len e sz,Lo P T len e sz∧F len sz
structure fk(P:Program)(T:Nat)(A:Prop):Prop where
 [h:ZY P T]
 k:A
structure Dn(P:Program)(T:Nat)(A:Prop):Prop where
 h:j3 P T
 k:A
structure Gl(P:Program)(T:Nat)(A:Prop):Prop where
 h:FC P T
 k:A
structure My(P:Program)(T:Nat)(k1 k2:IntKind)(A:Prop):Prop where
 h:KH P T k1 k2
 k:A
structure HR(P:Program)(T:Nat)(k:IntKind)(A:Prop):Prop where
 h:Eu P T k
 k:A
structure Mz(P:Program)(T:Nat)(k1 k2 k3:IntKind)(A:Prop):Prop where
 h:KI P T k1 k2 k3
 k:A
structure NA(P:Program)(T:Nat)(A:Prop):Prop where
 h:KG P T
 k:A
structure JB(P:Program)(T:Nat)(F:List AV→List (Nat×Nat)→Prop):Prop where
 h:∃zs pl,H5 P T zs∧L3 P T pl∧F (zs.map Z6) pl
structure FN(P:Program)(T:Nat)(F:Nat→Nat→Nat→List AV→Prop):Prop where
 h:∃e sz bs z,L7 P T e sz∧H5 P e z∧N3 P e bs∧z.length=sz∧F e sz bs (z.map Z6)
structure Xe(P:Program)(T:Nat)(F:TypeDesc→AV→Prop):Prop where
 h:∃k e t z,EZ P T k e t z∧F t (Z6 z)
inductive NB (P:Program) (S T:Nat):AV→AV→Prop
 |bytes {e sz:Nat} (l:List UInt8) [j3 P S] [L7 P T e sz] [Q5 P e .u8] (h:l.length≤9223372036854775807):NB P S T (.str l) (.sl 1 (l.map fun b=>[.v (.int .u8 b.toNat)]))
 |back {e sz:Nat} (l:List UInt8) [L7 P S e sz] [Q5 P e .u8] [j3 P T]:NB P S T (.sl 1 (l.map fun b=>[.v (.int .u8 b.toNat)])) (.str l)
 |int {k k':IntKind} (m:Int) [Q5 P T k] [Q5 P S k']:NB P S T (.v (.int k' m)) (.v (.int k (k.wrap m)))
 |rune {k:IntKind} (m:Int) [Q5 P S k] [j3 P T]:NB P S T (.v (.int k m)) (.str (Utf8.encode m).data.toList)
structure BB(P:Program)(S T:Nat)(a:AV)(F:AV→Prop):Prop where
 h:∃r,NB P S T a r∧F r
theorem J4{p A:Prop}(h:p)(k:A):F5 p A:=⟨h,k⟩
theorem Aj{α β:Type}{l:List β}{f:β→α}{k:Nat}{F:α→Prop}(h:k<l.length)(kk:∀x,l[k]?=some x→F (f x)):O6 (l.map f) (k:Int) F :=
 ⟨by omega,by simpa using h,fun el nN=>by
  simp at nN
  obtain⟨u,hu,rfl⟩:=nN
  exact kk u hu⟩
theorem n9{α β:Type}{l:List β}{f:β→α}{i:Int}{F:α→Prop}(h0:0≤i)(h:i<l.length)(kk:∀x,l[i.toNat]?=some x→F (f x)):O6 (l.map f) i F :=
 ⟨h0,by simpa using h,fun el nN=>by
  simp at nN
  obtain⟨u,hu,rfl⟩:=nN
  exact kk u hu⟩
theorem Zq{α:Type}{l:List α}{i:Int}{F:α→Prop}(h0:0≤i)(h:i<l.length)(kk:∀x,l[i.toNat]?=some x→F x):O6 l i F:=⟨h0,h,kk⟩
theorem Cf{α:Type}{l:List α}{i:Int}{x:α}{F:α→Prop}(h:l[i.toNat]?=some x)(h0:0≤i)(kk:F x):O6 l i F:=by
 have h1:=(List.getElem?_eq_some_iff.1 h).1
 exact⟨h0,by omega,fun el nN=>by rw[h]at nN;cases nN;exact kk⟩
theorem A2{α β:Type}{l:List β}{f:β→α}{i:Int}{x:β}{F:α→Prop}(h:l[i.toNat]?=some x)(h0:0≤i)(kk:F (f x)):O6 (l.map f) i F :=
 Cf (by simp[h]) h0 kk
theorem gQ{α:Type}{l:List α}{i:Int}{x:α}{F:α→Prop}(h:l[i.toNat]?=some x)(h0:decide (0≤i)=true)(kk:F x):O6 l i F:=by
 have h1:=(List.getElem?_eq_some_iff.1 h).1
 have h2:=of_decide_eq_true h0
 exact⟨h2,by omega,fun el nN=>by rw[h]at nN;cases nN;exact kk⟩
theorem gR{α β:Type}{l:List β}{f:β→α}{F:Nat→Prop}(k:F l.length):Ob (l.map f) F:=⟨by rw[List.length_map];exact k⟩
theorem lq{α:Type}{l:List α}{F:Nat→Prop}(k:F l.length):Ob l F:=⟨k⟩
theorem jr{A B:Prop}(k:A):Bh true A B:=⟨fun _=>k,fun h=>by cases h⟩
theorem js{A B:Prop}(k:B):Bh false A B:=⟨(fun h=>by cases h),fun _=>k⟩
theorem jt{p A B:Prop}[Decidable p](h1:p→A)(h2:¬p→B):Bh (decide p) A B:=⟨fun h=>h1 (of_decide_eq_true h),fun h=>h2 (of_decide_eq_false h)⟩
theorem gS{p A B:Prop}[Decidable p](h1:¬p→A)(h2:p→B):Bh (!decide p) A B:=⟨fun h=>h1 (by simpa using h),fun h=>h2 (by simpa using h)⟩
theorem ju{b:Bool}{A B:Prop}(h1:b=true→A)(h2:b=false→B):Bh b A B:=⟨h1,h2⟩
theorem gT{b:Bool}{A B:Prop}(h1:b=false→A)(h2:b=true→B):Bh (!b) A B:=⟨(fun h=>h1 (by simpa using h)),fun h=>h2 (by simpa using h)⟩
theorem A1{P:Program}{f:Nat}{args:List AV}{r:AV}{F:AV→Prop}(h:A3 P f args r)(k:F r):RR P f args F:=⟨⟨r,.inl h,k⟩⟩
theorem lr{P:Program}{T:Nat}{ag:Bool}{sz:Nat}{F:Bool→Nat→Prop}[h:G2 P T ag sz](k:F ag sz):JA P T F:=⟨⟨ag,sz,h,k⟩⟩
theorem jv{P:Program}{T:Nat}{l:List Value}{F:List AV→Prop}[h:H5 P T l](k:F (l.map Z6)):Xd P T F:=⟨⟨l,h,k⟩⟩
theorem lu{P:Program}{S f off sz:Nat}{F:Nat→Nat→Prop}[h:D9 P S f off sz](k:F off sz):Oc P S f F:=⟨⟨off,sz,h,k⟩⟩
theorem mY{P:Program}{T e sz:Nat}{F:Nat→Nat→Prop}[h:L7 P T e sz](k:F e sz):Ic P T F:=⟨⟨e,sz,h,k⟩⟩
theorem lw{P:Program}{T len e sz:Nat}{F:Nat→Nat→Prop}[h:Lo P T len e sz](k:F len sz):ch P T F:=⟨⟨len,e,sz,h,k⟩⟩
theorem mZ{P:Program}{T:Nat}{A:Prop}[h:ZY P T](k:A):fk P T A:=⟨k⟩
theorem jw{P:Program}{T:Nat}{A:Prop}[h:j3 P T](k:A):Dn P T A:=⟨h,k⟩
theorem gU{P:Program}{T:Nat}{A:Prop}[h:FC P T](k:A):Gl P T A:=⟨h,k⟩
theorem ly{P:Program}{T:Nat}{k:IntKind}{A:Prop}[h:Eu P T k](kk:A):HR P T k A:=⟨h,kk⟩
theorem gV{P:Program}{T:Nat}{k1 k2 k3:IntKind}{A:Prop}[h:KI P T k1 k2 k3](k:A):Mz P T k1 k2 k3 A:=⟨h,k⟩
theorem gW{P:Program}{T:Nat}{k1 k2:IntKind}{A:Prop}[h:KH P T k1 k2](k:A):My P T k1 k2 A:=⟨h,k⟩
theorem gX{P:Program}{T:Nat}{A:Prop}[h:KG P T](k:A):NA P T A:=⟨h,k⟩
theorem gY{P:Program}{T:Nat}{zs:List Value}{pl:List (Nat×Nat)}{F:List AV→List (Nat×Nat)→Prop}[h:H5 P T zs][h2:L3 P T pl](k:F (zs.map Z6) pl):JB P T F:=⟨⟨zs,pl,h,h2,k⟩⟩
theorem lz{P:Program}{T e sz bs:Nat}{z:List Value}{F:Nat→Nat→Nat→List AV→Prop}[h:L7 P T e sz][h2:H5 P e z][h3:N3 P e bs](hz:z.length=sz)(k:F e sz bs (z.map Z6)):FN P T F:=⟨⟨e,sz,bs,z,h,h2,h3,hz,k⟩⟩
theorem mA{P:Program}{T k e:Nat}{t:TypeDesc}{z:Value}{F:TypeDesc→AV→Prop}[h:EZ P T k e t z](kk:F t (Z6 z)):Xe P T F:=⟨⟨k,e,t,z,h,kk⟩⟩
theorem Xf{P:Program}{S T e sz:Nat}{l:List UInt8}{F:AV→Prop}[j3 P S][L7 P T e sz][Q5 P e .u8](h:l.length≤9223372036854775807)(k:F (.sl 1 (l.map fun b=>[.v (.int .u8 b.toNat)]))):BB P S T (.str l) F:=⟨⟨_,.bytes (e:=e) (sz:=sz) l h,k⟩⟩
theorem Zr{P:Program}{S T e sz:Nat}{l:List UInt8}{F:AV→Prop}[L7 P S e sz][Q5 P e .u8][j3 P T](k:F (.str l)):BB P S T (.sl 1 (l.map fun b=>[.v (.int .u8 b.toNat)])) F:=⟨_,.back (e:=e) (sz:=sz) l,k⟩
theorem gZ{P:Program}{S T:Nat}{k k':IntKind}{m:Int}{F:AV→Prop}[Q5 P T k][Q5 P S k'](h:k.wrap m=m)(kk:F (.v (.int k m))):BB P S T (.v (.int k' m)) F:=⟨⟨_,.int (k:=k) m,by rw[h];exact kk⟩⟩
theorem ci{P:Program}{S T:Nat}{k k':IntKind}{m:Int}{F:AV→Prop}[Q5 P T k][Q5 P S k'](kk:F (.v (.int k (k.wrap m)))):BB P S T (.v (.int k' m)) F:=⟨⟨_,.int (k:=k) m,kk⟩⟩
theorem Zs{P:Program}{S T:Nat}{k:IntKind}{m:Int}{F:AV→Prop}[Q5 P S k][j3 P T](kk:F (.str (Utf8.encode m).data.toList)):BB P S T (.v (.int k m)) F:=⟨⟨_,.rune (k:=k) m,kk⟩⟩
theorem cond_false{c:Bool}{A:Prop}(h:cond c A False):c=true∧A:=by
 cases c
 ·exact h.elim
 ·exact⟨rfl,h⟩
def Xg:Value→Bool
 |.agg _|.tuple _=>false
 |_=>true
theorem JC{v:Value}(h:Xg v=true):v.oneCell'=true:=by cases v<;>first|rfl|cases h
def SG(hp:Hp)(a:AV)(A:Prop):Prop :=
 match a with
 |.v x=>cond (Xg x) A False
 |.str _|.sl _ _|.iptr _|.ref _ _|.mp _|.fn _ _|.fo _ _=>A
 |.row i ver _=>match A5 hp i with
  |some (.row _ _ v' _)=>F5 (ver=v') A
  |_=>False
 |_=>False
theorem JD{hp:Hp}{a:AV}{A:Prop}(h:SG hp a A):One hp a∧A:=by
 unfold SG at h
 split at h
 ·rename_i x
  obtain⟨h1,h2⟩:=cond_false h
  exact⟨One.v (JC h1),h2⟩
 ·exact⟨.str _,h⟩
 ·exact⟨.sl _ _,h⟩
 ·exact⟨.iptr _,h⟩
 ·exact⟨.ref _ _,h⟩
 ·exact⟨.mp _,h⟩
 ·exact⟨.fn _ _,h⟩
 ·exact⟨.fo _ _,h⟩
 ·split at h
  ·rename_i hl
   obtain⟨rfl,h⟩:=h
   exact⟨.row hl,h⟩
  ·exact h.elim
 ·exact h.elim
def Xh(hp:Hp):List AV→Prop→Prop
 |[],A=>A
 |x::r,A=>SG hp x (Xh hp r A)
theorem NC{hp:Hp}:∀{l:List AV} {A:Prop},Xh hp l A→FJ hp l∧A
 |[],A,h=>⟨trivial,h⟩
 |x::r,A,h=>by
  obtain⟨h1,h2⟩:=JD h
  obtain⟨h3,h4⟩:=NC h2
  exact⟨⟨h1,h3⟩,h4⟩
def SH(hp:Hp)(a:AV)(A:Prop):Prop :=
 match a with
 |.agg _=>A
 |a=>SG hp a A
theorem JE{hp:Hp}{a:AV}{A:Prop}(h:SH hp a A):Fits hp a∧A:=by
 unfold SH at h
 split at h
 ·exact⟨trivial,h⟩
 ·rename_i hn
  obtain⟨h1,h2⟩:=JD h
  refine⟨?_,h2⟩
  cases a<;>first|exact h1|exact trivial
def Dy(hp:Hp):List (Nat×AV)→Prop→Prop
 |[],A=>A
 |(_,a)::r,A=>SH hp a (Dy hp r A)
theorem o0{hp:Hp}:∀{l:List (Nat×AV)} {A:Prop},Dy hp l A→Dl hp l∧A
 |[],A,h=>⟨trivial,h⟩
 |(_,x)::r,A,h=>by
  obtain⟨h1,h2⟩:=JE h
  obtain⟨h3,h4⟩:=o0 h2
  exact⟨⟨h1,h3⟩,h4⟩
def jx(a:AV)(A:Prop):Prop :=
 match a with
 |.v x=>cond (Xg x) A False
 |.str _|.sl _ _|.iptr _|.fn _ _=>A
 |_=>False
theorem cj{a:AV}{A:Prop}(h:jx a A):X8 a∧A:=by
 unfold jx at h
 split at h
 ·obtain⟨h1,h2⟩:=cond_false h
  exact⟨JC h1,h2⟩
 ·exact⟨trivial,h⟩
 ·exact⟨trivial,h⟩
 ·exact⟨trivial,h⟩
 ·exact⟨trivial,h⟩
 ·exact h.elim
def ck:List AV→Prop→Prop
 |[],A=>A
 |x::r,A=>jx x (ck r A)
def ND:List (List AV)→Prop→Prop
 |[],A=>A
 |x::r,A=>ck x (ND r A)
theorem Pj:∀{l:List AV} {A:Prop},ck l A→(∀u∈l,X8 u)∧A
 |[],A,h=>⟨fun u hu=>by (cases hu),h⟩
 |x::r,A,h=>by
  obtain⟨h1,h2⟩:=cj h
  obtain⟨h3,h4⟩:=Pj h2
  refine⟨fun u hu=>?_,h4⟩
  rcases List.mem_cons.1 hu with rfl|hu
  ·exact h1
  ·exact h3 u hu
theorem Eb:∀{l:List (List AV)} {A:Prop},ND l A→Bq l∧A
 |[],A,h=>⟨trivial,h⟩
 |x::r,A,h=>by
  obtain⟨h1,h2⟩:=Pj h
  obtain⟨h3,h4⟩:=Eb h2
  exact⟨⟨h1,h3⟩,h4⟩
def U7(x:Option AV)(F:AV→Prop):Prop :=
 match x with
 |some a=>F a
 |none=>False
theorem I2{x:Option AV}{F:AV→Prop}(h:U7 x F):∃a,x=some a∧F a:=by
 unfold U7 at h
 split at h
 ·exact⟨_,rfl,h⟩
 ·exact h.elim
def SI(op:BinOp)(k:IntKind)(a b:Int)(F:AV→Prop):Prop :=
 match op,k with
 |.add,.i64=>F5 (-9223372036854775808≤a+b∧a+b≤9223372036854775807) (F (.v (.int .i64 (a+b))))
 |.sub,.i64=>F5 (-9223372036854775808≤a-b∧a-b≤9223372036854775807) (F (.v (.int .i64 (a-b))))
 |.mul,.i64=>F5 (-9223372036854775808≤a*b∧a*b≤9223372036854775807) (F (.v (.int .i64 (a*b))))
 |.quo,.i64=>F5 (b≠0∧-9223372036854775808≤a.tdiv b∧a.tdiv b≤9223372036854775807) (F (.v (.int .i64 (a.tdiv b))))
 |.quo,k=>F5 (b≠0) (F (.v (.int k (k.wrap (a.tdiv b)))))
 |.rem,k=>F5 (b≠0) (F (.v (.int k (a.tmod b))))
 |op,k=>match CZ op k a b with
  |some r=>F (.v r)
  |none=>False
def cl(op:BinOp)(a b:List UInt8)(F:AV→Prop):Prop :=
 match op with
 |.add=>F5 (a.length+b.length≤9223372036854775807) (F (.str (a++b)))
 |op=>match XV op a b with
  |some r=>F (.v r)
  |none=>False
def Xi(P:Program)(T:Nat)(op:BinOp)(a b:Bool)(F:AV→Prop):Prop :=
 match op with
 |.eql=>NA P T (F (.v (.bool (decide (a=b)))))
 |.neq=>NA P T (F (.v (.bool (decide (a≠b)))))
 |_=>False
def Cg(P:Program)(T:Nat)(op:BinOp)(l m:List AV)(F:AV→Prop):Prop :=
 match op,l,m with
 |.eql,[.v (.int k1 a1),.v (.int k2 a2)],[.v (.int k3 b1),.v (.int k4 b2)]=>cond (decide (k1=k3∧k2=k4)) (My P T k1 k2 (F (.v (.bool (decide (a1=b1∧a2=b2)))))) False
 |.neq,[.v (.int k1 a1),.v (.int k2 a2)],[.v (.int k3 b1),.v (.int k4 b2)]=>cond (decide (k1=k3∧k2=k4)) (My P T k1 k2 (F (.v (.bool (!decide (a1=b1∧a2=b2)))))) False
 |.eql,[.v (.int k1 a1),.v (.int k2 a2),.v (.int k3 a3)],[.v (.int l1 b1),.v (.int l2 b2),.v (.int l3 b3)]=>cond (decide (k1=l1∧k2=l2∧k3=l3)) (Mz P T k1 k2 k3 (F (.v (.bool (decide (a1=b1∧a2=b2∧a3=b3)))))) False
 |.neq,[.v (.int k1 a1),.v (.int k2 a2),.v (.int k3 a3)],[.v (.int l1 b1),.v (.int l2 b2),.v (.int l3 b3)]=>cond (decide (k1=l1∧k2=l2∧k3=l3)) (Mz P T k1 k2 k3 (F (.v (.bool (!decide (a1=b1∧a2=b2∧a3=b3)))))) False
 |.eql,[.str a1,.v (.int k2 a2)],[.str b1,.v (.int k4 b2)]=>cond (decide (k2=k4)) (HR P T k2 (F (.v (.bool (decide (a1=b1∧a2=b2)))))) False
 |.neq,[.str a1,.v (.int k2 a2)],[.str b1,.v (.int k4 b2)]=>cond (decide (k2=k4)) (HR P T k2 (F (.v (.bool (!decide (a1=b1∧a2=b2)))))) False
 |_,_,_=>False
def NE:Operand→Bool
 |.const .nilIface=>true
 |_=>false
def SJ(P:Program)(T:Nat)(op:BinOp)(x:Option AV)(F:AV→Prop):Prop :=
 match op,x with
 |.eql,some .err=>Gl P T (F (.v (.bool false)))
 |.neq,some .err=>Gl P T (F (.v (.bool true)))
 |.eql,some (.v .nilIface)=>Gl P T (F (.v (.bool true)))
 |.neq,some (.v .nilIface)=>Gl P T (F (.v (.bool false)))
 |_,_=>False
def SK(P:Program)(T:Nat)(op:BinOp)(x y:Option AV)(F:AV→Prop):Prop :=
 match op,x,y with
 |.shl,some (.v (.int k a)),some (.v (.int _ b))=>F5 (0≤b) (F (.v (.int k (k.wrap (a*2 ^ (min b.toNat k.bits))))))
 |.shr,some (.v (.int k a)),some (.v (.int _ b))=>F5 (0≤b) (F (.v (.int k (a.fdiv (2 ^ (min b.toNat k.bits))))))
 |op,some (.v (.int k a)),some (.v (.int k' b))=>cond (decide (k=k')) (SI op k a b F) False
 |op,some (.str s),some (.str t)=>cl op s t F
 |op,some (.v (.bool a)),some (.v (.bool b))=>Xi P T op a b F
 |op,some (.agg l),some (.agg m)=>Cg P T op l m F
 |_,_,_=>False
def NF(P:Program)(T:Nat)(hp:Hp)(x:Option AV)(F:AV→Prop):Prop :=
 match x with
 |some (.ref i off)=>match A5 hp i with
  |some (.bx τ l)=>JA P T fun ag sz=>cond ag
    (cond (Nat.beq off 0 && Nat.beq l.length sz) (F (.agg l)) (F5 (((l.drop off).take sz).length=sz) (F (.agg ((l.drop off).take sz)))))
    (U7 (l[off]?) F)
  |_=>False
 |some (.iptr l)=>JA P T fun ag sz=>cond ag
   (cond (Nat.beq l.length sz) (F (.agg l)) (F5 ((l.take sz).length=sz) (F (.agg (l.take sz)))))
   (match l with|av::_=>F av|[]=>False)
 |some (.elt i ver k off)=>match A5 hp i with
  |some (.row _ sz oC l)=>F5 (ver=oC) (O6 l (k:Int) fun el=>JA P T fun ag szT=>cond ag
    (cond (Nat.beq off 0 && Nat.beq szT sz) (F (.agg el)) False) (U7 (el[off]?) F))
  |_=>False
 |_=>False
def SL(hp:Hp)(off:Nat)(x:Option AV)(F:AV→Prop):Prop :=
 match x with
 |some (.ref i o)=>F (.ref i (o+off))
 |some (.iptr l)=>F (.iptr (l.drop off))
 |some (.elt i ver k o)=>match A5 hp i with
  |some (.row _ _ oC _)=>F5 (ver=oC) (F (.elt i ver k (o+off)))
  |_=>False
 |_=>False
def JF(P:Program)(T:Nat)(hp:Hp)(x y:Option AV)(F:AV→Prop):Prop :=
 match x,y with
 |some (.sl sz l),some (.v (.int _ i))=>Ic P T fun _ nU=>cond (Nat.beq sz nU) (O6 l i fun el=>F (.iptr el)) False
 |some (.row r ver len),some (.v (.int _ i))=>match A5 hp r with
  |some (.row _ sz oC _)=>F5 (ver=oC) (Ic P T fun _ nU=>cond (Nat.beq sz nU) (F5 (0≤i∧i<len) (F (.elt r ver i.toNat 0))) False)
  |_=>False
 |some (.ref r o),some (.v (.int _ i))=>ch P T fun len sz=>F5 (0≤i∧i<len) (F (.ref r (o+i.toNat*sz)))
 |_,_=>False
def cm(hp:Hp)(x:Option AV)(F:AV→Prop):Prop :=
 match x with
 |some (.ref i o)=>F (.ref i o)
 |some (.iptr l)=>F (.iptr l)
 |some (.elt i ver k o)=>match A5 hp i with
  |some (.row _ _ oC _)=>F5 (ver=oC) (F (.elt i ver k o))
  |_=>False
 |_=>False
def HS(P:Program)(T:Nat)(hp:Hp)(x:Option AV)(F:AV→Prop):Prop :=
 match x with
 |some (.sl _ l)=>Ic P T fun _ _=>Ob l fun m=>F (.i m)
 |some (.str s)=>Dn P T (F (.i s.length))
 |some (.row r ver len)=>match A5 hp r with
  |some (.row _ _ oC _)=>F5 (ver=oC) (Ic P T fun _ _=>F (.i len))
  |_=>False
 |some (.v (.slice none 0 0))=>Ic P T fun _ _=>F (.i 0)
 |_=>False
def RS(P:Program)(f:Nat)(hp:Hp)(l caps:List AV)(F:AV→Prop):Prop:=cond (I1 l) (RR P f (l++caps) F) (lm P f hp l caps F)
def NG(P:Program)(T:Nat)(ev:Operand→Option AV)(x:Option AV)(lo hi:Option Operand)(F:AV→Prop):Prop :=
 match x with
 |some (.str s)=>Dn P T (match AX ev 0 lo,AX ev s.length hi with
  |some l,some h=>F5 (0≤l∧l≤h∧h≤s.length) (F (.str ((s.take h.toNat).drop l.toNat)))
  |_,_=>False)
 |some (.sl sz s)=>Ic P T fun _ nU=>cond (Nat.beq sz nU) (match AX ev 0 lo,AX ev s.length hi with
  |some l,some h=>F5 (0≤l∧l≤h∧h≤s.length) (F (.sl sz ((s.take h.toNat).drop l.toNat)))
  |_,_=>False) False
 |_=>False
def Od(P:Program)(T:Nat)(hp:Hp)(ok:Bool)(x y:Option AV)(F:AV→Prop):Prop :=
 match x,y with
 |some (.mp i),some rU=>match A5 hp i,keyOf rU with
  |some (.map m),some k=>Xe P T fun t z=>cond (Dm t k) (F5 (q8 t m) (cond ok (jq (.tup [x5 m k z,.b (n8 m k).isSome]) F) (jq (x5 m k z) F))) False
  |_,_=>False
 |_,_=>False
def Fp(P:Program)(op:Op)(ev:Operand→Option AV)(hp:Hp)(F:AV→Prop):Prop :=
 match op with
 |.move x=>U7 (ev x) F
 |.assign x=>U7 (ev x) F
 |.pick c a b=>match ev c with
  |some (.v (.bool t))=>Bh t (U7 (ev a) F) (U7 (ev b) F)
  |_=>False
 |.binOp op T x y _=>cond (NE y) (SJ P T op (ev x) F) (SK P T op (ev x) (ev y) F)
 |.unOp .not _ x=>match ev x with
  |some (.v (.bool b))=>F (.v (.bool (!b)))
  |_=>False
 |.unOp .neg _ x=>match ev x with
  |some (.v (.int .i64 a))=>F5 (-9223372036854775807≤a∧a≤9223372036854775807) (F (.v (.int .i64 (-a))))
  |_=>False
 |.unOp .xor _ x=>match ev x with
  |some (.v (.int .u64 a))=>F5 (0≤a∧a≤18446744073709551615) (F (.v (.int .u64 (18446744073709551615-a))))
  |_=>False
 |.load T x=>NF P T hp (ev x) F
 |.fieldAddr S x f=>Oc P S f fun off sz=>cond (Nat.blt 0 sz) (SL hp off (ev x) F) False
 |.indexAddr T x y=>JF P T hp (ev x) (ev y) F
 |.index T x y=>match ev x,ev y with
  |some (.str s),some (.v (.int _ i))=>Dn P T (O6 s i fun b=>F (.v (.int .u8 b.toNat)))
  |_,_=>False
 |.nilCheck x=>cm hp (ev x) F
 |.convert S T x=>U7 (ev x) fun a=>BB P S T a F
 |.call ⟨.builtin .len,⟨[x]⟩,⟨[T]⟩⟩=>HS P T hp (ev x) F
 |.call ⟨.builtin .min,⟨[x,y]⟩,⟨[_,_]⟩⟩=>match ev x,ev y with
  |some (.v (.int k a)),some (.v (.int k' b))=>cond (decide (k=k')) (F (.v (.int k (min a b)))) False
  |_,_=>False
 |.call ⟨.builtin .max,⟨[x,y]⟩,⟨[_,_]⟩⟩=>match ev x,ev y with
  |some (.v (.int k a)),some (.v (.int k' b))=>cond (decide (k=k')) (F (.v (.int k (max a b)))) False
  |_,_=>False
 |.call ⟨.value (.func f),⟨args⟩,_⟩=>match e8 ev args with
  |some l=>RS P f hp l [] F
  |none=>False
 |.call ⟨.value (.tmp t),⟨args⟩,_⟩=>match ev (.tmp t),e8 ev args with
  |some (.fn f caps),some l=>RS P f hp l caps F
  |_,_=>False
 |.build T ⟨parts⟩=>match BU ev parts with
  |some ps=>JB P T fun zs pl=>Dy hp ps (U7 ((Bg pl zs ps).map AV.agg) F)
  |none=>False
 |.buildSlice T len ⟨parts⟩=>match BU ev parts with
  |some ps=>FN P T fun _ sz _ _=>cond (Ca 0 ps && p9 sz (M0 ps) && Nat.beq ps.length len && Nat.blt 0 sz) (F5 (len*sz≤16777216) (Dy hp ps (ND (M0 ps) (F (.sl sz (M0 ps)))))) False
  |none=>False
 |.lookup T x y ok=>Od P T hp ok (ev x) (ev y) F
 |.slice T x lo hi none=>NG P T ev (ev x) lo hi F
 |.extract x k=>match ev x with
  |some (.tup l)=>U7 (l[k]?) F
  |_=>False
 |.makeFunc (.func f) ⟨[]⟩ ⟨xs⟩=>match e8 ev xs with
  |some caps=>cond (I1 caps) (F (.fn f caps)) False
  |none=>False
 |_=>False
section sound
variable {P:Program} {E:Env} {nx:Nat} {hp:Hp} {ev:Operand→Option AV} {ty:TypeId} {x y:Operand} {F:AV→Prop} {T T2:TypeId}
theorem jy{op:BinOp}(h:SK P T op (ev x) (ev y) F):∃av,F7 P E nx hp ev (.binOp op T x y T2) ty av∧F av:=by
 unfold SK at h
 split at h
 ·rename_i hx hy;exact⟨_,fg hx hy h.h,h.k⟩
 ·rename_i hx hy;exact⟨_,fh hx hy h.h,h.k⟩
 ·rename_i hx hy
  obtain⟨hk,hq⟩:=cond_false h
  clear h
  have hk:=of_decide_eq_true hk
  subst hk
  unfold SI at hq
  split at hq
  ·exact⟨_,Dx hx hy (by simp only[CZ,O5 hq.h]),hq.k⟩
  ·exact⟨_,Dx hx hy (by simp only[CZ,O5 hq.h]),hq.k⟩
  ·exact⟨_,Dx hx hy (by simp only[CZ,O5 hq.h]),hq.k⟩
  ·have pI:=RN (P:=P) (E:=E) (nx:=nx) (hp:=hp) (ty:=ty) (T:=T) (T2:=T2) hx hy hq.h.1
   rw[O5 hq.h.2]at pI
   exact⟨_,pI,hq.k⟩
  ·exact⟨_,RN hx hy hq.h,hq.k⟩
  ·exact⟨_,ff hx hy hq.h,hq.k⟩
  ·split at hq
   ·rename_i hr;exact⟨_,Dx hx hy hr,hq⟩
   ·exact hq.elim
 ·rename_i s t hx hy
  unfold cl at h
  split at h
  ·exact⟨_,Zd hx hy h.h,h.k⟩
  ·split at h
   ·rename_i hr;exact⟨_,Zc hx hy hr,h⟩
   ·exact h.elim
 ·rename_i a b hx hy
  unfold Xi at h
  split at h
  ·have:=h.h;exact⟨_,RO (T:=T) false hx hy,h.k⟩
  ·have:=h.h;exact⟨_,RO (T:=T) true hx hy,h.k⟩
  ·exact h.elim
 ·rename_i l m hx hy
  unfold Cg at h
  split at h
  ·obtain⟨hk,hq⟩:=cond_false h
   obtain⟨rfl,rfl⟩:=of_decide_eq_true hk
   have:=hq.h;exact⟨_,HK (T:=T) false hx hy,hq.k⟩
  ·obtain⟨hk,hq⟩:=cond_false h
   obtain⟨rfl,rfl⟩:=of_decide_eq_true hk
   have:=hq.h;exact⟨_,HK (T:=T) true hx hy,hq.k⟩
  ·obtain⟨hk,hq⟩:=cond_false h
   obtain⟨rfl,rfl,rfl⟩:=of_decide_eq_true hk
   have:=hq.h;exact⟨_,HM (T:=T) false hx hy,hq.k⟩
  ·obtain⟨hk,hq⟩:=cond_false h
   obtain⟨rfl,rfl,rfl⟩:=of_decide_eq_true hk
   have:=hq.h;exact⟨_,HM (T:=T) true hx hy,hq.k⟩
  ·obtain⟨hk,hq⟩:=cond_false h
   obtain rfl:=of_decide_eq_true hk
   have:=hq.h;exact⟨_,Mo (T:=T) false hx hy,hq.k⟩
  ·obtain⟨hk,hq⟩:=cond_false h
   obtain rfl:=of_decide_eq_true hk
   have:=hq.h;exact⟨_,Mo (T:=T) true hx hy,hq.k⟩
  ·exact h.elim
 ·exact h.elim
theorem cn{op:BinOp}(hy:NE y=true)(h:SJ P T op (ev x) F):∃av,F7 P E nx hp ev (.binOp op T x y T2) ty av∧F av:=by
 obtain rfl:y=.const .nilIface:=by
  unfold NE at hy
  split at hy
  ·rfl
  ·cases hy
 unfold SJ at h
 split at h
 ·rename_i hx;have:=h.h;exact⟨_,Rp (T:=T) false hx,h.k⟩
 ·rename_i hx;have:=h.h;exact⟨_,Rp (T:=T) true hx,h.k⟩
 ·rename_i hx;have:=h.h;exact⟨_,Rq (T:=T) false hx,h.k⟩
 ·rename_i hx;have:=h.h;exact⟨_,Rq (T:=T) true hx,h.k⟩
 ·exact h.elim
theorem ga(h:NF P T hp (ev x) F):∃av,F7 P E nx hp ev (.load T x) ty av∧F av:=by
 unfold NF at h
 split at h
 ·rename_i i off hx
  split at h
  ·rename_i l hb
   obtain⟨⟨ag,sz,tv,h⟩⟩:=h
   cases ag with
   |true =>
    change cond (Nat.beq off 0 && Nat.beq l.length sz) _ _ at h
    cases hc:(Nat.beq off 0 && Nat.beq l.length sz)with
    |true =>
     rw[hc]at h
     simp only[Bool.and_eq_true,Nat.beq_eq]at hc
     obtain⟨rfl,hs⟩:=hc
     exact⟨_,Mk (sz:=sz) hx hb hs,h⟩
    |false =>
     rw[hc]at h
     exact⟨_,DV (sz:=sz) hx hb rfl h.h,h.k⟩
   |false =>
    obtain⟨av,hl,h⟩:=I2 h
    exact⟨_,Mj (sz:=sz) hx hb hl,h⟩
  ·exact h.elim
 ·rename_i l hx
  obtain⟨⟨ag,sz,tv,h⟩⟩:=h
  cases ag with
  |true =>
   change cond (Nat.beq l.length sz) _ _ at h
   cases hc:Nat.beq l.length sz with
   |true =>
    rw[hc]at h
    exact⟨_,AW (sz:=sz) hx (by rw[←Nat.eq_of_beq_eq_true hc,List.take_length]) (Nat.eq_of_beq_eq_true hc),h⟩
   |false =>
    rw[hc]at h
    exact⟨_,AW (sz:=sz) hx rfl h.h,h.k⟩
  |false =>
   cases l with
   |nil=>exact h.elim
   |cons av r=>exact⟨_,Kr (sz:=sz) hx,h⟩
 ·rename_i i ver k off hx
  split at h
  ·rename_i e sz oC l hb
   obtain⟨rfl,hq⟩:=h
   obtain⟨h0,h1,hk⟩:=hq
   have nR:k<l.length:=by omega
   have nN:l[k]?=some l[k]:=List.getElem?_eq_getElem nR
   obtain⟨⟨ag,szT,tv,h⟩⟩:=hk l[k] (by rw[Int.toNat_natCast];exact nN)
   cases ag with
   |true =>
    obtain⟨hc,h2⟩:=cond_false h
    simp only[Bool.and_eq_true,Nat.beq_eq]at hc
    obtain⟨rfl,hs⟩:=hc
    exact⟨_,OS hx hb nN hs,h2⟩
   |false =>
    obtain⟨av,hl,h⟩:=I2 h
    exact⟨_,XW (szT:=szT) hx hb nN hl,h⟩
  ·exact h.elim
 ·exact h.elim
theorem co{S f off sz:Nat}[tf:D9 P S f off sz](hz:Nat.blt 0 sz=true)(h:SL hp off (ev x) F):∃av,F7 P E nx hp ev (.fieldAddr S x f) ty av∧F av:=by
 unfold SL at h
 split at h
 ·rename_i hx;exact⟨_,Ks (off:=off) (sz:=sz) hx hz,h⟩
 ·rename_i hx;exact⟨_,Iq (off:=off) (sz:=sz) hx hz,h⟩
 ·rename_i hx
  split at h
  ·rename_i hb
   obtain⟨rfl,h⟩:=h
   exact⟨_,Ut (off:=off) (sz:=sz) hx hb hz,h⟩
  ·exact h.elim
 ·exact h.elim
theorem cq(h:JF P T hp (ev x) (ev y) F):∃av,F7 P E nx hp ev (.indexAddr T x y) ty av∧F av:=by
 unfold JF at h
 split at h
 ·rename_i hx hy
  obtain⟨⟨e,nU,ts,h⟩⟩:=h
  obtain⟨hz,hq⟩:=cond_false h
  clear h
  have:=Nat.eq_of_beq_eq_true hz
  subst this
  obtain⟨h0,h1,hk⟩:=hq
  rename_i sz l kk i
  have nR:i.toNat<l.length:=by omega
  have nN:l[i.toNat]?=some l[i.toNat]:=List.getElem?_eq_getElem nR
  exact⟨_,Ml (e:=e) hx hy h0 nN,hk _ nN⟩
 ·rename_i hx hy
  split at h
  ·rename_i hb
   obtain⟨rfl,h⟩:=h
   obtain⟨⟨e,nU,ts,h⟩⟩:=h
   obtain⟨hz,hq⟩:=cond_false h
   clear h
   have:=Nat.eq_of_beq_eq_true hz
   subst this
   exact⟨_,Uu (e:=e) hx hb hy hq.h.1 hq.h.2,hq.k⟩
  ·exact h.elim
 ·rename_i hx hy
  obtain⟨⟨len,e,sz,ta,h⟩⟩:=h
  exact⟨_,Uv (e:=e) (sz:=sz) hx hy h.h.1 h.h.2,h.k⟩
 ·exact h.elim
theorem jz(h:cm hp (ev x) F):∃av,F7 P E nx hp ev (.nilCheck x) ty av∧F av:=by
 unfold cm at h
 split at h
 ·rename_i hx;exact⟨_,Zh hx,h⟩
 ·rename_i hx;exact⟨_,XX hx,h⟩
 ·rename_i hx
  split at h
  ·rename_i hb
   obtain⟨rfl,h⟩:=h
   exact⟨_,Zi hx hb,h⟩
  ·exact h.elim
 ·exact h.elim
theorem kA(h:HS P T hp (ev x) F):∃av,F7 P E nx hp ev (.call ⟨.builtin .len,#[x],#[T]⟩) ty av∧F av:=by
 unfold HS at h
 split at h
 ·rename_i hx
  obtain⟨⟨e,sz,ts,h⟩⟩:=h
  exact⟨_,Rr (e:=e) (sz:=sz) hx,h.k⟩
 ·rename_i hx
  obtain⟨ts,h⟩:=h
  exact⟨_,Pd hx,h⟩
 ·rename_i hx
  split at h
  ·rename_i hb
   obtain⟨rfl,h⟩:=h
   obtain⟨⟨e,sz,ts,h⟩⟩:=h
   exact⟨_,Zf (e:=e) (sz:=sz) hx hb,h⟩
  ·exact h.elim
 ·rename_i hx
  obtain⟨⟨e,sz,ts,h⟩⟩:=h
  exact⟨_,Pe (e:=e) (sz:=sz) hx,h⟩
 ·exact h.elim
theorem cr{lo hi:Option Operand}(h:NG P T ev (ev x) lo hi F):∃av,F7 P E nx hp ev (.slice T x lo hi none) ty av∧F av:=by
 unfold NG at h
 split at h
 ·rename_i hx
  obtain⟨ts,h⟩:=h
  split at h
  ·rename_i hl hh;exact⟨_,Kz hx hl hh h.h.1 h.h.2.1 h.h.2.2,h.k⟩
  ·exact h.elim
 ·rename_i hx
  obtain⟨⟨e,nU,ts,h⟩⟩:=h
  obtain⟨hz,hq⟩:=cond_false h
  clear h
  have:=Nat.eq_of_beq_eq_true hz
  subst this
  split at hq
  ·rename_i hl hh;exact⟨_,Xb (e:=e) hx hl hh hq.h.1 hq.h.2.1 hq.h.2.2,hq.k⟩
  ·exact hq.elim
 ·exact h.elim
theorem Zt{ok:Bool}(h:Od P T hp ok (ev x) (ev y) F):∃av,F7 P E nx hp ev (.lookup T x y ok) ty av∧F av:=by
 unfold Od at h
 split at h
 ·rename_i hx hy
  split at h
  ·rename_i hb hk
   obtain⟨⟨k,e,t,z,tm,h⟩⟩:=h
   obtain⟨hkb,hq⟩:=cond_false h
   cases ok with
   |true=>exact⟨_,Uy (T:=T) hx hb hy hk hkb hq.h,hq.k.h⟩
   |false=>exact⟨_,ce (T:=T) hx hb hy hk hkb hq.h,hq.k.h⟩
  ·exact h.elim
 ·exact h.elim
theorem fq{op:Op}(h:Fp P op ev hp F):∃av,F7 P E nx hp ev op ty av∧F av:=by
 unfold Fp at h
 split at h
 ·obtain⟨a,hx,h⟩:=I2 h;exact⟨a,Zb hx,h⟩
 ·obtain⟨a,hx,h⟩:=I2 h;exact⟨a,Rm hx,h⟩
 ·split at h
  ·rename_i t hc
   obtain⟨h1,h2⟩:=h
   cases t with
   |true=>obtain⟨a,hx,h⟩:=I2 (h1 rfl);exact⟨a,cT hc hx,h⟩
   |false=>obtain⟨a,hx,h⟩:=I2 (h2 rfl);exact⟨a,cU hc hx,h⟩
  ·exact h.elim
 ·rename_i y _
  cases hn:NE y with
  |true=>rw[hn]at h;exact cn hn h
  |false=>rw[hn]at h;exact jy h
 ·split at h
  ·rename_i hx;exact⟨_,fi hx,h⟩
  ·exact h.elim
 ·split at h
  ·rename_i a hx
   have h1:=h.h
   refine⟨_,lh hx,?_⟩
   rw[O5 (by omega)]
   exact h.k
  ·exact h.elim
 ·split at h
  ·rename_i hx;exact⟨_,gO hx h.h,h.k⟩
  ·exact h.elim
 ·exact ga h
 ·obtain⟨⟨off,sz,tf,h⟩⟩:=h
  obtain⟨hz,h⟩:=cond_false h
  exact co (off:=off) (sz:=sz) hz h
 ·exact cq h
 ·split at h
  ·rename_i s k i hx hy
   obtain⟨ts,h0,h1,hk⟩:=h
   have nR:i.toNat<s.length:=by omega
   have nN:s[i.toNat]?=some s[i.toNat]:=List.getElem?_eq_getElem nR
   exact⟨_,Kt hx hy h0 nN,hk _ nN⟩
  ·exact h.elim
 ·exact jz h
 ·obtain⟨a,hx,h⟩:=I2 h
  obtain⟨⟨r,hr,h⟩⟩:=h
  cases hr with
  |bytes l hl=>rename_i e sz _ _ _;exact⟨_,Kv (e:=e) (sz:=sz) hx hl,h⟩
  |back l=>rename_i e sz _ _ _;exact⟨_,Kw (e:=e) (sz:=sz) hx,h⟩
  |int m=>exact⟨_,Mm hx,h⟩
  |rune m=>exact⟨_,Kx hx,h⟩
 ·exact kA h
 ·split at h
  ·rename_i hx hy
   obtain⟨hk,h2⟩:=cond_false h
   have:=of_decide_eq_true hk
   subst this
   exact⟨_,li hx hy,h2⟩
  ·exact h.elim
 ·split at h
  ·rename_i hx hy
   obtain⟨hk,h2⟩:=cond_false h
   have:=of_decide_eq_true hk
   subst this
   exact⟨_,fj hx hy,h2⟩
  ·exact h.elim
 ·split at h
  ·rename_i l hl
   unfold RS at h
   cases hc:I1 l with
   |true =>
    rw[hc]at h
    obtain⟨⟨r,hr,h⟩⟩:=h
    rw[List.append_nil]at hr
    exact⟨_,OU hr hl hc,h⟩
   |false =>
    rw[hc]at h
    obtain⟨⟨is,L,r,hL,nl,hr,pF,h⟩⟩:=h
    exact⟨_,SE is hr hl hL nl pF fun _ _ _ _=>⟨[],rfl,rfl,fun j x c hx=>by simp at hx⟩,h⟩
  ·exact h.elim
 ·split at h
  ·rename_i f caps l hg hl
   unfold RS at h
   cases hc:I1 l with
   |true =>
    rw[hc]at h
    obtain⟨⟨r,hr,h⟩⟩:=h
    exact⟨_,cW hg hr hl hc,h⟩
   |false =>
    rw[hc]at h
    obtain⟨⟨is,L,r,hL,nl,hr,pF,h⟩⟩:=h
    refine⟨_,SE is hr hl hL nl pF fun θ a w h=>?_,h⟩
    have:=(h.rel hg)
    generalize a.eval _=v at this
    cases this with
    |im hi=>cases hi with|fn f l cs hl hc=>exact⟨cs,rfl,hl,hc⟩
  ·exact h.elim
 ·split at h
  ·rename_i ps sG
   obtain⟨⟨zs,pl,tz,tp,h⟩⟩:=h
   obtain⟨hf,h⟩:=o0 h
   obtain⟨a,ha,h⟩:=I2 h
   rw[Option.map_eq_some_iff]at ha
   obtain⟨l,hl,rfl⟩:=ha
   exact⟨_,WB (T:=_) sG hf hl,h⟩
  ·exact h.elim
 ·split at h
  ·rename_i ps sG
   obtain⟨⟨e,sz,bs,z,ts,tz,tb,hz,h⟩⟩:=h
   obtain⟨hc,h⟩:=cond_false h
   simp only[Bool.and_eq_true,Nat.beq_eq,Nat.blt_eq]at hc
   obtain⟨hs,h⟩:=h
   obtain⟨hf,h⟩:=o0 h
   obtain⟨hi,h⟩:=Eb h
   exact⟨_,Ix (e:=e) (z:=z) sG hf hc.1.1.1 hc.1.1.2 hc.1.2 hz hs hc.2 hi,h⟩
  ·exact h.elim
 ·exact Zt h
 ·exact cr h
 ·split at h
  ·rename_i hx
   obtain⟨a,ha,h⟩:=I2 h
   exact⟨a,Ph hx ha,h⟩
  ·exact h.elim
 ·split at h
  ·rename_i caps hc
   obtain⟨nl,h⟩:=cond_false h
   exact⟨_,Xa hc nl,h⟩
  ·exact h.elim
 ·exact h.elim
end sound
def Rd(a:AV):Prop:=∃U w v,Im U w a v
theorem Rd.sl{sz:Nat}{l:List (List AV)}(h:Rd (.sl sz l)):l.length≤9223372036854775807:=by
 obtain⟨U,w,v,h⟩:=h
 cases h with
 |slnil=>simp
 |sl sz l a cap f oN hm hu hsz hc h=>unfold maxLen at hm;omega
theorem Rd.agg{l:List AV}(h:Rd (.agg l)):∀x∈l,Rd x:=by
 obtain⟨U,w,v,h⟩:=h
 cases h with
 |agg l cs hl h =>
  intro x hx
  obtain⟨j,hj,rfl⟩:=List.getElem_of_mem hx
  have h2:j<cs.length:=by omega
  exact⟨U,w,_,h j _ _ (List.getElem?_eq_getElem hj) (List.getElem?_eq_getElem h2)⟩
theorem Rd.elem{sz:Nat}{l:List (List AV)}(h:Rd (.sl sz l)):∀e∈l,∀x∈e,Rd x:=by
 obtain⟨U,w,v,h⟩:=h
 cases h with
 |slnil=>intro e he;cases he
 |sl sz l a cap f oN hm hu hsz hc h =>
  intro e he x hx
  obtain⟨i,hi,rfl⟩:=List.getElem_of_mem he
  obtain⟨j,hj,rfl⟩:=List.getElem_of_mem hx
  exact⟨U,w,_,h i _ (List.getElem?_eq_getElem hi) j _ (List.getElem?_eq_getElem hj)⟩
def BC:List AV→Nat→List (Nat×AV)
 |[],_=>[]
 |a::r,k=>(k,a)::BC r (k+1)
theorem Ec:∀(l:List AV) (k s:Nat) (x:AV),look (BC l k) s=some x→k≤s∧l[s-k]?=some x
 |[],_,_,_,h=>by cases h
 |a::r,k,s,x,h=>by
  simp only[BC,E4]at h
  by_cases e:k=s
  ·subst e;simp at h;subst h;simp
  ·rw[if_neg e]at h
   obtain⟨h1,h2⟩:=Ec r (k+1) s x h
   refine⟨by omega,?_⟩
   have:s-k=(s-(k+1))+1:=by omega
   rw[this]
   simpa using h2
def V0(tmps:Array Value):ResultVar→Sem Value
 |.tmp t=>pure (tmps.getD t undef)
 |.cell a t=>do loadVar t (←asAddr (tmps.getD a undef))
theorem Lt{P:Program}{w:World}{tmps:Array Value}:∀{rvs:List ResultVar} {vs:List Value},rvs.length=vs.length→(∀(j:Nat) rv v,rvs[j]?=some rv→vs[j]?=some v→(V0 tmps rv).run P w=.ok v w)→(rvs.mapM (V0 tmps)).run P w=.ok vs w
 |[],[],_,_=>by simp[Sem.run_pure]
 |rv::r,v::s,hl,h=>by
  have h1:=h 0 rv v rfl rfl
  have h2:=Lt (rvs:=r) (vs:=s) (by simpa using hl) (fun j rv v hj hv=>h (j+1) rv v (by simpa using hj) (by simpa using hv))
  simp[List.mapM_cons,Sem.run_bind,h1,h2]
 |[],_::_,hl,_=>by simp at hl
 |_::_,[],hl,_=>by simp at hl
theorem LB{P:Program}{w:World}{fn:Func}{tmps:Array Value}{rvs:List ResultVar}{vs:List Value}(h:fn.results=rvs.toArray)(hne:rvs.length≠1)(hl:rvs.length=vs.length)(hv:∀(j:Nat) rv v,rvs[j]?=some rv→vs[j]?=some v→(V0 tmps rv).run P w=.ok v w):
  (results fn tmps).run P w=.ok (.tuple vs.toArray) w:=by
 have hm:=Lt (P:=P) (w:=w) (tmps:=tmps) hl hv
 have e:results fn tmps=(do let vs ←fn.results.mapM (V0 tmps);pure (if h:vs.size=1 then vs[0]else .tuple vs)):=by
  unfold results
  congr
 rw[e,h,List.mapM_toArray]
 simp only[Sem.run_bind,map_eq_pure_bind,hm,Sem.run_pure,Result.andThen_ok]
 rw[dif_neg (by simp;omega)]
theorem SM{P:Program}{w:World}{fn:Func}{tmps:Array Value}{rv:ResultVar}{v:Value}(h:fn.results=[rv].toArray)(hv:(V0 tmps rv).run P w=.ok v w):
  (results fn tmps).run P w=.ok v w:=by
 have hm:=Lt (P:=P) (w:=w) (tmps:=tmps) (rvs:=[rv]) (vs:=[v]) rfl (fun j rv' v' hj oY=>by
  cases j with
  |zero=>simp at hj oY;subst hj oY;exact hv
  |succ j=>simp at hj)
 have e:results fn tmps=(do let vs ←fn.results.mapM (V0 tmps);pure (if h:vs.size=1 then vs[0]else .tuple vs)):=by
  unfold results
  congr
 rw[e,h,List.mapM_toArray]
 simp only[Sem.run_bind,map_eq_pure_bind,hm,Sem.run_pure,Result.andThen_ok]
 rfl
inductive NL:AV→AV→Prop
 |refl (a:AV):NL a a
 |any (a:AV):NL a .any
 |nil (sz:Nat):NL (.v (.slice none 0 0)) (.sl sz [])
 |agg (l m:List AV) (h:l.length=m.length) (hh:∀(j:Nat) x y,l[j]?=some x→m[j]?=some y→NL x y):NL (.agg l) (.agg m)
 |tup (l m:List AV) (h:l.length=m.length) (hh:∀(j:Nat) x y,l[j]?=some x→m[j]?=some y→NL x y):NL (.tup l) (.tup m)
 |sl (sz:Nat) (l m:List (List AV)) (h:l.length=m.length) (hl:∀(i:Nat) e e',l[i]?=some e→m[i]?=some e'→e.length=e'.length) (hh:∀(i:Nat) e e',l[i]?=some e→m[i]?=some e'→∀(j:Nat) x y,e[j]?=some x→e'[j]?=some y→NL x y):NL (.sl sz l) (.sl sz m)
theorem N6{α β:Type}{l:List α}{m:List β}(h:l.length=m.length){j:Nat}{y:β}(hy:m[j]?=some y):∃x,l[j]?=some x:=by
 have:=(List.getElem?_eq_some_iff.1 hy).1
 exact⟨_,List.getElem?_eq_getElem (by omega)⟩
theorem NL.im{U:Nat→Prop}{w:World}{a b:AV}(h:NL a b):∀{v:Value},Im U w a v→Im U w b v:=by
 induction h with
 |refl a=>intro v h;exact h
 |any a=>intro v h;exact .any v
 |nil sz=>intro v h;cases h;exact .slnil sz
 |agg l m hl hh ih =>
  intro v h
  cases h with
  |agg l cs hc h =>
   refine .agg m cs (by omega) fun j y c hy pc=>?_
   obtain⟨x,hx⟩:=N6 hl hy
   exact ih j x y hx hy (h j x c hx pc)
 |tup l m hl hh ih =>
  intro v h
  cases h with
  |tup l cs hc h =>
   refine .tup m cs (by omega) fun j y c hy pc=>?_
   obtain⟨x,hx⟩:=N6 hl hy
   exact ih j x y hx hy (h j x c hx pc)
 |sl sz l m hl nO hh ih =>
  intro v h
  cases h with
  |slnil =>
   have:m=[]:=List.eq_nil_of_length_eq_zero (by rw[←hl];rfl)
   subst this
   exact .slnil sz
  |sl sz l a cap f oN hm hu hsz hc h =>
   rw[hl]
   refine .sl sz m a cap f (by omega) hm (fun hne=>hu (fun e=>hne (List.eq_nil_of_length_eq_zero (by rw[←hl,e];rfl)))) (fun e he=>?_) (fun i hi=>hc i (by omega)) (fun i e' qh j y hy=>?_)
   ·obtain⟨i,hi,rfl⟩:=List.getElem_of_mem he
    obtain⟨x,hx⟩:=N6 hl (List.getElem?_eq_getElem hi)
    rw[←nO i x _ hx (List.getElem?_eq_getElem hi)]
    exact hsz x (List.mem_of_getElem? hx)
   ·obtain⟨e,he⟩:=N6 hl qh
    obtain⟨x,hx⟩:=N6 (nO i e e' he qh) hy
    exact ih i e e' he qh j x y hx hy (h i e he j x hx)
theorem NH{c:Cx}{a b:AV}(h:NL a b):∀{v:Value},D7 c a v→D7 c b v:=by
 induction h with
 |refl a=>intro v h;exact h
 |any a=>intro v h;exact .any v
 |nil sz=>intro v h;rw[h.val];exact .im (.slnil sz)
 |agg l m hl hh ih =>
  intro v h
  obtain⟨cs,rfl,hc,hr⟩:=Ew h
  refine .agg m cs (by omega) fun j y z hy hz=>?_
  obtain⟨x,hx⟩:=N6 hl hy
  exact ih j x y hx hy (hr j x z hx hz)
 |tup l m hl hh ih =>
  intro v h
  have:∃cs:List Value,v=.tuple cs.toArray∧l.length=cs.length∧∀(j:Nat) u z,l[j]?=some u→cs[j]?=some z→D7 c u z:=by
   cases h with
   |im hi=>cases hi with|tup l cs hl hc=>exact⟨cs,rfl,hl,fun j u z hu hz=>.im (hc j u z hu hz)⟩
   |tup l cs hl hc=>exact⟨cs,rfl,hl,hc⟩
  obtain⟨cs,rfl,hc,hr⟩:=this
  refine .tup m cs (by omega) fun j y z hy hz=>?_
  obtain⟨x,hx⟩:=N6 hl hy
  exact ih j x y hx hy (hr j x z hx hz)
 |sl sz l m hl nO hh ih =>
  intro v h
  cases h with
  |im hi=>exact .im ((NL.sl sz l m hl nO hh).im hi)
def Xj(P:Program)(σ:St):ResultVar→AV→Prop
 |.tmp t,a=>∃a',(look σ.sl t).map (I5 σ.hp [])=some a'∧NL a' a
 |.cell t T,a=>∃i τ l sz,look σ.sl t=some (.ref i 0)∧A5 σ.hp i=some (.bx τ l)∧G2 P T true sz∧l.length=sz∧NL (.agg (Cc σ.hp [] l)) a
def HT(P:Program)(σ:St):List ResultVar→List AV→Prop
 |[],[]=>True
 |v::r,a::s=>Xj P σ v a∧HT P σ r s
 |_,_=>False
theorem HT.get{P:Program}{σ:St}:∀{rvs:List ResultVar} {as:List AV},HT P σ rvs as→rvs.length=as.length∧∀(j:Nat) rv a,rvs[j]?=some rv→as[j]?=some a→Xj P σ rv a
 |[],[],_=>⟨rfl,fun j rv a h=>by simp at h⟩
 |v::r,a::s,h=>by
  obtain⟨h1,h2⟩:=HT.get h.2
  refine⟨by simp[h1],fun j rv b hj hb=>?_⟩
  cases j with
  |zero=>simp at hj hb;subst hj hb;exact h.1
  |succ j=>exact h2 j rv b (by simpa using hj) (by simpa using hb)
 |[],_::_,h=>h.elim
 |_::_,[],h=>h.elim
def ft(P:Program)(rs:Array ResultVar)(r:AV)(σ:St):Prop :=
 (∃rvs as,rs=rvs.toArray∧rvs.length≠1∧HT P σ rvs as∧r=.tup as) ∨
 (∃t,rs=#[.tmp t]∧(look σ.sl t).map (I5 σ.hp [])=some r) ∨
 (∃t sz,rs=#[.tmp t]∧look σ.sl t=some (.v (.slice none 0 0))∧r=.sl sz []) ∨
 (∃t u a b,rs=#[.tmp t,.tmp u]∧(look σ.sl t).map (I5 σ.hp [])=some a∧(look σ.sl u).map (I5 σ.hp [])=some b∧r=.tup [a,b]) ∨
 (∃t T i τ l,rs=#[.cell t T]∧look σ.sl t=some (.ref i 0)∧A5 σ.hp i=some (.bx τ l)∧r=.agg (Cc σ.hp [] l))
def D1(P:Program)(rs:Array ResultVar)(r:AV):Exit→St→Prop
 |.ret,σ=>ft P rs r σ
 |.normal,σ=>ft P rs r σ
 |_,_=>False
theorem A0{P:Program}{t:Nat}{r r':AV}{σ:St}(h:(look σ.sl t).map (I5 σ.hp [])=some r')(e:r'=r):D1 P #[.tmp t] r .ret σ:=.inr (.inl ⟨t,rfl,e▸h⟩)
theorem SN{P:Program}{rs:List ResultVar}{vs:List AV}{r:AV}{σ:St}(hn:(Nat.beq rs.length 1)=false)(h:HT P σ rs vs)(e:.tup vs=r):D1 P rs.toArray r .ret σ:=.inl ⟨rs,vs,rfl,(fun h=>by rw[h]at hn;cases hn),h,e.symm⟩
theorem SO{P:Program}{t:Nat}{a' a:AV}{σ:St}(h:(look σ.sl t).map (I5 σ.hp [])=some a')(e:NL a' a):Xj P σ (.tmp t) a:=⟨a',h,e⟩
theorem HU{P:Program}{t u v:Nat}{a b c r:AV}{σ:St}(h:(look σ.sl t).map (I5 σ.hp [])=some a)(h2:(look σ.sl u).map (I5 σ.hp [])=some b)(h3:(look σ.sl v).map (I5 σ.hp [])=some c)(e:.tup [a,b,c]=r):D1 P #[.tmp t,.tmp u,.tmp v] r .ret σ :=
 SN (rs:=[.tmp t,.tmp u,.tmp v]) (vs:=[a,b,c]) rfl ⟨⟨a,h,.refl _⟩,⟨b,h2,.refl _⟩,⟨c,h3,.refl _⟩,trivial⟩ e
theorem q9{P:Program}{t T i u sz τ:Nat}{l:List AV}{a b b' r:AV}{σ:St}[tv:G2 P T true sz](h:look σ.sl t=some (.ref i 0))(hb:A5 σ.hp i=some (.bx τ l))(hl:Nat.beq l.length sz=true)(na:NL (.agg (Cc σ.hp [] l)) a)(h2:(look σ.sl u).map (I5 σ.hp [])=some b')(nb:NL b' b)(e:.tup [a,b]=r):D1 P #[.cell t T,.tmp u] r .ret σ :=
 SN (rs:=[.cell t T,.tmp u]) (vs:=[a,b]) rfl ⟨⟨i,τ,l,sz,h,hb,tv,Nat.eq_of_beq_eq_true hl,na⟩,⟨b',h2,nb⟩,trivial⟩ e
theorem T8{P:Program}{t u:Nat}{a b r:AV}{σ:St}(h:(look σ.sl t).map (I5 σ.hp [])=some a)(h2:(look σ.sl u).map (I5 σ.hp [])=some b)(e:.tup [a,b]=r):D1 P #[.tmp t,.tmp u] r .ret σ:=.inr (.inr (.inr (.inl ⟨t,u,a,b,rfl,h,h2,e.symm⟩)))
theorem AC{P:Program}{t sz:Nat}{r:AV}{σ:St}(h:look σ.sl t=some (.v (.slice none 0 0)))(e:.sl sz []=r):D1 P #[.tmp t] r .ret σ:=.inr (.inr (.inl ⟨t,sz,rfl,h,e.symm⟩))
section rules
variable {P:Program} {E:Env} {n:Nat} {ops:Array Oper} {rest:List Oper} {σ:St} {K:St→Prop} {Q:Exit→St→Prop}
variable {d:Nat} {ty:TypeId} {pos:String} {after:Array Edge} {x y:Operand}
theorem Pl{fn:Func}{r:AV}{X:Nat→Prop}{w w':World}{qx:Q4 (fun k=>X k∨(fun _=>False) k) w}{rf:Bool}{θ:Th}{σ':St}{a:Act}(hs:J0 ⟨w,X,fun _=>False,fun _=>undef,0,qx,rf⟩ n θ σ' a w')(xW:a.defers=[])(nl:O8 r)
  (pO:∀t T,fn.results=#[.cell t T]→∃sz,G2 P T true sz∧∀l,r=.agg l→l.length=sz) (sv:ft P fn.results r σ'):bodyPost P fn (fun e qq=>∃v,e=.returned v∧Im X qq r v∧Below w.heap.size w qq) .ret a w':=by
 have pU:Below w.heap.size w w':=⟨hs.fr.os,hs.fr.tape,hs.fr.output,hs.fr.size,fun k hk=>hs.fr.block k hk (fun h=>h)⟩
 have td:=hs.cv (σ':=⟨AY (I5 σ'.hp []) σ'.sl,σ'.nx,[]⟩) (Nat.zero_le _) (fun s x' hx=>by
  rw[Cd,Option.map_eq_some_iff]at hx
  obtain⟨x,h1,h2⟩:=hx
  exact⟨x,h1,h2,.inl (Nat.le_refl _)⟩) (fun i b' hi=>by cases hi) (fun i e sz v l hi=>by cases hi)
 have wN:∀{a:AV} {v:Value},O8 a→D7 (cx ⟨w,X,fun _=>False,fun _=>undef,0,qx,rf⟩ θ ⟨AY (I5 σ'.hp []) σ'.sl,σ'.nx,[]⟩ w') a v→Im X w' a v:=fun hc hi=>(hc.im hi).mono (fun _ _ _=>rfl) fun k _ hu=>.inl hu
 have slot:∀{t:Nat} {r:AV},(look σ'.sl t).map (I5 σ'.hp [])=some r→look (AY (I5 σ'.hp []) σ'.sl) t=some r:=fun h=>by rw[Cd];exact h
 rcases sv with ⟨rvs,as,h1,su,tW,rfl⟩|⟨t,h1,h2⟩|⟨t,sz,h1,h2,rfl⟩|⟨t,u,a1,b1,h1,h2,h3,rfl⟩|⟨t,T,i,τ,l,h1,h2,h3,rfl⟩
 ·obtain⟨nO,pB⟩:=HT.get tW
  have zL:∀a∈as,O8 a:=by cases nl with|tup hk=>exact hk
  have one:∀(rv:ResultVar) (b:AV),O8 b→Xj P σ' rv b→∃v,(V0 a.tmps rv).run P w'=.ok v w'∧Im X w' b v:=by
   intro rv b hb hv
   cases rv with
   |tmp t =>
    obtain⟨a',h1,h2⟩:=hv
    exact⟨_,by simp[V0,Sem.run_pure],wN hb (NH h2 (td.slots t a' (slot h1)))⟩
   |cell t T =>
    obtain⟨i,τ,l,sz,h2,h3,tv,sK,uE⟩:=hv
    obtain⟨b1,hθ,hv,_⟩:=j8 (hs.slots t _ h2)
    obtain⟨b',ny,T',oc,hh,hsz,hr⟩:=(hs.owns i _ h3).2
    have pn:θ i=.pointer (some ⟨b1,0,none⟩):=hθ
    have qJ:θ i=.pointer (some ⟨b',0,none⟩):=oc
    rw[pn]at qJ
    cases qJ
    have vI:w'.heap[b1]?=some (.cells ny T' (0,0)):=hh
    have sub:(cx ⟨w,X,fun _=>False,fun _=>undef,0,qx,rf⟩ θ σ' w').sub (cx ⟨w,X,fun _=>False,fun _=>undef,0,qx,rf⟩ θ ⟨AY (I5 σ'.hp []) σ'.sl,σ'.nx,[]⟩ w'):=⟨rfl,rfl,fun _ h=>h,(fun i b' hi=>by cases hi),hs.apart,fun i b k hi hk=>(hs.mine i b k hi hk).1,fun i b hi=>(hs.owns i b hi).2⟩
    have qO:=Q6 (P:=P) (T:=T) (sz:=sz) (w:=w') (a:=⟨b1,0,none⟩) (cs:=ny.toList) (by rw[Array.length_toList,hsz,sK]) (fun j v hj=>by rw[G7,J7 vI];simpa using hj)
    refine⟨.agg ny,by simp[V0,hv,Sem.run_bind,Sem.run_pure,asAddr,qO],wN hb (NH uE (by
     have:=D7.agg (c:=cx ⟨w,X,fun _=>False,fun _=>undef,0,qx,rf⟩ θ ⟨AY (I5 σ'.hp []) σ'.sl,σ'.nx,[]⟩ w') (Cc σ'.hp [] l) ny.toList (by rw[O7];simp[hsz]) (fun j x y hx hy=>by
      rw[O7]at hx
      simp only[List.getElem?_map,Option.map_eq_some_iff]at hx
      obtain⟨u0,pP,rfl⟩:=hx
      exact Iy sub (hr j u0 y pP (by simpa using hy)) (.inl (Nat.le_refl _)))
     simpa using this))⟩
  have all:∀(m:Nat),m≤rvs.length→∃vs:List Value,vs.length=m∧∀(j:Nat) rv v,rvs[j]?=some rv→vs[j]?=some v→(V0 a.tmps rv).run P w'=.ok v w'∧∀b,as[j]?=some b→Im X w' b v:=by
   intro m
   induction m with
   |zero=>intro _;exact⟨[],rfl,fun j rv v _ h=>by simp at h⟩
   |succ m ih =>
    intro hm
    obtain⟨vs,hl,pz⟩:=ih (by omega)
    have xA:rvs[m]?=some rvs[m]:=List.getElem?_eq_getElem (by omega)
    have ham:as[m]?=some (as[m]'(by omega)):=List.getElem?_eq_getElem (by omega)
    obtain⟨v,tR,rJ⟩:=one rvs[m] (as[m]'(by omega)) (zL _ (List.getElem_mem _)) (pB m _ _ xA ham)
    refine⟨vs++[v],by simp[hl],fun j rv u hj hu=>?_⟩
    by_cases e:j<m
    ·rw[List.getElem?_append_left (by omega)]at hu
     exact pz j rv u hj hu
    ·rw[List.getElem?_append_right (by omega),hl]at hu
     have ej:j=m:=by
      have:=(List.getElem?_eq_some_iff.1 hu).1
      simp at this;omega
     subst ej
     simp at hu
     subst hu
     rw[xA]at hj
     cases hj
     exact⟨tR,fun b hb=>by rw[ham]at hb;cases hb;exact rJ⟩
  obtain⟨vs,xG,pz⟩:=all rvs.length (Nat.le_refl _)
  refine⟨xW,_,LB h1 su xG.symm (fun j rv v hj hv=>(pz j rv v hj hv).1),_,rfl,.tup as vs (by omega) fun j b v hb hv=>?_,pU⟩
  obtain⟨rv,zn⟩:=N6 nO hb
  exact(pz j rv v zn hv).2 b hb
 ·exact⟨xW,_,results_tmp h1 _ _ _,_,rfl,wN nl (td.slots t r (slot h2)),pU⟩
 ·exact⟨xW,_,results_tmp h1 _ _ _,_,rfl,by rw[(hs.slots t _ h2).val];exact .slnil sz,pU⟩
 ·refine⟨xW,_,results_tmp2 h1 _ _ _,_,rfl,?_,pU⟩
  refine wN nl (.tup [a1,b1] [_,_] rfl fun j x y hx hy=>?_)
  match j,hx,hy with
  |0,hx,hy=>cases hx;cases hy;exact td.slots t _ (slot h2)
  |1,hx,hy=>cases hx;cases hy;exact td.slots u _ (slot h3)
 ·obtain⟨b,hθ,hv,_⟩:=j8 (hs.slots t _ h2)
  obtain⟨b',ny,T',oc,hh,hsz,hr⟩:=(hs.owns i _ h3).2
  have pn:θ i=.pointer (some ⟨b,0,none⟩):=hθ
  have qJ:θ i=.pointer (some ⟨b',0,none⟩):=oc
  rw[pn]at qJ
  cases qJ
  obtain⟨sz,tv,nO⟩:=pO t T h1
  have sK:=nO _ rfl
  rw[O7,List.length_map]at sK
  have vI:w'.heap[b]?=some (.cells ny T' (0,0)):=hh
  have sub:(cx ⟨w,X,fun _=>False,fun _=>undef,0,qx,rf⟩ θ σ' w').sub (cx ⟨w,X,fun _=>False,fun _=>undef,0,qx,rf⟩ θ ⟨AY (I5 σ'.hp []) σ'.sl,σ'.nx,[]⟩ w'):=⟨rfl,rfl,fun _ h=>h,(fun i b' hi=>by cases hi),hs.apart,fun i b k hi hk=>(hs.mine i b k hi hk).1,fun i b hi=>(hs.owns i b hi).2⟩
  refine⟨xW,.agg ny,?_,_,rfl,wN nl (by
   have:=D7.agg (c:=cx ⟨w,X,fun _=>False,fun _=>undef,0,qx,rf⟩ θ ⟨AY (I5 σ'.hp []) σ'.sl,σ'.nx,[]⟩ w') (Cc σ'.hp [] l) ny.toList (by rw[O7];simp[hsz]) (fun j x y hx hy=>by
    rw[O7]at hx
    simp only[List.getElem?_map,Option.map_eq_some_iff]at hx
    obtain⟨u0,pP,rfl⟩:=hx
    exact Iy sub (hr j u0 y pP (by simpa using hy)) (.inl (Nat.le_refl _)))
   simpa using this),pU⟩
  have qO:=Q6 (P:=P) (T:=T) (sz:=sz) (w:=w') (a:=⟨b,0,none⟩) (cs:=ny.toList) (by rw[Array.length_toList,hsz,sK]) (fun j v hj=>by rw[G7,J7 vI];simpa using hj)
  rw[Array.getD_eq_getD_getElem?]at hv
  simp[results,h1,hv,Sem.run_bind,Sem.run_pure,asAddr,qO]
theorem VE {f : Nat} {fn : Func} {code : Code} {args : List AV} {r : AV} {rs : Array ResultVar} (hf : P.funcs[f]? = some fn) (pA : (fn.name == "runtime.NumGoroutine") = false) (hb : fn.body = some code) (hn : fn.ntmps = n) (sH : fn.results = rs)
  (ns:Nat.ble args.length n=true) (nl:I8 r=true) (pO:∀t T,rs=#[.cell t T]→∃sz,G2 P T true sz∧∀l,r=.agg l→l.length=sz)
  (h:(∀a∈args,Rd a)→∀E,E.n0=0→D0 P E n code ⟨BC args 0,0,[]⟩ (D1 P rs r)):A3 P f args r:=by
 subst hn sH
 have nl:=Q8 nl
 refine⟨⟨fn,hf,pA,by rw[hb];rfl⟩,fun X w vs hX oM hl pz=>?_⟩
 have qx:Q4 (fun k=>X k∨(fun _=>False) k) w:=oM.mono (fun k _ h=>h.elim id False.elim) fun _ _ _=>rfl
 have nQ:∀a∈args,Rd a:=by
  intro a ha
  obtain⟨j,hj,rfl⟩:=List.getElem_of_mem ha
  have h2:j<vs.length:=by omega
  exact⟨X,w,_,pz j _ _ (List.getElem?_eq_getElem hj) (List.getElem?_eq_getElem h2)⟩
 refine calls_of_wp hf hb ?_
 have ob:args.length≤fn.ntmps:=Nat.ble_eq▸ns
 have start:e7 ⟨w,X,fun _=>False,fun _=>undef,0,qx,false⟩ fn.ntmps ⟨BC args 0,0,[]⟩ { tmps:=vs.toArray++Array.replicate (fn.ntmps-vs.toArray.size) undef,defers:=[] } w:=by
  refine⟨⟨fun _=>undef,fun _ _=>none⟩,?_,.nil,⟨rfl,rfl,rfl,Nat.le_refl _,fun _ _ _=>rfl⟩,fun s x hs=>?_,fun i b hi=>?_,fun i j b b' k hi=>?_,fun i b k hi=>?_,hX,⟨Nat.le_refl _,fun i hi=>?_⟩⟩
  ·simp;omega
  ·obtain⟨_,hx⟩:=Ec args 0 s x hs
   rw[Nat.sub_zero]at hx
   have nR:s<vs.length:=by rw[←hl];exact(List.getElem?_eq_some_iff.1 hx).1
   have hv:vs[s]?=some vs[s]:=List.getElem?_eq_getElem nR
   have e:(vs.toArray++Array.replicate (fn.ntmps-vs.toArray.size) undef).getD s undef=vs[s]:=by
    rw[Array.getD_eq_getD_getElem?,Array.getElem?_append]
    simp[nR]
   rw[e]
   refine .im ((pz s x _ hx hv).mono (fun _ _ _=>rfl) fun k _ hu=>?_)
   rcases hu with hu|⟨i,b,hi,_⟩
   ·exact hu
   ·cases hi
  ·cases hi
  ·cases hi
  ·cases hi
  ·exact absurd hi (Nat.not_lt_zero _)
 refine wp_mono (h nQ ⟨w,X,fun _=>False,fun _=>undef,0,qx,false⟩ rfl _ w start) ?_
 rintro e a w' ⟨σ',hq,θ,hs⟩
 have fin:=Pl (P:=P) (fn:=fn) (r:=r) hs (hs.defers.1 rfl) nl pO
 cases e with
 |normal=>exact fin hq
 |ret=>exact fin hq
 |exit id=>exact hq.elim
 |goto l=>exact hq.elim
 |panic c=>exact hq.elim
 |outgrown=>exact hq.elim
theorem A3.congr{f:Nat}{args:List AV}{r r':AV}(h:A3 P f args r)(e:r=r'):A3 P f args r':=e▸h
theorem Ex{l:List Oper}{σ':St}(h:St.le E n σ σ')(k:B0 P E n ops l σ' K):B0 P E n ops l σ K:=fun a w hs=>k a w (h a w hs)
theorem K4{d e sz:Nat}(hd:look σ.sl d=some (.v (.slice none 0 0)))(he:Nat.blt e J1=true:=by rfl):St.le E n σ ((σ.new (.row e sz 0 [])).put d (.row σ.nx 0 0)):=by
 rintro a w ⟨θ,h⟩
 have h2:=h.grow (w':=w) (Below.refl _ _) (.slice none 0 0) (.row e sz 0 []) (fun k hk=>by cases hk) (fun le=>⟨[],⟨by simp,.inl ⟨by simp[cx,E5],rfl⟩⟩,(fun el nN=>by cases nN),(fun k el hk=>by simp at hk),.lt (Nat.blt_eq▸he)⟩) (M5 (Nat.blt_eq▸he))
 refine⟨_,h2.size,h2.defers,h2.fr,fun s x hs=>?_,h2.owns,h2.apart,h2.mine,h2.X,h2.base⟩
 simp only[St.put,E4]at hs
 by_cases ed:d=s
 ·subst ed
  rw[if_pos rfl]at hs
  cases hs
  have hv:=(h.slots d _ hd).val
  rw[hv]
  refine .row _ _ _ _ (by simp[cx,St.new,St.put]) fun e' nU v' l' hl=>?_
  simp only[cx,St.new,St.put,F4,if_pos]at hl
  cases hl
  exact⟨Nat.le_refl _,fun _=>⟨rfl,by simp[cx,E5]⟩⟩
 ·rw[if_neg ed]at hs
  exact h2.slots s x hs
theorem Zu{d sz:Nat}(hd:look σ.sl d=some (.v (.slice none 0 0))):St.le E n σ (σ.put d (.sl sz [])):=by
 rintro a w ⟨θ,h⟩
 refine⟨θ,h.size,h.defers,h.fr,fun s x hs=>?_,h.owns,h.apart,h.mine,h.X,h.base⟩
 simp only[St.put,E4]at hs
 by_cases ed:d=s
 ·subst ed
  rw[if_pos rfl]at hs
  cases hs
  rw[(h.slots d _ hd).val]
  exact .im (.slnil sz)
 ·rw[if_neg ed]at hs
  exact h.slots s x hs
structure Z7(P:Program)(E:Env)(n:Nat)(ops:Array Oper)(o:Oper)(rest:List Oper)(l:List AV)(σ:St)(K:St→Prop):Prop where
 h:B0 P E n ops (o::rest) σ K
mutual
def ct:AV→Option Nat
 |.ref i _|.row i _ _|.elt i _ _ _=>some i
 |.agg l|.tup l|.fo _ l=>Pm l
 |_=>none
def Pm:List AV→Option Nat
 |[]=>none
 |x::r=>match ct x with
  |some i=>some i
  |none=>Pm r
end
theorem NI{f:Nat}{xs:List Operand}{ts:Array TypeId}{d:Nat}{ty:TypeId}{pos:String}{after:Array Edge}{M L l:List AV}{r:AV}(is:List Nat)(hc:A3 P f M r)(pf:e8 (E9 σ) xs=some l)(hL:Cc σ.hp (Ce is σ.hp) l=L)(hM:L++[]=M)(nl:I1 L=true)(pF:Fo r=true)(hd:Nat.blt d n=true)
  (k:B0 P E n ops rest (σ.put d r) K):Z7 P E n ops ⟨some d,.call ⟨.value (.func f),⟨xs⟩,ts⟩,ty,pos,after,none⟩ rest l σ K :=
 ⟨Ip (SE is (caps:=[]) (hM▸hc) pf hL nl pF fun _ _ _ _=>⟨[],rfl,rfl,fun j x c hx=>by simp at hx⟩) hd k⟩
theorem I6{o:Oper}{l:List AV}(i:Nat)(h:B0 P E n ops (o::rest) (σ.frz i) K):Z7 P E n ops o rest l σ K:=⟨Ex (Gk i) h⟩
def lits:List Nat:=[0,1,2,3,4,5,6,7,8,9,10,11,12,13,14,15,16,17,18,19,20,21,22,23,24,25,26,27,28,29,30,31,32,33,34,35,36,37,38,39,40,41,42,43,44,45,46,47,48,49,50,51,52,53,54,55,56,57,58,59,60,61,62,63]
def JG:List Nat→Nat→Option Nat
 |[],_=>none
 |x::_,0=>some x
 |_::r,k+1=>JG r k
theorem WG:∀(l:List Nat) (m:Nat),JG l m=l[m]?
 |[],m=>by simp[JG]
 |x::r,0=>by simp[JG]
 |x::r,k+1=>by simp[JG,WG r k]
theorem Zv{m k:Nat}(h:JG lits m=some k):k=m:=by
 by_cases hm:m<64
 ·have h2:∀j,j<64→JG lits j=some j:=by decide
  rw[h2 m hm]at h
  exact(Option.some.inj h).symm
 ·rw[WG,List.getElem?_eq_none (by simp[lits];omega)]at h
  cases h
def G5(m:Nat)(F:Nat→Prop):Prop :=
 match JG lits m with
 |some k=>F k
 |none=>F m
theorem D8{m:Nat}{F:Nat→Prop}(h:G5 m F):F m:=by
 unfold G5 at h
 split at h
 ·rename_i hk;rw[Zv hk]at h;exact h
 ·exact h
def SP(P:Program)(E:Env)(n:Nat)(ops:Array Oper)(o:Oper)(T:Nat)(x y:Option AV)(rest:List Oper)(σ:St)(K:St→Prop):Prop :=
 match x,y with
 |some (.ref i off),some av=>match A5 σ.hp i with
  |some (.bx τ l)=>JA P T fun _ sz=>cond (Nat.beq (J9 av).length sz && Nat.ble (off+sz) l.length) (SH σ.hp av (Xh σ.hp (J9 av) (B0 P E n ops rest (σ.set i (.bx τ (CK l off (J9 av)))) K))) False
  |_=>False
 |some (.elt i ver k off),some av=>match A5 σ.hp i with
  |some (.row e sz oC l)=>F5 (ver=oC∧off<sz) (JA P T fun ag szT=>cond (cond ag false (Nat.beq szT 1 && w9 e)) (cond (I8 av) (SG σ.hp av (O6 l (k:Int) fun el=>B0 P E n ops rest (σ.set i (.row e sz ver (l.set k (el.set off av)))) K)) (Z7 P E n ops o rest [av] σ K)) False)
  |_=>False
 |_,_=>False
def fu(P:Program)(E:Env)(n:Nat)(ops:Array Oper)(d T:Nat)(x y:Option AV)(rest:List Oper)(σ:St)(K:St→Prop):Prop :=
 match x,y with
 |some (.v (.int .i64 m)),some (.v (.int .i64 m'))=>FN P T fun e sz bs z=>cond (Nat.blt e K8) (F5 (m=m'∧0≤m∧bs*m.toNat≤281474976710656∧m≤9223372036854775807) (G5 σ.nx fun nx=>B0 P E n ops rest ((σ.new (.row e sz 0 (List.replicate m.toNat z))).put d (.row nx 0 m.toNat)) K)) False
 |_,_=>False
def WH(P:Program)(E:Env)(n:Nat)(ops:Array Oper)(d T:Nat)(x y:Option AV)(rest:List Oper)(σ:St)(K:St→Prop):Prop :=
 match x,y with
 |some (.row i ver len),some (.sl nU m)=>match A5 σ.hp i with
  |some (.row e sz oC l)=>F5 (ver=oC) (FN P T fun e' ov bs _=>cond (Nat.beq e e' && Nat.beq sz ov && Nat.beq sz nU && Nat.blt 0 sz && Nat.blt e H3) (F5 (∀el∈m,∀u∈el,X8 u) (F5 ((len+m.length)*bs≤140737488355328∧len+m.length≤9223372036854775807)
    (B0 P E n ops rest ((σ.set i (.row e sz (ver+1) (l++m))).put d (.row i (ver+1) (len+m.length))) K))) False)
  |_=>False
 |some (.row i ver len),some (.row j uF wu)=>match A5 σ.hp i,A5 σ.hp j with
  |some (.row e sz oC l),some (.row _ nU ver2' m)=>F5 (ver=oC∧uF=ver2') (FN P T fun e' ov bs _=>cond (Nat.beq e e' && Nat.beq sz ov && Nat.beq sz nU && Nat.blt 0 sz && Nat.blt e H3) (F5 (∀el∈m,∀u∈el,X8 u) (F5 ((len+m.length)*bs≤140737488355328∧len+m.length≤9223372036854775807)
    (B0 P E n ops rest ((σ.set i (.row e sz (ver+1) (l++m))).put d (.row i (ver+1) (len+m.length))) K))) False)
  |_,_=>False
 |some (.v (.slice none 0 0)),some (.sl nU m)=>FN P T fun e sz bs _=>cond (Nat.beq sz nU && Nat.blt 0 sz && Nat.blt e H3) (F5 (∀el∈m,∀u∈el,X8 u) (F5 ((0+m.length)*bs≤140737488355328∧0+m.length≤9223372036854775807)
   (G5 σ.nx fun nx=>B0 P E n ops rest (((σ.new (.row e sz 0 [])).set nx (.row e sz 1 ([]++m))).put d (.row nx 1 (0+m.length))) K))) False
 |_,_=>False
def WI(P:Program)(E:Env)(n:Nat)(ops:Array Oper)(d T T2:Nat)(x:Option AV)(s:List UInt8)(rest:List Oper)(σ:St)(K:St→Prop):Prop :=
 match x with
 |some (.row i ver len)=>match A5 σ.hp i with
  |some (.row e sz oC l)=>F5 (ver=oC) (FN P T fun e' ov bs _=>Dn P T2 (cond (Nat.beq e e' && Nat.beq sz 1 && Nat.beq ov 1 && Nat.beq bs 1 && Nat.blt e H3) (fk P e (F5 (len+s.length≤140737488355328) (B0 P E n ops rest ((σ.set i (.row e 1 (ver+1) (l++Ib s))).put d (.row i (ver+1) (len+s.length))) K))) False))
  |_=>False
 |some (.v (.slice none 0 0))=>FN P T fun e sz bs _=>Dn P T2 (cond (Nat.beq sz 1 && Nat.beq bs 1 && Nat.blt e H3) (fk P e (F5 (0+s.length≤140737488355328) (G5 σ.nx fun nx=>B0 P E n ops rest (((σ.new (.row e 1 0 [])).set nx (.row e 1 1 ([]++Ib s))).put d (.row nx 1 (0+s.length))) K))) False)
 |_=>False
def Zw(P:Program)(E:Env)(n:Nat)(ops:Array Oper)(T:Nat)(x y z:Option AV)(rest:List Oper)(σ:St)(K:St→Prop):Prop :=
 match x,y,z with
 |some (.mp i),some rU,some av=>match A5 σ.hp i,keyOf rU with
  |some (.map m),some k=>Xe P T fun t _=>cond (Dm t k && I8 av) (F5 (q8 t m) (B0 P E n ops rest (σ.set i (.map (X9 m k av))) K)) False
  |_,_=>False
 |_,_,_=>False
def kB(P:Program)(E:Env)(n:Nat)(ops:Array Oper)(o:Oper)(rest:List Oper)(σ:St)(K:St→Prop):Prop :=
 match o.dst,o.op with
 |some d,.box T x=>cond (Nat.blt d n) (U7 (E9 σ x) fun av=>SH σ.hp av (G5 σ.nx fun nx=>B0 P E n ops rest ((σ.new (.box (J9 av))).put d (.ref nx 0)) K)) False
 |some d,.alloc T=>cond (Nat.blt d n) (Xd P T fun l=>G5 σ.nx fun nx=>B0 P E n ops rest ((σ.new (.box l)).put d (.ref nx 0)) K) False
 |none,.store T x y=>SP P E n ops ⟨o.dst,o.op,o.type,o.pos,o.after,none⟩ T (E9 σ x) (E9 σ y) rest σ K
 |some d,.makeSlice T x y=>cond (Nat.blt d n) (fu P E n ops d T (E9 σ x) (E9 σ y) rest σ K) False
 |some d,.makeMap T none=>cond (Nat.blt d n) (G5 σ.nx fun nx=>B0 P E n ops rest ((σ.new (.map [])).put d (.mp nx)) K) False
 |none,.mapUpdate T x y z=>Zw P E n ops T (E9 σ x) (E9 σ y) (E9 σ z) rest σ K
 |some d,.call ⟨.builtin .append,⟨[x,y]⟩,⟨[T,T']⟩⟩=>match E9 σ y with
  |some (.str s)=>cond (Nat.blt d n) (WI P E n ops d T T' (E9 σ x) s rest σ K) False
  |_=>cond (Nat.blt d n && Nat.beq T T') (WH P E n ops d T (E9 σ x) (E9 σ y) rest σ K) False
 |some d,.call ⟨.builtin .unsafeSliceData,⟨[x]⟩,ts⟩=>Z7 P E n ops ⟨o.dst,o.op,o.type,o.pos,o.after,none⟩ rest [] σ K
 |some d,.call ⟨.builtin .unsafeString,⟨[x,y]⟩,ts⟩=>Z7 P E n ops ⟨o.dst,o.op,o.type,o.pos,o.after,none⟩ rest [] σ K
 |some d,.call ⟨.value (.func f),⟨args⟩,_⟩=>cond (Nat.blt d n) (match e8 (E9 σ) args with
  |some l=>cond (I1 l) (RR P f (l++[]) fun av=>B0 P E n ops rest (σ.put d av) K) (Z7 P E n ops ⟨o.dst,o.op,o.type,o.pos,o.after,none⟩ rest l σ K)
  |none=>False) False
 |some d,.call ⟨.value (.tmp t),⟨args⟩,ts⟩=>match E9 σ (.tmp t),e8 (E9 σ) args with
  |some (.fo _ caps),some l=>Z7 P E n ops ⟨o.dst,o.op,o.type,o.pos,o.after,none⟩ rest (l++caps) σ K
  |_,_=>cond (Nat.blt d n) (Fp P (.call ⟨.value (.tmp t),⟨args⟩,ts⟩) (E9 σ) σ.hp fun av=>B0 P E n ops rest (σ.put d av) K) False
 |some d,.buildSlice T len ⟨parts⟩=>match BU (E9 σ) parts with
  |some ps=>cond (ps.all fun p=>I8 p.2) (cond (Nat.blt d n) (Fp P (.buildSlice T len ⟨parts⟩) (E9 σ) σ.hp fun av=>B0 P E n ops rest (σ.put d av) K) False) (Z7 P E n ops ⟨o.dst,o.op,o.type,o.pos,o.after,none⟩ rest (ps.map (·.2)) σ K)
  |none=>False
 |some d,.slice T x lo hi none=>match E9 σ x with
  |some (.row i v len)=>Z7 P E n ops ⟨o.dst,o.op,o.type,o.pos,o.after,none⟩ rest [.row i v len] σ K
  |_=>cond (Nat.blt d n) (Fp P (.slice T x lo hi none) (E9 σ) σ.hp fun av=>B0 P E n ops rest (σ.put d av) K) False
 |some d,.makeFunc f ⟨x::xs⟩ ⟨[]⟩=>Z7 P E n ops ⟨o.dst,o.op,o.type,o.pos,o.after,none⟩ rest [] σ K
 |some d,.makeFunc f ⟨[]⟩ ⟨xs⟩=>cond (Nat.blt d n) (match e8 (E9 σ) xs with
  |some l=>cond (I1 l) (Fp P (.makeFunc f ⟨[]⟩ ⟨xs⟩) (E9 σ) σ.hp fun av=>B0 P E n ops rest (σ.put d av) K) (Z7 P E n ops ⟨o.dst,o.op,o.type,o.pos,o.after,none⟩ rest l σ K)
  |none=>False) False
 |some d,op=>cond (Nat.blt d n) (Fp P op (E9 σ) σ.hp fun av=>B0 P E n ops rest (σ.put d av) K) False
 |_,_=>False
theorem SQ{T:Nat}(h:SP P E n ops ⟨none,.store T x y,ty,pos,after,none⟩ T (E9 σ x) (E9 σ y) rest σ K):B0 P E n ops (⟨none,.store T x y,ty,pos,after,none⟩::rest) σ K:=by
 unfold SP at h
 split at h
 ·rename_i hx hy
  split at h
  ·rename_i hb
   obtain⟨⟨ag,sz,tv,h⟩⟩:=h
   obtain⟨hs,h⟩:=cond_false h
   simp only[Bool.and_eq_true,Nat.beq_eq,Nat.ble_eq]at hs
   obtain⟨hf,h⟩:=JE h
   obtain⟨ho,h⟩:=NC h
   exact OY (ag:=ag) (sz:=sz) hx hy hb hf ho hs.1 hs.2 h
  ·exact h.elim
 ·rename_i hx hy
  split at h
  ·rename_i e sz oC l hb
   obtain⟨⟨rfl,pG⟩,h⟩:=h
   obtain⟨⟨ag,szT,tv,h⟩⟩:=h
   obtain⟨hs,h3⟩:=cond_false h
   clear h
   cases ag with
   |true=>cases hs
   |false =>
    have h4:=h3
    clear h3
    cases nl:I8 _ with
    |false =>
     rw[nl]at h4
     exact h4.h
    |true =>
     rw[nl]at h4
     obtain⟨ho,h⟩:=JD h4
     obtain⟨h0,h1,hk⟩:=h
     rename_i k _ _ _
     have nR:k<l.length:=by omega
     have nN:l[k]?=some l[k]:=List.getElem?_eq_getElem nR
     have nj:(Nat.beq szT 1 && w9 e)=true:=hs
     rw[Bool.and_eq_true]at nj
     exact OZ (szT:=szT) hx hy hb nN pG (Nat.eq_of_beq_eq_true nj.1) nl ho (hk _ (by rw[Int.toNat_natCast];exact nN)) nj.2
  ·exact h.elim
 ·exact h.elim
theorem Zx{o:Oper}(hg:o.guard=none)(h:kB P E n ops o rest σ K):B0 P E n ops (o::rest) σ K:=by
 obtain⟨dst,op,ty,pos,after,guard⟩:=o
 simp only at hg
 subst hg
 have quiet:∀{d:Nat} {op:Op},Nat.blt d n=true→Fp P op (E9 σ) σ.hp (fun av=>B0 P E n ops rest (σ.put d av) K)→B0 P E n ops (⟨some d,op,ty,pos,after,none⟩::rest) σ K:=by
  intro d op hd h
  obtain⟨av,hq,h⟩:=fq (E:=E) (nx:=σ.nx) (ty:=ty) h
  exact Ip hq hd h
 unfold kB at h
 simp only at h
 split at h
 ·rename_i ho
  obtain⟨hd,h⟩:=cond_false h
  obtain⟨av,hx,h⟩:=I2 h
  obtain⟨hf,h⟩:=JE h
  exact cX hx hf hd (D8 h)
 ·obtain⟨hd,h⟩:=cond_false h
  obtain⟨⟨l,tz,h⟩⟩:=h
  exact XZ (l:=l) hd (D8 h)
 ·exact SQ h
 ·obtain⟨hd,h⟩:=cond_false h
  unfold fu at h
  split at h
  ·rename_i hx hy
   obtain⟨⟨e,sz,bs,z,ts,tz,tb,hz,h⟩⟩:=h
   obtain⟨qR,hq⟩:=cond_false h
   clear h
   obtain⟨⟨rfl,h0,h1,h2⟩,hq⟩:=hq
   exact Zo (e:=e) (z:=z) (by_:=bs) hx hy h0 h1 h2 hz (Nat.blt_eq▸qR) hd (D8 hq)
  ·exact h.elim
 ·obtain⟨hd,h⟩:=cond_false h
  exact SA hd (D8 h)
 ·unfold Zw at h
  split at h
  ·rename_i hx hy hz
   split at h
   ·rename_i hb hk
    obtain⟨⟨k,e,t,z,tm,h⟩⟩:=h
    obtain⟨hc,h⟩:=cond_false h
    simp only[Bool.and_eq_true]at hc
    exact Oa (T:=_) hx hb hy hk hc.1 h.h hz hc.2 h.k
   ·exact h.elim
  ·exact h.elim
 ·split at h
  ·rename_i yZ
   obtain⟨hd,h3⟩:=cond_false h
   clear h
   unfold WI at h3
   split at h3
   ·rename_i hx
    split at h3
    ·rename_i hb
     obtain⟨rfl,h⟩:=h3
     obtain⟨⟨e,sz,bs,z,ts,tz,tb,hz,h⟩⟩:=h
     obtain⟨tu,h⟩:=h
     obtain⟨hc,h5⟩:=cond_false h
     clear h
     simp only[Bool.and_eq_true,Nat.beq_eq,Nat.blt_eq]at hc
     obtain⟨⟨⟨⟨rfl,rfl⟩,rfl⟩,rfl⟩,oK⟩:=hc
     obtain⟨⟨nO,h⟩⟩:=h5
     exact Mr hx hb yZ oK nO hd h
    ·exact h3.elim
   ·rename_i hx
    obtain⟨⟨e,sz,bs,z,ts,tz,tb,hz,h⟩⟩:=h3
    obtain⟨tu,h⟩:=h
    obtain⟨hc,h5⟩:=cond_false h
    clear h
    simp only[Bool.and_eq_true,Nat.beq_eq,Nat.blt_eq]at hc
    obtain⟨⟨rfl,rfl⟩,oK⟩:=hc
    obtain⟨⟨nO,h⟩⟩:=h5
    exact Iw hx yZ oK nO hd (D8 h)
   ·exact h3.elim
  rename_i yZ
  clear yZ
  obtain⟨hd,h3⟩:=cond_false h
  clear h
  have h:=h3
  clear h3
  simp only[Bool.and_eq_true,Nat.beq_eq]at hd
  obtain⟨hd,rfl⟩:=hd
  unfold WH at h
  split at h
  ·rename_i hx hy
   split at h
   ·rename_i hb
    obtain⟨rfl,h⟩:=h
    obtain⟨⟨e,sz,bs,z,ts,tz,tb,hz,h⟩⟩:=h
    obtain⟨hc,h3⟩:=cond_false h
    clear h
    simp only[Bool.and_eq_true,Nat.beq_eq,Nat.blt_eq]at hc
    obtain⟨⟨⟨⟨rfl,rfl⟩,rfl⟩,nq⟩,oK⟩:=hc
    obtain⟨oO,h⟩:=h3
    obtain⟨nO,h⟩:=h
    exact Ms (z:=z) (by_:=bs) hx hb hy oO hz nq oK nO.1 nO.2 hd h
   ·exact h.elim
  ·rename_i hx hy
   split at h
   ·rename_i hb nt
    obtain⟨⟨rfl,rfl⟩,h⟩:=h
    obtain⟨⟨e,sz,bs,z,ts,tz,tb,hz,h⟩⟩:=h
    obtain⟨hc,h3⟩:=cond_false h
    clear h
    simp only[Bool.and_eq_true,Nat.beq_eq,Nat.blt_eq]at hc
    obtain⟨⟨⟨⟨rfl,rfl⟩,rfl⟩,nq⟩,oK⟩:=hc
    obtain⟨oO,h⟩:=h3
    obtain⟨nO,h⟩:=h
    exact Lq (z:=z) (by_:=bs) hx hb hy nt oO hz nq oK nO.1 nO.2 hd h
   ·exact h.elim
  ·rename_i hx hy
   obtain⟨⟨e,sz,bs,z,ts,tz,tb,hz,h⟩⟩:=h
   obtain⟨hc,h3⟩:=cond_false h
   clear h
   simp only[Bool.and_eq_true,Nat.beq_eq,Nat.blt_eq]at hc
   obtain⟨⟨rfl,nq⟩,oK⟩:=hc
   obtain⟨oO,h⟩:=h3
   obtain⟨nO,h⟩:=h
   exact Mt (z:=z) (by_:=bs) hx hy oO hz nq oK nO.1 nO.2 hd (D8 h)
  ·exact h.elim
 ·exact h.h
 ·exact h.h
 ·obtain⟨hd,h⟩:=cond_false h
  split at h
  ·rename_i l hl
   cases hc:I1 l with
   |true =>
    rw[hc]at h
    obtain⟨⟨r,hr,h⟩⟩:=h
    rw[List.append_nil]at hr
    exact Ip (OU hr hl hc) hd h
   |false =>
    rw[hc]at h
    exact h.h
  ·exact h.elim
 ·split at h
  ·exact h.h
  ·obtain⟨hd,h⟩:=cond_false h
   exact quiet hd h
 ·split at h
  ·rename_i ps sG
   cases hc:ps.all fun p=>I8 p.2 with
   |true =>
    rw[hc]at h
    obtain⟨hd,h⟩:=cond_false h
    exact quiet hd h
   |false =>
    rw[hc]at h
    exact h.h
  ·exact h.elim
 ·split at h
  ·exact h.h
  ·obtain⟨hd,h⟩:=cond_false h
   exact quiet hd h
 ·exact h.h
 ·obtain⟨hd,h⟩:=cond_false h
  split at h
  ·rename_i l hl
   cases hc:I1 l with
   |true =>
    rw[hc]at h
    exact quiet hd h
   |false =>
    rw[hc]at h
    exact h.h
  ·exact h.elim
 ·obtain⟨hd,h⟩:=cond_false h
  exact quiet hd h
 ·exact h.elim
structure O0(b g:Bool)(A B:Prop):Prop where
 t:b=g→A
 f:b=(!g)→B
theorem cu{A B:Prop}(k:A):O0 true true A B:=⟨fun _=>k,fun h=>by cases h⟩
theorem cw{A B:Prop}(k:A):O0 false false A B:=⟨fun _=>k,fun h=>by cases h⟩
theorem cy{A B:Prop}(k:B):O0 true false A B:=⟨(fun h=>by cases h),fun _=>k⟩
theorem cz{A B:Prop}(k:B):O0 false true A B:=⟨(fun h=>by cases h),fun _=>k⟩
theorem dA{p A B:Prop}[Decidable p](h1:p→A)(h2:¬p→B):O0 (decide p) true A B:=⟨fun h=>h1 (of_decide_eq_true h),fun h=>h2 (of_decide_eq_false h)⟩
theorem dB{p A B:Prop}[Decidable p](h1:¬p→A)(h2:p→B):O0 (decide p) false A B:=⟨fun h=>h1 (of_decide_eq_false h),fun h=>h2 (of_decide_eq_true h)⟩
theorem dC{b:Bool}{A B:Prop}(h1:b=true→A)(h2:b=false→B):O0 b true A B:=⟨h1,h2⟩
theorem dD{b:Bool}{A B:Prop}(h1:b=false→A)(h2:b=true→B):O0 b false A B:=⟨h1,h2⟩
theorem Zy{p A B:Prop}[Decidable p](h1:¬p→A)(h2:p→B):O0 (!decide p) true A B:=⟨fun h=>h1 (by simpa using h),fun h=>h2 (by simpa using h)⟩
theorem Zz{p A B:Prop}[Decidable p](h1:p→A)(h2:¬p→B):O0 (!decide p) false A B:=⟨fun h=>h1 (by simpa using h),fun h=>h2 (by simpa using h)⟩
theorem aA{b:Bool}{A B:Prop}(h1:b=false→A)(h2:b=true→B):O0 (!b) true A B:=⟨fun h=>h1 (by simpa using h),fun h=>h2 (by simpa using h)⟩
theorem aB{b:Bool}{A B:Prop}(h1:b=true→A)(h2:b=false→B):O0 (!b) false A B:=⟨fun h=>h1 (by simpa using h),fun h=>h2 (by simpa using h)⟩
def kC(P:Program)(E:Env)(n:Nat)(ops:Array Oper)(l:List Oper)(σ:St)(K:St→Prop):Prop :=
 match l with
 |[]=>K σ
 |⟨dst,op,ty,pos,after,none⟩::rest=>kB P E n ops ⟨dst,op,ty,pos,after,none⟩ rest σ K
 |⟨some dd,op,ty,pos,after,some (j,g)⟩::rest=>match (ops[j]?).bind (·.dst)with
  |some dj=>cond (Nat.blt dd n) (match look σ.sl dj with
   |some (.v (.bool b))=>O0 b g (B0 P E n ops (⟨some dd,op,ty,pos,after,none⟩::rest) (σ.put dj (.v (.bool g))) K)
     (B0 P E n ops rest ((σ.put dj (.v (.bool !g))).put dd (.v undef)) K)
   |some (.v (.tuple t))=>B0 P E n ops rest (σ.put dd (.v undef)) K
   |_=>False) False
  |none=>False
 |⟨none,_,_,_,_,some _⟩::_=>False
theorem DX{l:List Oper}(h:kC P E n ops l σ K):B0 P E n ops l σ K:=by
 unfold kC at h
 split at h
 ·exact cO h
 ·exact Zx rfl h
 ·split at h
  ·rename_i dj hj
   obtain⟨qS,h⟩:=cond_false h
   split at h
   ·rename_i b hb
    exact Rj hj hb qS h.t h.f
   ·rename_i t hb
    exact IX hj hb rfl qS h
   ·exact h.elim
  ·exact h.elim
 ·exact h.elim
structure NJ(P:Program)(E:Env)(n:Nat)(c:Code)(σ:St)(Q:Exit→St→Prop):Prop where
 h:D0 P E n (.loop c) σ Q
structure Ch(P:Program)(E:Env)(n:Nat)(id:Nat)(ops:Array Oper)(σ:St)(Q:Exit→St→Prop):Prop where
 h:D0 P E n (.region id ops true) σ Q
def Xk(P:Program)(E:Env)(n:Nat)(c:Code)(σ:St)(Q:Exit→St→Prop):Prop :=
 match c with
 |.seq a b=>D0 P E n a σ (RL (fun σ'=>D0 P E n b σ' Q) Q)
 |.region _ ops false=>B0 P E n ops ops.toList σ (fun σ'=>Q .normal σ')
 |.region id ops true=>Ch P E n id ops σ Q
 |.skip=>Q .normal σ
 |.ret=>Q .ret σ
 |.exit i=>Q (.exit i) σ
 |.block id c=>D0 P E n c σ (Md id Q)
 |.cond (.tmp t) a b=>match look σ.sl t with
  |some (.v (.bool c))=>Bh c (D0 P E n a (σ.put t (.v (.bool true))) Q) (D0 P E n b (σ.put t (.v (.bool false))) Q)
  |_=>False
 |.cond (.const (.bool true)) a b=>D0 P E n a σ Q
 |.cond (.const (.bool false)) a b=>D0 P E n b σ Q
 |.loop c=>NJ P E n c σ Q
 |_=>False
theorem aC{c:Code}(h:Xk P E n c σ Q):D0 P E n c σ Q:=by
 unfold Xk at h
 split at h
 ·exact gM h
 ·exact XQ rfl h
 ·exact h.h
 ·exact cP h
 ·exact gN h
 ·exact cQ h
 ·exact ZX h
 ·split at h
  ·rename_i hc;exact XT hc h.t h.f
  ·exact h.elim
 ·exact XR rfl h
 ·exact XS rfl h
 ·exact h.h
 ·exact h.elim
theorem B2{ι:Type}{c:Code}(S:ι→St)(I:ι→Prop)(m:ι→Nat)(x0:ι)(hI:I x0)(h0:St.le E n σ (S x0))
  (h:∀x,I x→D0 P E n c (S x) (RL (fun σ'=>∃y,I y∧m y<m x∧St.le E n σ' (S y)) Q)):NJ P E n c σ Q:=⟨cR S I m x0 hI h0 h⟩
end rules
end Go.Av
