/- Maps, tuples, closures, parts of strings and of rows. States that say less; freezing; what a function does. One rule for every operation: what is left to prove is reckoned by unfolding. The walk: operations that make or write memory, code, and what a function does. -/
import Derived.Test.YtiphlhoclaogjaaGreatDoorJE1
set_option linter.unusedSimpArgs false
set_option linter.unusedVariables false
set_option linter.unnecessarySimpa false
set_option maxHeartbeats 64000000
namespace Go.Av
open Go Go.RowKit
class FB(P:Program)(T:Nat)(k e:outParam Nat)(t:outParam TypeDesc)(z:outParam Value):Prop where
 out:P.underlying T=some (.map k e)∧P.underlying k=some t∧(P.info? e).bind (·.zero)=some z
section rules
variable {P:Program} {E:Env} {n nx:Nat} {hp:Hp} {ev:Operand→Option AV} {ops:Array Oper} {rest:List Oper} {σ:St} {K:St→Prop} {Q:Exit→St→Prop}
variable {d:Nat} {ty:TypeId} {pos:String} {after:Array Edge} {x y z:Operand}
def AD(t:TypeDesc)(m:List (Key×AV)):Prop:=∀p∈m,EP t p.1=true
theorem AY.map{θ:Th}{a:Act}{w:World}(h:AY E θ nx hp ev a w){i:Nat}{m:List (Key×AV)}(hb:A5 hp i=some (.map m)):
  ∃r es clock,θ i=.map (some r)∧w.heap[r]?=some (.map es clock)∧es.size=m.length ∧
   ∀(j:Nat) (q:Key×AV) e,m[j]?=some q→es[j]?=some e→e.key=q.1.val∧Im (kx E θ nx hp w).U w q.2 e.val:=(h.owns i _ hb).2
theorem run_findKey{kt:TypeId}{t:TypeDesc}{k:Key}(ht:P.underlying kt=some t){es:List MapEntry}{q:Option (Nat×Value)}(hq:Instr.findNow t k.val es 0=some q)(w:World):(Instr.findKey kt k.val es).run P w=.ok q w:=by
 simp[Instr.findKey,Sem.run_bind,run_underlying ht,hq,Sem.run_pure]
def Ae(m:List (Key×AV))(k:Key)(d:AV):AV:=match w5 m k with
 |some v=>v
 |none=>d
theorem NZ{T kt e:Nat}{t:TypeDesc}{zv:Value}[tm:FB P T kt e t zv]{θ:Th}{a:Act}{w:World}(h:AY E θ nx hp ev a w){i:Nat}{m:List (Key×AV)}{sI:AV}{k:Key}(hx:ev x=some (.mp i))(hb:A5 hp i=some (.map m))(hy:ev y=some sI)(hk:keyOf sI=some k)(oS:EP t k=true)(hm:AD t m)(ok:Bool):
  ∃v,(Instr.lookup T (a.eval x) (a.eval y) ok).run P w=.ok (if ok then .tuple #[v,.bool (w5 m k).isSome]else v) w∧E0 (kx E θ nx hp w) (Ae m k (l5 zv)) v:=by
 obtain⟨hu,ht,hz⟩:=tm.out
 obtain⟨r,es,clock,hθ,hr,hsz,vE⟩:=h.map hb
 obtain⟨hv,nt⟩:=aB (h.rel hx)
 have ob:a.eval x=.map (some r):=by rw[hv];exact hθ
 have vU:=QO hk (h.rel hy)
 have pi:=FA oS
 obtain⟨q,hq,pj⟩:=findNow_spec (t:=t) pi m es.toList 0 (by simpa using hsz) (fun p hp=>FA (hm p hp)) (fun j p e hj he=>(vE j p e hj (by simpa using he)).1)
 have oZ:=cj (m:=m) (k:=k)
 simp only[Instr.lookup,Sem.run_bind,run_underlying hu,Result.andThen_ok,ob,vU,MapKept.run_getObj_map hr,Sem.run_pure,Ci ht pi,run_findKey ht hq]
 cases hf:m.findIdx? (fun p=>decide (p.1=k))with
 |none =>
  rw[hf]at pj oZ
  subst pj
  simp only at oZ
  cases hi:P.info? e with
  |none=>rw[hi]at hz;simp at hz
  |some inf =>
   rw[hi]at hz
   simp only[Sem.run_bind,p7 hi (by simpa using hz),Result.andThen_ok,Sem.run_pure,oZ]
   refine⟨zv,by cases ok<;>rfl,?_⟩
   simp only[Ae,oZ]
   exact .im (JO zv)
 |some j =>
  rw[hf]at pj oZ
  obtain⟨e,he,rfl⟩:=pj
  obtain⟨p,hp1,hp2,hp3⟩:=oZ
  simp only[Sem.run_pure,Result.andThen_ok,hp3]
  refine⟨e.val,by cases ok<;>rfl,?_⟩
  simp only[Ae,hp3]
  exact .im (vE j p e hp1 (by simpa using he)).2
theorem ck{T kt e:Nat}{t:TypeDesc}{zv:Value}[tm:FB P T kt e t zv]{i:Nat}{m:List (Key×AV)}{sI:AV}{k:Key}(hx:ev x=some (.mp i))(hb:A5 hp i=some (.map m))(hy:ev y=some sI)(hk:keyOf sI=some k)(oS:EP t k=true)(hm:AD t m):
  G8 P E nx hp ev (.lookup T x y false) ty (Ae m k (l5 zv)) :=
 E5 fun _ _ _ θ a w h=>by
  obtain⟨v,h1,h2⟩:=NZ (P:=P) (T:=T) h hx hb hy hk oS hm false
  exact⟨v,by simp only[execOp,Sem.run_bind,h1,Result.andThen_ok,Sem.run_pure];rfl,h2⟩
theorem VW{T kt e:Nat}{t:TypeDesc}{zv:Value}[tm:FB P T kt e t zv]{i:Nat}{m:List (Key×AV)}{sI:AV}{k:Key}(hx:ev x=some (.mp i))(hb:A5 hp i=some (.map m))(hy:ev y=some sI)(hk:keyOf sI=some k)(oS:EP t k=true)(hm:AD t m):
  G8 P E nx hp ev (.lookup T x y true) ty (.tup [Ae m k (l5 zv),.b (w5 m k).isSome]) :=
 E5 fun _ _ _ θ a w h=>by
  obtain⟨v,h1,h2⟩:=NZ (P:=P) (T:=T) h hx hb hy hk oS hm true
  refine⟨.tuple #[v,.bool (w5 m k).isSome],by simp only[execOp,Sem.run_bind,h1,Result.andThen_ok,Sem.run_pure];rfl,?_⟩
  exact .tup [_,_] [v,.bool (w5 m k).isSome] rfl fun j u z hu hz=>by
   match j,hu,hz with
   |0,hu,hz=>cases hu;cases hz;exact h2
   |1,hu,hz=>cases hu;cases hz;exact .im (.v _)
theorem Sm(k:Key)(m:Nat):Instr.sameBits m k.val k.val=true:=by
 cases k with
 |s l =>
  simp only[Key.val,Instr.sameBits]
  show (l.toArray == l.toArray)=true
  simp
 |i k n=>simp[Key.val,Instr.sameBits]
theorem QP{k:Key}{v:AV}:∀(m:List (Key×AV)),(match m.findIdx? (fun p=>decide (p.1=k))with
   |none=>j4 m k v=m++[(k,v)]
   |some j=>j4 m k v=m.set j (k,v))
 |[]=>rfl
 |(k',v')::r=>by
  rw[List.findIdx?_cons]
  by_cases e:k'=k
  ·simp only[e,decide_true,if_true]
   simp[j4]
  ·simp only[e,decide_false]
   have ih:=QP (k:=k) (v:=v) r
   cases hf:r.findIdx? (fun p=>decide (p.1=k))with
   |none=>rw[hf]at ih;simp[j4,e];exact ih
   |some j=>rw[hf]at ih;simp[j4,e];exact ih
theorem PL{T kt e:Nat}{t:TypeDesc}{zv:Value}[tm:FB P T kt e t zv]{i:Nat}{m:List (Key×AV)}{sI av:AV}{k:Key}(hx:F4 σ x=some (.mp i))(hb:A5 σ.hp i=some (.map m))(hy:F4 σ y=some sI)(hk:keyOf sI=some k)(oS:EP t k=true)(hm:AD t m)(hz:F4 σ z=some av)(ni:J1 av=true)
  (kk:B3 P E n ops rest (σ.set i (.map (j4 m k av))) K):B3 P E n ops (⟨none,.mapUpdate T x y z,ty,pos,after,none⟩::rest) σ K :=
 JV hb (fun θ a w h=>by
  obtain⟨hu,ht,_⟩:=tm.out
  obtain⟨r,es,clock,hθ,hr,hsz,vE⟩:=h.map hb
  obtain⟨hv,nt⟩:=aB (h.rel hx)
  have ob:a.eval x=.map (some r):=by rw[hv];exact hθ
  have vU:=QO hk (h.rel hy)
  have pi:=FA oS
  obtain⟨q,hq,pj⟩:=findNow_spec (t:=t) pi m es.toList 0 (by simpa using hsz) (fun p hp=>FA (hm p hp)) (fun j p e hj he=>(vE j p e hj (by simpa using he)).1)
  have oU:=QP (k:=k) (v:=av) m
  have nN:r<w.heap.size:=(Array.getElem?_eq_some_iff.1 hr).1
  have ng:∃wY rI,(Instr.mapUpdate T (a.eval x) (a.eval y) (a.eval z)).run P w=.ok () { w with heap:=w.heap.setIfInBounds r (.map wY rI) }∧wY.size=(j4 m k av).length ∧
    ∀(j:Nat) (q:Key×AV) e,(j4 m k av)[j]?=some q→wY[j]?=some e→e.key=q.1.val∧Im (kx E θ σ.nx σ.hp w).U w q.2 e.val:=by
   have wz:=(T1 ni).im (h.rel hz)
   cases hf:m.findIdx? (fun p=>decide (p.1=k))with
   |none =>
    rw[hf]at pj oU
    subst pj
    refine⟨es.push { key:=k.val,val:=a.eval z,born:=clock },clock+1,?_,by simp only[oU];simp[hsz],fun j q e hj he=>?_⟩
    ·simp only[Instr.mapUpdate,Sem.run_bind,run_underlying hu,Result.andThen_ok,ob,vU,MapKept.run_getObj_map hr,Sem.run_pure,Ci ht pi,run_findKey ht hq,MapKept.run_setObj_map _ hr]
    ·simp only[oU]at hj
     rw[Array.getElem?_push]at he
     rw[List.getElem?_append]at hj
     split at hj
     ·rename_i qT
      rw[if_neg (by omega)]at he
      exact vE j q e hj he
     ·rename_i qN
      have:j=m.length:=by
       rcases Nat.lt_or_ge m.length j with h1|h1
       ·rw[List.getElem?_eq_none (by simp;omega)]at hj;cases hj
       ·omega
      subst this
      rw[if_pos (by omega)]at he
      cases he
      simp at hj
      subst hj
      exact⟨rfl,wz⟩
   |some j0 =>
    rw[hf]at pj oU
    obtain⟨e0,xg,rfl⟩:=pj
    have po:j0<m.length:=by
     have:=(List.getElem?_eq_some_iff.1 xg).1
     simp at this
     omega
    have hmj:m[j0]?=some m[j0]:=List.getElem?_eq_getElem po
    have wM:m[j0].1=k:=by
     have:=List.findIdx?_eq_some_iff_getElem.1 hf
     exact of_decide_eq_true this.2.1
    have qg:e0.key=k.val:=by rw[(vE j0 _ e0 hmj (by simpa using xg)).1,wM]
    refine⟨es.modify j0 fun e=>{ e with key:=k.val,val:=a.eval z },clock,?_,by simp only[oU];simp[hsz],fun j q e hj he=>?_⟩
    ·have zN:es[j0]?=some e0:=by simpa using xg
     simp only[Instr.mapUpdate,Sem.run_bind,run_underlying hu,Result.andThen_ok,ob,vU,MapKept.run_getObj_map hr,Sem.run_pure,Ci ht pi,run_findKey ht hq,Nat.zero_add,zN,Option.map_some,Option.getD_some,Instr.keyThatStays,qg,Sm,if_true,MapKept.run_setObj_map _ hr]
    ·simp only[oU]at hj
     rw[Array.getElem?_modify]at he
     rw[List.getElem?_set]at hj
     by_cases ej:j0=j
     ·subst ej
      rw[if_pos rfl]at he hj
      rw[if_pos po]at hj
      cases hj
      cases hh:es[j0]? with
      |none=>rw[hh]at he;simp at he
      |some e1=>rw[hh]at he;simp at he;subst he;exact⟨rfl,wz⟩
     ·rw[if_neg ej]at he hj
      exact vE j q e hj he
  obtain⟨wY,rI,nz,AC8,xG⟩:=ng
  refine⟨{ w with heap:=w.heap.setIfInBounds r (.map wY rI) },by simp only[execOp,Sem.run_bind,nz,Result.andThen_ok,Sem.run_pure],rfl,rfl,rfl,by simp,fun k hk=>?_,rfl,fun le=>?_⟩
  ·have:k≠r:=by intro e;subst e;exact hk (by rw[hθ];rfl)
   simp[Array.getElem?_setIfInBounds_ne (Ne.symm this)]
  ·refine⟨r,wY,rI,by simp[cx,F0,hθ],by simp[cx,nN],AC8,fun j q e hj he=>⟨(xG j q e hj he).1,((xG j q e hj he).2.mono le.heap le.U)⟩⟩) kk
theorem QQ{l:List AV}{av:AV}{k:Nat}(hx:ev x=some (.tup l))(hk:l[k]?=some av):G8 P E nx hp ev (.extract x k) ty av :=
 E5 fun _ _ _ θ a w h=>by
  have:∃cs:List Value,a.eval x=.tuple cs.toArray∧l.length=cs.length∧∀(j:Nat) u z,l[j]?=some u→cs[j]?=some z→E0 (kx E θ nx hp w) u z:=by
   have r:=h.rel hx
   generalize a.eval x=v at r
   cases r with
   |im hi=>cases hi with|tup l cs hl hc=>exact⟨cs,rfl,hl,fun j u z hu hz=>.im (hc j u z hu hz)⟩
   |tup l cs hl hc=>exact⟨cs,rfl,hl,hc⟩
  obtain⟨cs,hv,hl,hr⟩:=this
  have nN:k<cs.length:=by rw[←hl];exact(List.getElem?_eq_some_iff.1 hk).1
  have hc:cs[k]?=some cs[k]:=List.getElem?_eq_getElem nN
  refine⟨cs[k],?_,hr k av _ hk hc⟩
  simp only[execOp,hv,Instr.extract]
  simp[hc,Sem.run_bind,Sem.run_pure]
theorem Sn{f:Nat}{xs:List Operand}{caps:List AV}(ha:r9 ev xs=some caps)(hf:f<Hn):G8 P E nx hp ev (.makeFunc (.func f) #[] xs.toArray) ty (.fo f caps) :=
 E5 fun _ _ _ θ a w h=>by
  obtain⟨hl,hr⟩:=Cg h xs caps ha
  exact⟨.func (.func f) #[] (xs.map a.eval).toArray,by simp[execOp,Instr.makeFunc,Sem.run_bind,Sem.run_pure],by
   have:=E0.fo (c:=kx E θ nx hp w) f caps (xs.map a.eval) (by simp[hl]) fun j u z hu hz=>hr j u z hu hz
   unfold SO at this
   rwa[if_pos hf]at this⟩
theorem Xm{f:Nat}{xs:List Operand}{caps:List AV}(ha:r9 ev xs=some caps)(ni:I8 caps=true):G8 P E nx hp ev (.makeFunc (.func f) #[] xs.toArray) ty (.fn f caps) :=
 E5 fun _ _ _ θ a w h=>by
  obtain⟨hl,hr⟩:=Cg h xs caps ha
  refine⟨.func (.func f) #[] (xs.map a.eval).toArray,by simp[execOp,Instr.makeFunc,Sem.run_bind,Sem.run_pure],.im (.fn f caps _ (by simp[hl]) fun j u z hu hz=>?_)⟩
  exact(U4 ni u (List.mem_of_getElem? hu)).im (hr j u z hu hz)
theorem VY(l:List UInt8)(i j:Nat):((⟨l.toArray⟩:ByteArray).extract i j)=⟨((l.take j).drop i).toArray⟩:=by
 apply ByteArray.ext
 simp[ByteArray.data_extract]
 rw[List.drop_take]
def BP(ev:Operand→Option AV)(zd:Nat):Option Operand→Option Int
 |none=>some zd
 |some x=>match ev x with
  |some (.v (.int _ i))=>some i
  |_=>none
theorem GQ{k:IntKind}{i:Int}{m:Nat}(h0:0≤i)(h1:i≤m)(c:BoundsCode)(w:World):(Instr.sliceBound (.int k i) m c).run P w=.ok i.toNat w:=by
 simp[Instr.sliceBound,asIntOf,Sem.run_bind,Sem.run_pure,h0,h1]
theorem DP{isS:Bool}{len cap:Nat}{lo hi:Option Operand}{l h:Int}{θ:Th}{a:Act}{w:World}(pm:AY E θ nx hp ev a w)(hl:BP ev 0 lo=some l)(hh:BP ev len hi=some h)(h0:0≤l)(h1:l≤h)(h2:h≤cap):
  (Instr.sliceBounds isS len cap (lo.map a.eval) (hi.map a.eval) none).run P w=.ok (l.toNat,h.toNat,cap) w:=by
 have hb:∀(o:Option Operand) (df:Nat) (i:Int),BP ev df o=some i→(o=none∧i=df)∨∃y k,o=some y∧a.eval y=.int k i:=by
  intro o df i ho
  cases o with
  |none=>exact .inl ⟨rfl,by simp[BP]at ho;exact ho.symm⟩
  |some y =>
   simp only[BP]at ho
   split at ho
   ·rename_i k j hj
    cases ho
    exact .inr ⟨y,k,rfl,(pm.rel hj).val⟩
   ·cases ho
 have h3:0≤h:=by omega
 rcases hb lo 0 l hl with ⟨rfl,rfl⟩|⟨yl,kl,rfl,hyl⟩<;>rcases hb hi len h hh with ⟨rfl,rfl⟩|⟨yh,kh,rfl,hyh⟩
 ·simp[Instr.sliceBounds,Sem.run_bind,Sem.run_pure]
 ·simp only[Instr.sliceBounds,Option.map_none,Option.map_some,Sem.run_bind,Sem.run_pure,Result.andThen_ok,hyh,GQ h3 h2]
  rfl
 ·simp only[Instr.sliceBounds,Option.map_none,Option.map_some,Sem.run_bind,Sem.run_pure,Result.andThen_ok,hyl,GQ h0 h1]
  rfl
 ·have h4:l≤(h.toNat:Int):=by omega
  simp only[Instr.sliceBounds,Option.map_some,Sem.run_bind,Sem.run_pure,Result.andThen_ok,hyl,hyh,GQ h3 h2,GQ h0 h4]
theorem LY{T:Nat}[ts:o4 P T]{s:List UInt8}{lo hi:Option Operand}{l h:Int}(hx:ev x=some (.str s))(hl:BP ev 0 lo=some l)(hh:BP ev s.length hi=some h)(h0:0≤l)(h1:l≤h)(h2:h≤s.length):
  G8 P E nx hp ev (.slice T x lo hi none) ty (.str ((s.take h.toNat).drop l.toNat)) :=
 E5 fun _ _ _ θ a w hs=>by
  have hv:=(hs.rel hx).sval
  refine⟨.string ⟨((s.take h.toNat).drop l.toNat).toArray⟩,?_,.im (.str _)⟩
  have hb:=DP (P:=P) (isS:=false) (cap:=s.length) hs hl hh h0 h1 h2
  have hsz:(ByteArray.mk s.toArray).size=s.length:=rfl
  simp only[execOp,hv,Instr.sliceAt,Instr.slice,Sem.run_bind,run_underlying ts.out,Result.andThen_ok,Option.isSome_none,Option.map_none,hsz,Bool.false_eq_true,if_false,hb,VY,Sem.run_pure]
theorem Xn{T e sz:Nat}[ts:L5 P T e sz]{s:List (List AV)}{lo hi:Option Operand}{l h:Int}(hx:ev x=some (.sl sz s))(hl:BP ev 0 lo=some l)(hh:BP ev s.length hi=some h)(h0:0≤l)(h1:l≤h)(h2:h≤s.length):
  G8 P E nx hp ev (.slice T x lo hi none) ty (.sl sz ((s.take h.toNat).drop l.toNat)) :=
 E5 fun _ _ _ θ a w hs=>by
  obtain⟨hu,inf,oI,hsz⟩:=ts.out
  have nM:((s.take h.toNat).drop l.toNat).length=h.toNat-l.toNat:=by rw[List.length_drop,List.length_take];omega
  rcases Fj (hs.rel hx)with ⟨hv,e⟩|⟨p,cap,f,hv,h3,h4,h5,h6,h7,h8⟩
  ·subst e
   have hb:=DP (P:=P) (isS:=true) (cap:=0) hs hl hh h0 h1 (by simpa using h2)
   have e1:h=0:=by simp at h2;omega
   have e2:l=0:=by omega
   subst e1;subst e2
   refine⟨.slice none 0 0,?_,.im (.slnil sz)⟩
   simp only[List.length_nil]at hb
   simp only[execOp,hv,Instr.sliceAt,Instr.slice,Sem.run_bind,run_underlying hu,Result.andThen_ok,Option.map_none,hb,Sem.run_pure,sizeOf,typeInfo,program,Sem.run,oI]
   rfl
  ·have hb:=DP (P:=P) (isS:=true) (cap:=cap) hs hl hh h0 h1 (by omega)
   refine⟨.slice (some (if cap=l.toNat then p else p.add (l.toNat*sz))) (h.toNat-l.toNat) (cap-l.toNat),?_,?_⟩
   ·simp only[execOp,hv,Instr.sliceAt,Instr.slice,Sem.run_bind,run_underlying hu,Result.andThen_ok,Option.map_none,hb,Sem.run_pure,sizeOf,typeInfo,program,Sem.run,oI,hsz]
    split<;>rfl
   ·rw[←nM]
    have pI:∀(i:Nat) el,((s.take h.toNat).drop l.toNat)[i]?=some el→s[l.toNat+i]?=some el∧l.toNat+i<s.length∧l.toNat≠cap:=by
     intro i el hi
     rw[List.getElem?_drop,List.getElem?_take]at hi
     split at hi
     ·have:=(List.getElem?_eq_some_iff.1 hi).1
      exact⟨hi,this,by omega⟩
     ·cases hi
    refine .im (.sl sz _ _ _ (fun i j=>f (l.toNat+i) j) (by rw[nM];omega) (by omega) (fun hne qy=>?_) (fun el nJ=>?_) (fun i hi j hj=>?_) (fun i el hi j u hu=>?_))
    ·have:s≠[]:=by intro e;subst e;simp at hne
     split
     ·exact h5 this qy
     ·rw[r8];exact h5 this qy
    ·exact h6 el (List.mem_of_mem_take (List.mem_of_mem_drop nJ))
    ·have hg:=pI i _ (List.getElem?_eq_getElem hi)
     rw[if_neg (fun e=>hg.2.2 e.symm),Dw]
     have:=h7 (l.toNat+i) hg.2.1 j hj
     rw[Nat.add_mul,Nat.add_assoc]at this
     exact this
    ·have hg:=pI i _ hi
     exact h8 _ _ hg.1 j u hu
end rules
def Kj(h h':Hp)(i v len:Nat):AV :=
 match A5 h i with
 |some (.row _ sz v1 l)=>cond (Nat.beq v v1) (match A5 h' i with
  |some (.row _ _ v2 _)=>.row i v2 len
  |_=>.sl sz l) .any
 |_=>.any
def Kk(h h':Hp)(i v k off:Nat):AV :=
 match A5 h i with
 |some (.row _ sz v1 l)=>cond (Nat.beq v v1) (match A5 h' i with
  |some (.row _ _ v2 _)=>.elt i v2 k off
  |_=>match l[k]? with
   |some el=>.iptr (el.drop off)
   |none=>.any) .any
 |_=>.any
def Kl(h h':Hp)(i v lo len:Nat):AV :=
 match A5 h i with
 |some (.row _ sz v1 l)=>cond (Nat.beq v v1) (match A5 h' i with
  |some (.row _ _ v2 _)=>.sub i v2 lo len
  |_=>.sl sz ((l.take (lo+len)).drop lo)) .any
 |_=>.any
def Na(h h':Hp)(i off:Nat):AV :=
 match A5 h i with
 |some (.bx _ l)=>match A5 h' i with
  |some _=>.ref i off
  |none=>cond (I8 l) (.iptr (l.drop off)) (.ref i off)
 |_=>.ref i off
mutual
def I9(h h':Hp):AV→AV
 |.row i v len=>Kj h h' i v len
 |.elt i v k off=>Kk h h' i v k off
 |.sub i v lo len=>Kl h h' i v lo len
 |.ref i off=>Na h h' i off
 |.agg l=>.agg (Cy h h' l)
 |.tup l=>.tup (Cy h h' l)
 |.fo f l=>.fo f (Cy h h' l)
 |x=>x
def Cy(h h':Hp):List AV→List AV
 |[]=>[]
 |x::r=>I9 h h' x::Cy h h' r
end
theorem Q5(h h':Hp):∀l,Cy h h' l=l.map (I9 h h')
 |[]=>by simp[Cy]
 |x::r=>by simp[Cy,Q5 h h' r]
def GR(h h':Hp):C4→C4→Prop
 |.bx τ l,b=>b=.bx τ (Cy h h' l)
 |.row e sz _ l,b=>∃v,b=.row e sz v l
 |.map m,b=>b=.map m
 |.it s p,b=>b=.it s p
mutual
def X4(m:Nat):AV→Bool
 |.ref i _=>Nat.blt i m
 |.row i _ _=>Nat.blt i m
 |.mp i=>Nat.blt i m
 |.elt i _ _ _=>Nat.blt i m
 |.sub i _ _ _=>Nat.blt i m
 |.agg l=>V3 m l
 |.tup l=>V3 m l
 |.fo _ l=>V3 m l
 |_=>true
def V3(m:Nat):List AV→Bool
 |[]=>true
 |x::r=>X4 m x && V3 m r
end
theorem Ba{m:Nat}:∀{l:List AV},V3 m l=true→∀x∈l,X4 m x=true
 |[],_,x,hx=>by cases hx
 |y::r,h,x,hx=>by
  simp only[V3,Bool.and_eq_true]at h
  rcases List.mem_cons.1 hx with rfl|hx
  ·exact h.1
  ·exact Ba h.2 x hx
structure Cx.sub(c c':Cx):Prop where
 θ:c'.θ=c.θ
 w:c'.w=c.w
 X:∀k,c'.X k→c.X k
 blk:∀i b',A5 c'.hp i=some b'→∃b,A5 c.hp i=some b∧GR c.hp c'.hp b b'
 apart:∀i j b b' k,A5 c.hp i=some b→A5 c.hp j=some b'→FP c.θ i b k→FP c.θ j b' k→i=j
 fresh:∀i b k,A5 c.hp i=some b→FP c.θ i b k→¬c.X k
 owns:∀i b,A5 c.hp i=some b→L8 c i b
theorem cl{h h':Hp}{b b':C4}(e:GR h h' b b'):V9 b'=V9 b:=by
 cases b with
 |bx τ l=>simp only[GR]at e;subst e;rfl
 |row e1 sz v l=>obtain⟨v2,rfl⟩:=e;rfl
 |map m=>simp only[GR]at e;subst e;rfl
 |it s p=>simp only[GR]at e;subst e;rfl
theorem FP.cv{θ:Th}{i k:Nat}{h h':Hp}{b b':C4}(e:GR h h' b b')(f:FP θ i b' k):FP θ i b k:=by
 unfold FP at f ⊢
 rwa[cl e]at f
theorem Cx.sub.U{c c':Cx}(h:c.sub c'):∀k,c'.U k→c.U k:=by
 rintro k (hk|⟨i,b,hi,hk⟩)
 ·exact .inl (h.X k hk)
 ·obtain⟨b0,ox,uU⟩:=h.blk i b hi
  exact .inr ⟨i,b0,ox,FP.cv uU (by rw[←h.θ];exact hk)⟩
theorem Cx.sub.notU{c c':Cx}(h:c.sub c'){i:Nat}{b:C4}(hi:A5 c.hp i=some b)(hn:A5 c'.hp i=none){k:Nat}(hk:FP c.θ i b k):¬c'.U k:=by
 rintro (hx|⟨j,b',hj,oL⟩)
 ·exact h.fresh i b k hi hk (h.X k hx)
 ·obtain⟨b0,ox,uU⟩:=h.blk j b' hj
  have:=h.apart i j b b0 k hi ox hk (FP.cv uU (by rw[←h.θ];exact oL))
  subst this
  rw[hn]at hj
  cases hj
theorem Cx.sub.im{c c':Cx}(h:c.sub c'){a:AV}{x:Value}(hi:Im c.U c.w a x):Im c'.U c'.w a x:=hi.mono (fun k _ _=>by rw[h.w]) fun k _ hu=>h.U k hu
theorem Hz{c c':Cx}(h:c.sub c'){i e sz v:Nat}{l:List (List AV)}(hi:A5 c.hp i=some (.row e sz v l))(hn:A5 c'.hp i=none):Im c'.U c'.w (.sl sz l) (c.θ i):=by
 obtain⟨xs,nP,hsz,hr,_⟩:=h.owns i _ hi
 rcases nP.2 with ⟨hv,wS⟩|⟨g,cap,nR,hv,_,hg,hc,hm,nM,hx⟩
 ·have:l=[]:=List.eq_nil_of_length_eq_zero wS
  subst this
  rw[hv]
  exact .slnil sz
 ·have oA:=nP
  rw[hv]at oA
  rw[hv]
  have xN:¬c'.U g:=h.notU hi hn (.inl (by rw[hv];rfl))
  have pI:∀i,i<l.length→∀j,j<sz→∃y,xs[i*sz+j]?=some y:=by
   intro i hi j hj
   have h1:(i+1)*sz≤l.length*sz:=Nat.mul_le_mul_right _ hi
   rw[Nat.add_mul,Nat.one_mul]at h1
   have h2:i*sz+j<xs.length:=by rw[nP.1];omega
   exact⟨_,List.getElem?_eq_getElem h2⟩
  refine .sl sz l ⟨g,0,none⟩ cap (fun i j=>xs.getD (i*sz+j) undef) hc hm (fun _ _=>xN) hsz (fun i hi j hj=>?_) (fun k el hk j x hx=>?_)
  ·obtain⟨y,hy⟩:=pI i hi j hj
   have:=oA.cells (g:=g) rfl _ _ hy
   rw[H3,h.w]
   have e:xs.getD (i*sz+j) undef=y:=by rw[List.getD,hy];rfl
   rw[e]
   simpa [H3]using this
  ·obtain⟨y,hy,oT⟩:=hr k el hk j x hx
   have e:xs.getD (k*sz+j) undef=y:=by rw[List.getD,hy];rfl
   rw[e]
   exact h.im oT
theorem jw{U:Nat→Prop}{w:World}{sz lo len:Nat}{l:List (List AV)}{v x:Value}(h:Im U w (.sl sz l) v)(hs:SN v sz lo len x)(hl:lo+len≤l.length):Im U w (.sl sz ((l.take (lo+len)).drop lo)) x:=by
 have nM:((l.take (lo+len)).drop lo).length=len:=by rw[List.length_drop,List.length_take];omega
 rcases hs with ⟨rfl,rfl,rfl,rfl⟩|⟨g,n,cap,rfl,rfl⟩
 ·have:(l.take (0+0)).drop 0=[]:=by simp
  rw[this];exact .slnil sz
 ·cases h with
  |sl sz l a cap f oQ hm hu hsz hc h =>
   have pI:∀(i:Nat) el,((l.take (lo+len)).drop lo)[i]?=some el→l[lo+i]?=some el∧lo+i<l.length∧cap≠lo:=by
    intro i el hi
    rw[List.getElem?_drop,List.getElem?_take]at hi
    split at hi
    ·have:=(List.getElem?_eq_some_iff.1 hi).1
     exact⟨hi,this,by omega⟩
    ·cases hi
   have key:∀p:Addr,p=(if cap=lo then ⟨g,0,none⟩else ⟨g,lo*sz,none⟩)→Im U w (.sl sz ((l.take (lo+len)).drop lo)) (.slice (some p) ((l.take (lo+len)).drop lo).length (cap-lo)):=fun p hp=>by
    refine .sl sz _ p _ (fun i j=>f (lo+i) j) (by rw[nM];omega) (by omega) (fun hne qy=>?_) (fun el nJ=>?_) (fun i hi j hj=>?_) (fun i el hi j u hu=>?_)
    ·have:l≠[]:=by intro e;subst e;simp at hne
     have h5:=hu this qy
     rw[hp];split<;>exact h5
    ·exact hsz el (List.mem_of_mem_take (List.mem_of_mem_drop nJ))
    ·have hg:=pI i _ (List.getElem?_eq_getElem hi)
     rw[hp,if_neg hg.2.2,H3]
     have:=hc (lo+i) hg.2.1 j hj
     rw[H3,Nat.zero_add,Nat.add_mul,Nat.add_assoc]at this
     exact this
    ·have hg:=pI i _ hi
     exact h _ _ hg.1 j u hu
   have:=key _ rfl
   rwa[nM]at this
theorem lu{c c':Cx}(h:c.sub c'){a:AV}{x:Value}(hi:Im c.U c.w a x):I9 c.hp c'.hp a=a∨E0 c' (I9 c.hp c'.hp a) x:=by
 induction hi with
 |v x=>exact .inl rfl
 |str l=>exact .inl rfl
 |fn f l cs hl hc ih=>exact .inl rfl
 |iptr l a f hu hc hh ih=>exact .inl rfl
 |err t p=>exact .inl rfl
 |any x=>exact .inl rfl
 |own e sz l x=>exact .inl rfl
 |slnil sz=>exact .inl rfl
 |sl sz l a cap f oQ hm hu hsz hc hh ih=>exact .inl rfl
 |agg l cs hl hc ih =>
  refine .inr ?_
  simp only[I9,Q5]
  refine .agg _ cs (by simp[hl]) fun j u z hu hz=>?_
  simp only[List.getElem?_map,Option.map_eq_some_iff]at hu
  obtain⟨u0,pW,rfl⟩:=hu
  rcases ih j u0 z pW hz with e|e
  ·rw[e];exact .im (h.im (hc j u0 z pW hz))
  ·exact e
 |tup l cs hl hc ih =>
  refine .inr ?_
  simp only[I9,Q5]
  refine .tup _ cs (by simp[hl]) fun j u z hu hz=>?_
  simp only[List.getElem?_map,Option.map_eq_some_iff]at hu
  obtain⟨u0,pW,rfl⟩:=hu
  rcases ih j u0 z pW hz with e|e
  ·rw[e];exact .im (h.im (hc j u0 z pW hz))
  ·exact e
theorem JZ{c c':Cx}(h:c.sub c'){a:AV}{x:Value}(r:E0 c a x):c.nx≤c'.nx∨X4 c'.nx (I9 c.hp c'.hp a)=true→E0 c' (I9 c.hp c'.hp a) x:=by
 induction r with
 |any x=>intro _;exact .any x
 |im hi =>
  intro _
  rcases lu h hi with e|e
  ·rw[e];exact .im (h.im hi)
  ·exact e
 |agg l cs hl _ ih =>
  intro nN
  simp only[I9,Q5]at nN ⊢
  refine .agg _ cs (by simp[hl]) fun j u z hu hz=>?_
  have oH:=List.mem_of_getElem? hu
  simp only[List.getElem?_map,Option.map_eq_some_iff]at hu
  obtain⟨u0,pW,rfl⟩:=hu
  exact ih j u0 z pW hz (nN.imp id fun h=>Ba (by simpa only[X4]using h) _ oH)
 |tup l cs hl _ ih =>
  intro nN
  simp only[I9,Q5]at nN ⊢
  refine .tup _ cs (by simp[hl]) fun j u z hu hz=>?_
  have oH:=List.mem_of_getElem? hu
  simp only[List.getElem?_map,Option.map_eq_some_iff]at hu
  obtain⟨u0,pW,rfl⟩:=hu
  exact ih j u0 z pW hz (nN.imp id fun h=>Ba (by simpa only[X4]using h) _ oH)
 |fo f l cs hl _ ih =>
  intro nN
  simp only[I9,Q5]at nN ⊢
  refine .fo f _ cs (by simp[hl]) fun j u z hu hz=>?_
  have oH:=List.mem_of_getElem? hu
  simp only[List.getElem?_map,Option.map_eq_some_iff]at hu
  obtain⟨u0,pW,rfl⟩:=hu
  exact ih j u0 z pW hz (nN.imp id fun h=>Ba (by simpa only[X4]using h) _ oH)
 |ref i off b hi hθ =>
  intro nN
  simp only[I9,Na]at nN ⊢
  have oa:(c.nx≤c'.nx∨X4 c'.nx (.ref i off)=true)→E0 c' (.ref i off) (.pointer (some ⟨b,off,none⟩)):=fun nN=>by
   refine .ref i off b ?_ (by rw[h.θ];exact hθ)
   rcases nN with h1|h1
   ·omega
   ·simpa only[X4,Nat.blt_eq]using h1
  split at nN
  ·rename_i l hb
   split at nN
   ·exact oa nN
   ·rename_i hn
    cases ni:I8 l with
    |false=>rw[ni]at nN;exact oa nN
    |true =>
     obtain⟨b',nw,T,oh,hh,hsz,hr⟩:=h.owns i _ hb
     have e:b'=b:=by rw[hθ]at oh;injection oh with e;injection e with e;injection e with e;exact e.symm
     subst e
     have xN:¬c'.U b':=h.notU hb hn (.inl (by rw[hθ];rfl))
     refine .im (.iptr _ _ (fun j=>nw.getD (off+j) undef) (fun _=>xN) (fun j hj=>?_) (fun j u hu=>?_))
     ·have wN:off+j<nw.size:=by rw[List.length_drop]at hj;omega
      rw[H3,h.w,K1 hh]
      simp[Array.getD,wN]
     ·rw[List.getElem?_drop]at hu
      have wN:off+j<nw.size:=by have:=(List.getElem?_eq_some_iff.1 hu).1;omega
      have pI:nw[off+j]?=some (nw.getD (off+j) undef):=by simp[Array.getD,wN]
      have:=hr _ u _ hu pI
      exact h.im ((U4 ni u (List.mem_of_getElem? hu)).im this)
  ·exact oa nN
 |row i ver len x hi hr =>
  intro nN
  simp only[I9,Kj]
  split
  ·rename_i e sz v1 l hb
   cases hv:Nat.beq ver v1 with
   |false=>exact .any x
   |true =>
    have ob:=Nat.eq_of_beq_eq_true hv
    subst ob
    obtain⟨_,sS⟩:=hr e sz ver l hb
    obtain⟨nM,hx⟩:=sS rfl
    simp only[cond_true]
    split
    ·rename_i e2 pD v2 l2 nl
     have nt:i<c'.nx:=by
      simp only[I9,Kj,hb,hv,cond_true,nl,X4,Nat.blt_eq]at nN
      omega
     refine .row i v2 len x nt fun e3 sz3 v3 l3 rr=>?_
     rw[nl]at rr
     cases rr
     refine⟨Nat.le_refl _,fun _=>?_⟩
     obtain⟨b,pa,nW⟩:=h.blk i _ nl
     rw[hb]at pa
     cases pa
     obtain⟨v,nW⟩:=nW
     cases nW
     exact⟨nM,by rw[h.θ];exact hx⟩
    ·rename_i nl
     rw[hx]
     refine .im (Hz h hb ?_)
     cases hq:A5 c'.hp i with
     |none=>rfl
     |some b' =>
      obtain⟨b,pa,nW⟩:=h.blk i _ hq
      rw[hb]at pa
      cases pa
      obtain⟨v,rfl⟩:=nW
      exact absurd hq (nl _ _ _ _)
  ·exact .any x
 |mp i r hi hθ =>
  intro nN
  refine .mp i r ?_ (by rw[h.θ];exact hθ)
  simp only[I9,X4,Nat.blt_eq]at nN
  omega
 |sub i ver lo len x hi hr =>
  intro nN
  simp only[I9,Kl]
  split
  ·rename_i e sz v1 l hb
   cases hv:Nat.beq ver v1 with
   |false=>exact .any x
   |true =>
    have ob:=Nat.eq_of_beq_eq_true hv
    subst ob
    obtain⟨_,sS⟩:=hr e sz ver l hb
    obtain⟨nM,hx⟩:=sS rfl
    simp only[cond_true]
    split
    ·rename_i e2 pD v2 l2 nl
     have nt:i<c'.nx:=by
      simp only[I9,Kl,hb,hv,cond_true,nl,X4,Nat.blt_eq]at nN
      omega
     refine .sub i v2 lo len x nt fun e3 sz3 v3 l3 rr=>?_
     rw[nl]at rr
     cases rr
     refine⟨Nat.le_refl _,fun _=>?_⟩
     obtain⟨b,pa,nW⟩:=h.blk i _ nl
     rw[hb]at pa
     cases pa
     obtain⟨v,nW⟩:=nW
     cases nW
     exact⟨nM,by rw[h.θ];exact hx⟩
    ·rename_i nl
     refine .im (jw (Hz h hb ?_) hx nM)
     cases hq:A5 c'.hp i with
     |none=>rfl
     |some b' =>
      obtain⟨b,pa,nW⟩:=h.blk i _ hq
      rw[hb]at pa
      cases pa
      obtain⟨v,rfl⟩:=nW
      exact absurd hq (nl _ _ _ _)
  ·exact .any x
 |elt i ver k off x hi hr =>
  intro nN
  simp only[I9,Kk]
  split
  ·rename_i e sz v1 l hb
   cases hv:Nat.beq ver v1 with
   |false=>exact .any x
   |true =>
    have ob:=Nat.eq_of_beq_eq_true hv
    subst ob
    obtain⟨_,sS⟩:=hr e sz ver l hb
    obtain⟨g,m,cap,hθ,hx⟩:=sS rfl
    simp only[cond_true]
    split
    ·rename_i e2 pD v2 l2 nl
     have nt:i<c'.nx:=by
      simp only[I9,Kk,hb,hv,cond_true,nl,X4,Nat.blt_eq]at nN
      omega
     refine .elt i v2 k off x nt fun e3 sz3 v3 l3 rr=>?_
     rw[nl]at rr
     cases rr
     refine⟨Nat.le_refl _,fun _=>?_⟩
     obtain⟨b,pa,nW⟩:=h.blk i _ nl
     rw[hb]at pa
     cases pa
     obtain⟨v,nW⟩:=nW
     cases nW
     exact⟨g,m,cap,by rw[h.θ];exact hθ,hx⟩
    ·rename_i nl
     split
     ·rename_i el nJ
      have hn:A5 c'.hp i=none:=by
       cases hq:A5 c'.hp i with
       |none=>rfl
       |some b' =>
        obtain⟨b,pa,nW⟩:=h.blk i _ hq
        rw[hb]at pa
        cases pa
        obtain⟨v,rfl⟩:=nW
        exact absurd hq (nl _ _ _ _)
      have oT:=Hz h hb hn
      rw[hθ]at oT
      cases oT with
      |sl sz l a od f oQ hm hu hsz hc hh =>
       have qT:k<l.length:=(List.getElem?_eq_some_iff.1 nJ).1
       have vE:=hsz el (List.mem_of_getElem? nJ)
       rw[hx]
       refine .im (.iptr _ _ (fun j=>f k (off+j)) (fun hne=>?_) (fun j hj=>?_) (fun j u qv=>?_))
       ·have h1:=List.length_pos_iff.2 hne
        rw[List.length_drop]at h1
        exact hu (by intro e;subst e;simp at qT) (by omega)
       ·rw[List.length_drop]at hj
        have:=hc k qT (off+j) (by omega)
        rw[H3]at this ⊢
        rw[←this]
        congr 2
        omega
       ·rw[List.getElem?_drop]at qv
        exact hh k el nJ (off+j) u qv
     ·exact .any x
  ·exact .any x
theorem J5.cv{E:Env}{n:Nat}{θ:Th}{σ σ':St}{a:Act}{w:World}(h:J5 E n θ σ a w)(h0:E.n0≤σ'.nx)
  (hs:∀s x',look σ'.sl s=some x'→∃x,look σ.sl s=some x∧I9 σ.hp σ'.hp x=x'∧(σ.nx≤σ'.nx∨X4 σ'.nx x'=true))
  (hb:∀i b',A5 σ'.hp i=some b'→(σ.nx≤σ'.nx∨i<σ'.nx)∧∃b,A5 σ.hp i=some b∧GR σ.hp σ'.hp b b'∧(σ.nx≤σ'.nx∨∀τ l,b'=.bx τ l→V3 σ'.nx l=true)):J5 E n θ σ' a w:=by
 have sub:(cx E θ σ w).sub (cx E θ σ' w):=⟨rfl,rfl,fun _ h=>h,fun i b' hi=>by
  obtain⟨_,b,h1,h2,_⟩:=hb i b' hi
  exact⟨b,h1,h2⟩,h.apart,fun i b k hi hk=>(h.mine i b k hi hk).1,fun i b hi=>(h.owns i b hi).2⟩
 refine⟨h.size,h.defers,h.fr,fun s x' hx=>?_,fun i b' hi=>?_,fun i j b1 b2 k hi hj=>?_,fun i b' k hi=>?_,h.X,⟨h0,fun i hi=>(h.base.2 i hi).imp id fun ⟨h1,h2⟩=>⟨h1,fun ⟨e',sz,v,l,hl,hk⟩=>h2 (by
  obtain⟨_,b,g1,g2,_⟩:=hb i _ hl
  cases b with
  |bx _ _=>cases g2
  |map _=>cases g2
  |it _ _=>cases g2
  |row e1 sz1 v1 l1 =>
   obtain⟨v2,g3⟩:=g2
   cases g3
   exact⟨_,_,_,_,g1,hk⟩)⟩⟩⟩
 ·obtain⟨x,h1,rfl,h2⟩:=hs s x' hx
  exact JZ sub (h.slots s x h1) h2
 ·obtain⟨h0,b,h1,h2,h3⟩:=hb i b' hi
  obtain⟨h4,h5⟩:=h.owns i b h1
  refine⟨h0.elim (fun h=>by omega) id,?_⟩
  cases b with
  |bx τ l =>
   simp only[GR]at h2
   subst h2
   obtain⟨b',nw,T,e1,e2,e3,e4⟩:=h5
   refine⟨b',nw,T,e1,e2,by rw[Q5,List.length_map];exact e3,fun j u z hu hz=>?_⟩
   rw[Q5]at hu h3
   have oH:=List.mem_of_getElem? hu
   simp only[List.getElem?_map,Option.map_eq_some_iff]at hu
   obtain⟨u0,pW,rfl⟩:=hu
   exact JZ sub (e4 j u0 z pW hz) (h3.imp id fun h=>Ba (h _ _ rfl) _ oH)
  |row e sz v l =>
   obtain⟨v2,rfl⟩:=h2
   obtain⟨xs,e1,e2,e3,e4⟩:=h5
   exact⟨xs,e1,e2,(fun k el hk j x hx=>by
    obtain⟨y,hy,hi⟩:=e3 k el hk j x hx
    exact⟨y,hy,sub.im hi⟩),fun hne=>⟨(e4 hne).1,fun k el hk j e' nQ l' hj=>by
    obtain⟨g,m,cap,y,ys,q1,q2,q3,q4,q5,q6,q7⟩:=(e4 hne).2 k el hk j e' nQ l' hj
    exact⟨g,m,cap,y,ys,q1,q2,q3,q4,q5,fun q oo hq j' x hx=>by
     obtain⟨z,hz,hi⟩:=q6 q oo hq j' x hx
     exact⟨z,hz,sub.im hi⟩,q7⟩⟩⟩
  |map m =>
   simp only[GR]at h2
   subst h2
   obtain⟨r,es,clock,e1,e2,e3,e4⟩:=h5
   exact⟨r,es,clock,e1,e2,e3,fun j q e hj he=>⟨(e4 j q e hj he).1,sub.im (e4 j q e hj he).2⟩⟩
  |it t p =>
   simp only[GR]at h2
   subst h2
   exact h5
 ·intro pd nX
  obtain⟨_,b1',h1,g1,_⟩:=hb i b1 hi
  obtain⟨_,b2',h2,g2,_⟩:=hb j b2 hj
  exact h.apart i j _ _ k h1 h2 (FP.cv g1 pd) (FP.cv g2 nX)
 ·intro hk
  obtain⟨_,b1',h1,g1,_⟩:=hb i b' hi
  exact h.mine i _ k h1 (FP.cv g1 hk)
def So(m:Nat):List (Nat×AV)→Bool
 |[]=>true
 |(_,x)::r=>X4 m x && So m r
def L1(m:Nat):Hp→Bool
 |[]=>true
 |(i,some (.bx _ l))::r=>Nat.blt i m && V3 m l && L1 m r
 |(i,_)::r=>Nat.blt i m && L1 m r
theorem QR{m:Nat}:∀{l:List (Nat×AV)} {s:Nat} {x:AV},So m l=true→look l s=some x→X4 m x=true
 |[],s,x,_,h=>by cases h
 |(s0,x0)::r,s,x,hs,h=>by
  simp only[So,Bool.and_eq_true]at hs
  rw[E8]at h
  by_cases e:s0=s
  ·subst e;rw[if_pos rfl]at h;cases h;exact hs.1
  ·rw[if_neg e]at h;exact QR hs.2 h
theorem Cz{m:Nat}:∀{l:Hp} {i:Nat} {b:C4},L1 m l=true→A5 l i=some b→i<m∧∀τ c,b=.bx τ c→V3 m c=true
 |[],i,b,_,h=>by cases h
 |(i0,b0)::r,i,b,hs,h=>by
  rw[G5]at h
  have oX:Nat.blt i0 m=true∧(∀τ c,b0=some (.bx τ c)→V3 m c=true)∧L1 m r=true:=by
   match b0,hs with
   |some (.bx τ c),hs=>simp only[L1,Bool.and_eq_true]at hs;exact⟨hs.1.1,(fun _ c' e=>by cases e;exact hs.1.2),hs.2⟩
   |some (.row ..),hs=>simp only[L1,Bool.and_eq_true]at hs;exact⟨hs.1,(fun _ c' e=>by cases e),hs.2⟩
   |some (.map ..),hs=>simp only[L1,Bool.and_eq_true]at hs;exact⟨hs.1,(fun _ c' e=>by cases e),hs.2⟩
   |some (.it ..),hs=>simp only[L1,Bool.and_eq_true]at hs;exact⟨hs.1,(fun _ c' e=>by cases e),hs.2⟩
   |none,hs=>simp only[L1,Bool.and_eq_true]at hs;exact⟨hs.1,(fun _ c' e=>by cases e),hs.2⟩
  by_cases e:i0=i
  ·subst e
   rw[if_pos rfl]at h
   subst h
   exact⟨Nat.blt_eq▸oX.1,fun τ c hc=>oX.2.1 τ c (by rw[hc])⟩
  ·rw[if_neg e]at h;exact Cz oX.2.2 h
def IA(σ:St)(h':Hp):List (Nat×AV)→Prop
 |[]=>True
 |(s,x)::r=>(look σ.sl s).map (I9 σ.hp h')=some x∧IA σ h' r
def FC(σ:St)(h':Hp):Hp→Prop
 |[]=>True
 |(_,none)::r=>FC σ h' r
 |(i,some b)::r=>(match A5 σ.hp i with
  |some b0=>GR σ.hp h' b0 b
  |none=>False)∧FC σ h' r
theorem IA.look{σ:St}{h':Hp}:∀{l:List (Nat×AV)} {s:Nat} {x:AV},IA σ h' l→look l s=some x→(look σ.sl s).map (I9 σ.hp h')=some x
 |[],s,x,_,h=>by cases h
 |(s0,x0)::r,s,x,hs,h=>by
  rw[E8]at h
  by_cases e:s0=s
  ·subst e;rw[if_pos rfl]at h;cases h;exact hs.1
  ·rw[if_neg e]at h;exact IA.look hs.2 h
theorem FC.look{σ:St}{h':Hp}:∀{l:Hp} {i:Nat} {b:C4},FC σ h' l→A5 l i=some b→∃b0,A5 σ.hp i=some b0∧GR σ.hp h' b0 b
 |[],i,b,_,h=>by cases h
 |(i0,none)::r,i,b,hs,h=>by
  rw[G5]at h
  by_cases e:i0=i
  ·subst e;rw[if_pos rfl]at h;cases h
  ·rw[if_neg e]at h;exact FC.look (l:=r) hs h
 |(i0,some b0)::r,i,b,hs,h=>by
  rw[G5]at h
  by_cases e:i0=i
  ·subst e
   rw[if_pos rfl]at h
   cases h
   have h1:=hs.1
   split at h1
   ·rename_i b1 ou;exact⟨b1,ou,h1⟩
   ·exact h1.elim
  ·rw[if_neg e]at h;exact FC.look hs.2 h
theorem A7{E:Env}{n m:Nat}{σ σ':St}(h0:E.n0=m)(hm:Nat.ble m σ'.nx=true)(hs:IA σ σ'.hp σ'.sl)(hh:FC σ σ'.hp σ'.hp)(hn:Nat.ble σ'.nx σ.nx=true)(hl:So σ'.nx σ'.sl=true)(hb:L1 σ'.nx σ'.hp=true):St.le E n σ σ':=by
 rintro a w ⟨θ,h⟩
 refine⟨θ,h.cv (h0▸Nat.ble_eq▸hm) (fun s x' hx=>?_) (fun i b' hi=>?_)⟩
 ·have:=IA.look hs hx
  rw[Option.map_eq_some_iff]at this
  obtain⟨x,h1,h2⟩:=this
  exact⟨x,h1,h2,.inr (QR hl hx)⟩
 ·obtain⟨b0,h1,h2⟩:=FC.look hh hi
  obtain⟨h3,h4⟩:=Cz hb hi
  exact⟨.inr h3,b0,h1,h2,.inr h4⟩
def BQ(f:AV→AV):List (Nat×AV)→List (Nat×AV)
 |[]=>[]
 |(s,x)::r=>(s,f x)::BQ f r
def Bb(i:Nat):Hp→Hp
 |[]=>[]
 |(k,b)::r=>cond (Nat.beq k i) (Bb i r) ((k,b)::Bb i r)
def GS(f:AV→AV):Hp→Hp
 |[]=>[]
 |(k,some (.bx τ l))::r=>(k,some (.bx τ (l.map f)))::GS f r
 |(k,b)::r=>(k,b)::GS f r
theorem DR(f:AV→AV):∀(l:List (Nat×AV)) (s:Nat),look (BQ f l) s=(look l s).map f
 |[],s=>rfl
 |(k,x)::r,s=>by
  simp only[BQ,E8]
  by_cases e:k=s
  ·simp[e]
  ·simp[e,DR f r s]
theorem DS(i:Nat):∀(l:Hp) (j:Nat),A5 (Bb i l) j=if i=j then none else A5 l j
 |[],j=>by simp[Bb,A5,look]
 |(k,b)::r,j=>by
  simp only[Bb]
  cases h:Nat.beq k i with
  |true =>
   have:=Nat.eq_of_beq_eq_true h
   subst this
   rw[cond_true,DS k r j,G5]
   by_cases e:k=j<;>simp[e]
  |false =>
   have hne:k≠i:=by intro e;subst e;simp at h
   rw[cond_false,G5,G5,DS i r j]
   by_cases e:k=j
   ·subst e;simp[Ne.symm hne]
   ·simp[e]
def En(f:AV→AV):C4→C4
 |.bx τ l=>.bx τ (l.map f)
 |b=>b
theorem Gw(f:AV→AV):∀(l:Hp) (j:Nat),A5 (GS f l) j=(A5 l j).map (En f)
 |[],j=>by simp[GS,A5,look]
 |(k,b)::r,j=>by
  have:GS f ((k,b)::r)=(k,b.map (En f))::GS f r:=by
   cases b with
   |none=>rfl
   |some b=>cases b<;>rfl
  rw[this,G5,G5,Gw f r j]
  by_cases e:k=j<;>simp[e]
def St.frz(σ:St)(i:Nat):St :=
 let h':=Bb i σ.hp
 { sl:=BQ (I9 σ.hp h') σ.sl,nx:=σ.nx,hp:=GS (I9 σ.hp h') h' }
theorem VZ{h h1 h2:Hp}(e:∀j,(A5 h2 j)=(A5 h1 j).map (En (I9 h h1)))(i v len:Nat):Kj h h2 i v len=Kj h h1 i v len:=by
 unfold Kj
 rw[e i]
 cases A5 h1 i with
 |none=>rfl
 |some b=>cases b<;>rfl
theorem Va{h h1 h2:Hp}(e:∀j,(A5 h2 j)=(A5 h1 j).map (En (I9 h h1)))(i v k off:Nat):Kk h h2 i v k off=Kk h h1 i v k off:=by
 unfold Kk
 rw[e i]
 cases A5 h1 i with
 |none=>rfl
 |some b=>cases b<;>rfl
theorem Vb{h h1 h2:Hp}(e:∀j,(A5 h2 j)=(A5 h1 j).map (En (I9 h h1)))(i v k off:Nat):Kl h h2 i v k off=Kl h h1 i v k off:=by
 unfold Kl
 rw[e i]
 cases A5 h1 i with
 |none=>rfl
 |some b=>cases b<;>rfl
theorem Vc{h h1 h2:Hp}(e:∀j,(A5 h2 j)=(A5 h1 j).map (En (I9 h h1)))(i off:Nat):Na h h2 i off=Na h h1 i off:=by
 unfold Na
 rw[e i]
 cases A5 h1 i with
 |none=>rfl
 |some b=>cases b<;>rfl
mutual
theorem Ja{h h1 h2:Hp}(e:∀j,(A5 h2 j)=(A5 h1 j).map (En (I9 h h1))):∀a,I9 h h2 a=I9 h h1 a
 |.row i v len=>by simp only[I9];exact VZ e i v len
 |.elt i v k off=>by simp only[I9];exact Va e i v k off
 |.sub i v k off=>by simp only[I9];exact Vb e i v k off
 |.ref i off=>by simp only[I9];exact Vc e i off
 |.agg l=>by simp only[I9];rw[DA e l]
 |.tup l=>by simp only[I9];rw[DA e l]
 |.fo f l=>by simp only[I9];rw[DA e l]
 |.any=>rfl
 |.v _=>rfl
 |.str _=>rfl
 |.iptr _=>rfl
 |.sl _ _=>rfl
 |.mp _=>rfl
 |.fn _ _=>rfl
 |.err=>rfl
 |.own _ _ _=>rfl
theorem DA{h h1 h2:Hp}(e:∀j,(A5 h2 j)=(A5 h1 j).map (En (I9 h h1))):∀l,Cy h h2 l=Cy h h1 l
 |[]=>rfl
 |x::r=>by simp only[Cy];rw[Ja e x,DA e r]
end
theorem Fq{E:Env}{n:Nat}{σ:St}(i:Nat):St.le E n σ (σ.frz i):=by
 rintro a w ⟨θ,h⟩
 have e:∀j,A5 (σ.frz i).hp j=(A5 (Bb i σ.hp) j).map (En (I9 σ.hp (Bb i σ.hp))):=fun j=>Gw _ _ _
 refine⟨θ,h.cv h.base.1 (fun s x' hx=>?_) (fun j b' hj=>?_)⟩
 ·have qA:(look σ.sl s).map (I9 σ.hp (Bb i σ.hp))=some x':=by rw[←DR];exact hx
  rw[Option.map_eq_some_iff]at qA
  obtain⟨x,h1,h2⟩:=qA
  exact⟨x,h1,by rw[Ja e];exact h2,.inl (Nat.le_refl _)⟩
 ·refine⟨.inl (Nat.le_refl _),?_⟩
  rw[e j,Option.map_eq_some_iff]at hj
  obtain⟨b,hb,rfl⟩:=hj
  rw[DS]at hb
  split at hb
  ·cases hb
  ·refine⟨b,hb,?_,.inl (Nat.le_refl _)⟩
   cases b with
   |bx τ l=>simp only[GR,En,DA e,Q5]
   |row e sz v l=>exact⟨v,rfl⟩
   |map m=>rfl
   |it _ _=>rfl
def DT:List Nat→Hp→Hp
 |[],h=>h
 |i::r,h=>DT r (Bb i h)
theorem LZ:∀(is:List Nat) (h:Hp) (j:Nat),A5 (DT is h) j=none∨A5 (DT is h) j=A5 h j
 |[],h,j=>.inr rfl
 |i::r,h,j=>by
  rcases LZ r (Bb i h) j with e|e
  ·exact .inl e
  ·rw[DT,e,DS]
   by_cases sE:i=j
   ·exact .inl (by rw[if_pos sE])
   ·exact .inr (by rw[if_neg sE])
mutual
def GT:AV→Bool
 |.v _|.str _|.err=>true
 |.agg l|.tup l=>Nb l
 |.sl _ []=>true
 |_=>false
def Nb:List AV→Bool
 |[]=>true
 |x::r=>GT x && Nb r
end
theorem IB:∀{l:List AV},Nb l=true→∀x∈l,GT x=true
 |[],_,x,hx=>by cases hx
 |y::r,h,x,hx=>by
  simp only[Nb,Bool.and_eq_true]at h
  rcases List.mem_cons.1 hx with rfl|hx
  ·exact h.1
  ·exact IB h.2 x hx
theorem gX{U U':Nat→Prop}{w:World}{a:AV}{v:Value}(h:Im U w a v):GT a=true→Im U' w a v:=by
 induction h with
 |v x=>intro _;exact .v x
 |str l=>intro _;exact .str l
 |agg l cs hl h ih=>intro hf;exact .agg l cs hl fun j x c hx hc=>ih j x c hx hc (IB (by simpa [GT]using hf) x (List.mem_of_getElem? hx))
 |tup l cs hl h ih=>intro hf;exact .tup l cs hl fun j x c hx hc=>ih j x c hx hc (IB (by simpa [GT]using hf) x (List.mem_of_getElem? hx))
 |fn f l cs hl h ih=>intro hf;cases hf
 |iptr l a f hu hc h ih=>intro hf;cases hf
 |err t p=>intro _;exact .err t p
 |any x=>intro _;exact .any x
 |own e sz l x=>intro _;exact .own e sz l x
 |slnil sz=>intro _;exact .slnil sz
 |sl sz l a cap f oQ hm hu hsz hc h ih =>
  intro hf
  cases l with
  |nil=>exact .sl sz [] a cap f oQ hm (fun h=>absurd rfl h) hsz hc (fun i e he=>by simp at he)
  |cons x r=>cases hf
theorem Sp{P:Program}{E:Env}{nx:Nat}{hp:Hp}{ev:Operand→Option AV}{ty:TypeId}{f:Nat}{xs:List Operand}{args caps L:List AV}{r:AV}{ts:Array TypeId}{g:Operand}(is:List Nat)(hc:A3 P f (L++caps) r)(ha:r9 ev xs=some args)
  (hL:Cy hp (DT is hp) args=L) (ni:I8 L=true) (oY:GT r=true)
  (hg:∀θ a w,AY E θ nx hp ev a w→∃cs:List Value,a.eval g=.func (.func f) #[] cs.toArray∧caps.length=cs.length∧∀(j:Nat) x c,caps[j]?=some x→cs[j]?=some c→Im (kx E θ nx hp w).U w x c) :
  G8 P E nx hp ev (.call ⟨.value g,xs.toArray,ts⟩) ty r:=by
 intro d pos after θ a w K hs hk
 obtain⟨hl,hr⟩:=Cg hs xs args ha
 obtain⟨cs,qN,pz,ov⟩:=hg θ a w hs
 unfold JQ
 rw[Sb hc.1 qN]
 let h':=DT is hp
 let H:=GS (I9 hp h') h'
 have e:∀j,A5 H j=(A5 h' j).map (En (I9 hp h')):=fun j=>Gw _ _ _
 have sub:(kx E θ nx hp w).sub (kx E θ nx H w):=⟨rfl,rfl,fun _ h=>h,fun j b' hj=>by
  have nk:A5 H j=some b':=hj
  rw[e j,Option.map_eq_some_iff]at nk
  obtain⟨b,hb,rfl⟩:=nk
  rcases LZ is hp j with h|h
  ·have pa:A5 (DT is hp) j=some b:=hb
   rw[h]at pa;cases pa
  ·have pa:A5 (DT is hp) j=some b:=hb
   rw[h]at pa
   refine⟨b,pa,?_⟩
   cases b with
   |bx τ l=>simp only[GR,En,kx,DA e,Q5]
   |row e sz v l=>exact⟨v,rfl⟩
   |map m=>rfl
   |it _ _=>rfl,hs.apart,hs.fresh,fun i b hi=>(hs.owns i b hi).2⟩
 have hX:=hc.2 (kx E θ nx H w).U w (xs.map a.eval++cs) (fun k hk=>hs.Ult k (sub.U k hk)) (hs.tab.mono (fun k _ hk=>sub.U k hk) fun _ _ _=>rfl) (by simp only[List.length_append,←hL,Q5,List.length_map,hl,pz]) fun j av v hj hv=>by
  have hLl:L.length=xs.length:=by rw[←hL,Q5,List.length_map,hl]
  rw[List.getElem?_append]at hj hv
  have e1:(xs.map a.eval).length=L.length:=by simp[hLl]
  rw[e1]at hv
  split at hj
  ·rename_i nN
   rw[if_pos nN]at hv
   have uU:=U4 ni av (List.mem_of_getElem? hj)
   rw[←hL,Q5,List.getElem?_map,Option.map_eq_some_iff]at hj
   obtain⟨a0,ha0,rfl⟩:=hj
   have h1:=JZ sub (hr j a0 v ha0 hv) (.inl (Nat.le_refl _))
   have h2:I9 (kx E θ nx hp w).hp (kx E θ nx H w).hp a0=I9 hp (DT is hp) a0:=Ja (h:=hp) (h1:=h') (h2:=H) e a0
   rw[h2]at h1
   exact uU.im h1
  ·rename_i nN
   rw[if_neg nN]at hv
   exact sub.im (ov _ av v hj hv)
 rw[←List.append_toArray]at hX
 refine Calls.mono hX ?_
 rintro e w' ⟨v,rfl,hv,hb⟩
 exact⟨v,rfl,hk v w' hb (.im (gX hv oY))⟩
structure G6(p A:Prop):Prop where
 h:p
 k:A
structure Q3{α:Type}(l:List α)(i:Int)(F:α→Prop):Prop where
 h0:0≤i
 h:i<l.length
 k:∀el,l[i.toNat]?=some el→F el
structure jx(a:AV)(F:AV→Prop):Prop where
 h:F a
theorem Rx{a b:AV}{F:AV→Prop}(e:a=b)(h:F b):jx a F:=⟨e▸h⟩
structure PM{α:Type}(l:List α)(F:Nat→Prop):Prop where
 k:F l.length
structure Cb(b:Bool)(A B:Prop):Prop where
 t:b=true→A
 f:b=false→B
structure Ry(P:Program)(f:Nat)(args:List AV)(F:AV→Prop):Prop where
 h:∃r,A3 P f args r∧F r
structure lw(P:Program)(f:Nat)(hp:Hp)(l caps:List AV)(F:AV→Prop):Prop where
 h:∃(is:List Nat) (L:List AV) (r:AV),Cy hp (DT is hp) l=L∧I8 L=true∧A3 P f (L++caps) r∧GT r=true∧F r
structure MQ(P:Program)(T:Nat)(F:Bool→Nat→Prop):Prop where
 h:∃ag sz,G7 P T ag sz∧F ag sz
structure Xo(P:Program)(T:Nat)(F:List AV→Prop):Prop where
 h:∃l,H8 P T l∧F (l.map l5)
structure PN(P:Program)(S f:Nat)(F:Nat→Nat→Prop):Prop where
 h:∃off sz,D8 P S f off sz∧F off sz
structure JI(P:Program)(T:Nat)(F:Nat→Nat→Prop):Prop where
 h:∃e sz,L5 P T e sz∧F e sz
structure cm(P:Program)(T:Nat)(F:Nat→Nat→Prop):Prop where
 h:∃len e sz,MM P T len e sz∧F len sz
structure fx(P:Program)(T:Nat)(A:Prop):Prop where
 [h:Zl P T]
 k:A
structure EQ(P:Program)(T:Nat)(A:Prop):Prop where
 h:o4 P T
 k:A
structure HT(P:Program)(T:Nat)(A:Prop):Prop where
 h:Fh P T
 k:A
structure Nc(P:Program)(T:Nat)(k1 k2:IntKind)(A:Prop):Prop where
 h:Hu P T k1 k2
 k:A
structure IC(P:Program)(T:Nat)(k:IntKind)(A:Prop):Prop where
 h:Fb P T k
 k:A
structure Nd(P:Program)(T:Nat)(k1 k2 k3:IntKind)(A:Prop):Prop where
 h:Ki P T k1 k2 k3
 k:A
structure Nf(P:Program)(T:Nat)(A:Prop):Prop where
 h:Ht P T
 k:A
structure Jb(P:Program)(T:Nat)(F:List AV→List (Nat×Nat)→Prop):Prop where
 h:∃zs pl,H8 P T zs∧K9 P T pl∧F (zs.map l5) pl
structure Fs(P:Program)(T:Nat)(F:Nat→Nat→Nat→List AV→Prop):Prop where
 h:∃e sz bs z,L5 P T e sz∧H8 P e z∧M6 P e bs∧z.length=sz∧F e sz bs (z.map l5)
structure Xp(P:Program)(T:Nat)(F:TypeDesc→AV→Prop):Prop where
 h:∃k e t z,FB P T k e t z∧F t (l5 z)
inductive Ng (P:Program) (S T:Nat):AV→AV→Prop
 |bytes {e sz:Nat} (l:List UInt8) [o4 P S] [L5 P T e sz] [S8 P e .u8] (h:l.length≤9223372036854775807):Ng P S T (.str l) (.sl 1 (l.map fun b=>[.v (.int .u8 b.toNat)]))
 |back {e sz:Nat} (l:List UInt8) [L5 P S e sz] [S8 P e .u8] [o4 P T]:Ng P S T (.sl 1 (l.map fun b=>[.v (.int .u8 b.toNat)])) (.str l)
 |int {k k':IntKind} (m:Int) [S8 P T k] [S8 P S k']:Ng P S T (.v (.int k' m)) (.v (.int k (k.wrap m)))
 |rune {k:IntKind} (m:Int) [S8 P S k] [o4 P T]:Ng P S T (.v (.int k m)) (.str (Utf8.encode m).data.toList)
structure Bu(P:Program)(S T:Nat)(a:AV)(F:AV→Prop):Prop where
 h:∃r,Ng P S T a r∧F r
theorem J0{p A:Prop}(h:p)(k:A):G6 p A:=⟨h,k⟩
theorem Bc{α β:Type}{l:List β}{f:β→α}{k:Nat}{F:α→Prop}(h:k<l.length)(kk:∀x,l[k]?=some x→F (f x)):Q3 (l.map f) (k:Int) F :=
 ⟨by omega,by simpa using h,fun el nJ=>by
  simp at nJ
  obtain⟨u,hu,rfl⟩:=nJ
  exact kk u hu⟩
theorem w6{α β:Type}{l:List β}{f:β→α}{i:Int}{F:α→Prop}(h0:0≤i)(h:i<l.length)(kk:∀x,l[i.toNat]?=some x→F (f x)):Q3 (l.map f) i F :=
 ⟨h0,by simpa using h,fun el nJ=>by
  simp at nJ
  obtain⟨u,hu,rfl⟩:=nJ
  exact kk u hu⟩
theorem aC{α:Type}{l:List α}{i:Int}{F:α→Prop}(h0:0≤i)(h:i<l.length)(kk:∀x,l[i.toNat]?=some x→F x):Q3 l i F:=⟨h0,h,kk⟩
theorem FF{α:Type}{l:List α}{i:Int}{x:α}{F:α→Prop}(h:l[i.toNat]?=some x)(h0:0≤i)(kk:F x):Q3 l i F:=by
 have h1:=(List.getElem?_eq_some_iff.1 h).1
 exact⟨h0,by omega,fun el nJ=>by rw[h]at nJ;cases nJ;exact kk⟩
theorem A2{α β:Type}{l:List β}{f:β→α}{i:Int}{x:β}{F:α→Prop}(h:l[i.toNat]?=some x)(h0:0≤i)(kk:F (f x)):Q3 (l.map f) i F :=
 FF (by simp[h]) h0 kk
theorem gY{α:Type}{l:List α}{i:Int}{x:α}{F:α→Prop}(h:l[i.toNat]?=some x)(h0:decide (0≤i)=true)(kk:F x):Q3 l i F:=by
 have h1:=(List.getElem?_eq_some_iff.1 h).1
 have h2:=of_decide_eq_true h0
 exact⟨h2,by omega,fun el nJ=>by rw[h]at nJ;cases nJ;exact kk⟩
theorem gZ{α β:Type}{l:List β}{f:β→α}{F:Nat→Prop}(k:F l.length):PM (l.map f) F:=⟨by rw[List.length_map];exact k⟩
theorem ly{α:Type}{l:List α}{F:Nat→Prop}(k:F l.length):PM l F:=⟨k⟩
theorem jy{A B:Prop}(k:A):Cb true A B:=⟨fun _=>k,fun h=>by cases h⟩
theorem jz{A B:Prop}(k:B):Cb false A B:=⟨(fun h=>by cases h),fun _=>k⟩
theorem kA{p A B:Prop}[Decidable p](h1:p→A)(h2:¬p→B):Cb (decide p) A B:=⟨fun h=>h1 (of_decide_eq_true h),fun h=>h2 (of_decide_eq_false h)⟩
theorem ga{p A B:Prop}[Decidable p](h1:¬p→A)(h2:p→B):Cb (!decide p) A B:=⟨fun h=>h1 (by simpa using h),fun h=>h2 (by simpa using h)⟩
theorem kB{b:Bool}{A B:Prop}(h1:b=true→A)(h2:b=false→B):Cb b A B:=⟨h1,h2⟩
theorem gb{b:Bool}{A B:Prop}(h1:b=false→A)(h2:b=true→B):Cb (!b) A B:=⟨(fun h=>h1 (by simpa using h)),fun h=>h2 (by simpa using h)⟩
theorem A0{P:Program}{f:Nat}{args:List AV}{r:AV}{F:AV→Prop}(h:A3 P f args r)(k:F r):Ry P f args F:=⟨⟨r,h,k⟩⟩
theorem lz{P:Program}{T:Nat}{ag:Bool}{sz:Nat}{F:Bool→Nat→Prop}[h:G7 P T ag sz](k:F ag sz):MQ P T F:=⟨⟨ag,sz,h,k⟩⟩
theorem kC{P:Program}{T:Nat}{l:List Value}{F:List AV→Prop}[h:H8 P T l](k:F (l.map l5)):Xo P T F:=⟨⟨l,h,k⟩⟩
theorem mA{P:Program}{S f off sz:Nat}{F:Nat→Nat→Prop}[h:D8 P S f off sz](k:F off sz):PN P S f F:=⟨⟨off,sz,h,k⟩⟩
theorem mc{P:Program}{T e sz:Nat}{F:Nat→Nat→Prop}[h:L5 P T e sz](k:F e sz):JI P T F:=⟨⟨e,sz,h,k⟩⟩
theorem mB{P:Program}{T len e sz:Nat}{F:Nat→Nat→Prop}[h:MM P T len e sz](k:F len sz):cm P T F:=⟨⟨len,e,sz,h,k⟩⟩
theorem me{P:Program}{T:Nat}{A:Prop}[h:Zl P T](k:A):fx P T A:=⟨k⟩
theorem kD{P:Program}{T:Nat}{A:Prop}[h:o4 P T](k:A):EQ P T A:=⟨h,k⟩
theorem gf{P:Program}{T:Nat}{A:Prop}[h:Fh P T](k:A):HT P T A:=⟨h,k⟩
theorem mC{P:Program}{T:Nat}{k:IntKind}{A:Prop}[h:Fb P T k](kk:A):IC P T k A:=⟨h,kk⟩
theorem gg{P:Program}{T:Nat}{k1 k2 k3:IntKind}{A:Prop}[h:Ki P T k1 k2 k3](k:A):Nd P T k1 k2 k3 A:=⟨h,k⟩
theorem gh{P:Program}{T:Nat}{k1 k2:IntKind}{A:Prop}[h:Hu P T k1 k2](k:A):Nc P T k1 k2 A:=⟨h,k⟩
theorem gj{P:Program}{T:Nat}{A:Prop}[h:Ht P T](k:A):Nf P T A:=⟨h,k⟩
theorem gk{P:Program}{T:Nat}{zs:List Value}{pl:List (Nat×Nat)}{F:List AV→List (Nat×Nat)→Prop}[h:H8 P T zs][h2:K9 P T pl](k:F (zs.map l5) pl):Jb P T F:=⟨⟨zs,pl,h,h2,k⟩⟩
theorem mD{P:Program}{T e sz bs:Nat}{z:List Value}{F:Nat→Nat→Nat→List AV→Prop}[h:L5 P T e sz][h2:H8 P e z][h3:M6 P e bs](hz:z.length=sz)(k:F e sz bs (z.map l5)):Fs P T F:=⟨⟨e,sz,bs,z,h,h2,h3,hz,k⟩⟩
theorem mE{P:Program}{T k e:Nat}{t:TypeDesc}{z:Value}{F:TypeDesc→AV→Prop}[h:FB P T k e t z](kk:F t (l5 z)):Xp P T F:=⟨⟨k,e,t,z,h,kk⟩⟩
theorem Xq{P:Program}{S T e sz:Nat}{l:List UInt8}{F:AV→Prop}[o4 P S][L5 P T e sz][S8 P e .u8](h:l.length≤9223372036854775807)(k:F (.sl 1 (l.map fun b=>[.v (.int .u8 b.toNat)]))):Bu P S T (.str l) F:=⟨⟨_,.bytes (e:=e) (sz:=sz) l h,k⟩⟩
theorem aD{P:Program}{S T e sz:Nat}{l:List UInt8}{F:AV→Prop}[L5 P S e sz][S8 P e .u8][o4 P T](k:F (.str l)):Bu P S T (.sl 1 (l.map fun b=>[.v (.int .u8 b.toNat)])) F:=⟨_,.back (e:=e) (sz:=sz) l,k⟩
theorem gl{P:Program}{S T:Nat}{k k':IntKind}{m:Int}{F:AV→Prop}[S8 P T k][S8 P S k'](h:k.wrap m=m)(kk:F (.v (.int k m))):Bu P S T (.v (.int k' m)) F:=⟨⟨_,.int (k:=k) m,by rw[h];exact kk⟩⟩
theorem cn{P:Program}{S T:Nat}{k k':IntKind}{m:Int}{F:AV→Prop}[S8 P T k][S8 P S k'](kk:F (.v (.int k (k.wrap m)))):Bu P S T (.v (.int k' m)) F:=⟨⟨_,.int (k:=k) m,kk⟩⟩
theorem aE{P:Program}{S T:Nat}{k:IntKind}{m:Int}{F:AV→Prop}[S8 P S k][o4 P T](kk:F (.str (Utf8.encode m).data.toList)):Bu P S T (.v (.int k m)) F:=⟨⟨_,.rune (k:=k) m,kk⟩⟩
theorem cond_false{c:Bool}{A:Prop}(h:cond c A False):c=true∧A:=by
 cases c
 ·exact h.elim
 ·exact⟨rfl,h⟩
def Xr:Value→Bool
 |.agg _|.tuple _=>false
 |_=>true
theorem Jc{v:Value}(h:Xr v=true):v.oneCell'=true:=by cases v<;>first|rfl|cases h
def Sq(hp:Hp)(a:AV)(A:Prop):Prop :=
 match a with
 |.v x=>cond (Xr x) A False
 |.str _|.sl _ _|.iptr _|.ref _ _|.mp _|.fn _ _|.fo _ _=>A
 |.row i ver _=>match A5 hp i with
  |some (.row _ _ v' _)=>G6 (ver=v') A
  |_=>False
 |_=>False
theorem Jd{hp:Hp}{a:AV}{A:Prop}(h:Sq hp a A):One hp a∧A:=by
 unfold Sq at h
 split at h
 ·rename_i x
  obtain⟨h1,h2⟩:=cond_false h
  exact⟨One.v (Jc h1),h2⟩
 ·exact⟨.str _,h⟩
 ·exact⟨.sl _ _,h⟩
 ·exact⟨.iptr _,h⟩
 ·exact⟨.ref _ _,h⟩
 ·exact⟨.mp _,h⟩
 ·exact⟨.fn _ _,h⟩
 ·exact⟨.fo _ _,h⟩
 ·split at h
  ·rename_i hl
   obtain⟨rfl,h⟩:=h
   exact⟨.row hl,h⟩
  ·exact h.elim
 ·exact h.elim
def Xs(hp:Hp):List AV→Prop→Prop
 |[],A=>A
 |x::r,A=>Sq hp x (Xs hp r A)
theorem Nh{hp:Hp}:∀{l:List AV} {A:Prop},Xs hp l A→Fm hp l∧A
 |[],A,h=>⟨trivial,h⟩
 |x::r,A,h=>by
  obtain⟨h1,h2⟩:=Jd h
  obtain⟨h3,h4⟩:=Nh h2
  exact⟨⟨h1,h3⟩,h4⟩
def Sr(hp:Hp)(a:AV)(A:Prop):Prop :=
 match a with
 |.agg _=>A
 |a=>Sq hp a A
theorem Je{hp:Hp}{a:AV}{A:Prop}(h:Sr hp a A):Fits hp a∧A:=by
 unfold Sr at h
 split at h
 ·exact⟨trivial,h⟩
 ·rename_i hn
  obtain⟨h1,h2⟩:=Jd h
  refine⟨?_,h2⟩
  cases a<;>first|exact h1|exact trivial
def Ee(hp:Hp):List (Nat×AV)→Prop→Prop
 |[],A=>A
 |(_,a)::r,A=>Sr hp a (Ee hp r A)
theorem w7{hp:Hp}:∀{l:List (Nat×AV)} {A:Prop},Ee hp l A→EO hp l∧A
 |[],A,h=>⟨trivial,h⟩
 |(_,x)::r,A,h=>by
  obtain⟨h1,h2⟩:=Je h
  obtain⟨h3,h4⟩:=w7 h2
  exact⟨⟨h1,h3⟩,h4⟩
def kE(a:AV)(A:Prop):Prop :=
 match a with
 |.v x=>cond (Xr x) A False
 |.str _|.sl _ _|.iptr _|.fn _ _=>A
 |_=>False
theorem co{a:AV}{A:Prop}(h:kE a A):j3 a∧A:=by
 unfold kE at h
 split at h
 ·obtain⟨h1,h2⟩:=cond_false h
  exact⟨Jc h1,h2⟩
 ·exact⟨trivial,h⟩
 ·exact⟨trivial,h⟩
 ·exact⟨trivial,h⟩
 ·exact⟨trivial,h⟩
 ·exact h.elim
def cq:List AV→Prop→Prop
 |[],A=>A
 |x::r,A=>kE x (cq r A)
def Ni:List (List AV)→Prop→Prop
 |[],A=>A
 |x::r,A=>cq x (Ni r A)
theorem QT:∀{l:List AV} {A:Prop},cq l A→(∀u∈l,j3 u)∧A
 |[],A,h=>⟨fun u hu=>by (cases hu),h⟩
 |x::r,A,h=>by
  obtain⟨h1,h2⟩:=co h
  obtain⟨h3,h4⟩:=QT h2
  refine⟨fun u hu=>?_,h4⟩
  rcases List.mem_cons.1 hu with rfl|hu
  ·exact h1
  ·exact h3 u hu
theorem FG:∀{l:List (List AV)} {A:Prop},Ni l A→Ch l∧A
 |[],A,h=>⟨trivial,h⟩
 |x::r,A,h=>by
  obtain⟨h1,h2⟩:=QT h
  obtain⟨h3,h4⟩:=FG h2
  exact⟨⟨h1,h3⟩,h4⟩
def Y7(x:Option AV)(F:AV→Prop):Prop :=
 match x with
 |some a=>F a
 |none=>False
theorem J7{x:Option AV}{F:AV→Prop}(h:Y7 x F):∃a,x=some a∧F a:=by
 unfold Y7 at h
 split at h
 ·exact⟨_,rfl,h⟩
 ·exact h.elim
def Ss(op:BinOp)(k:IntKind)(a b:Int)(F:AV→Prop):Prop :=
 match op,k with
 |.add,.i64=>G6 (-9223372036854775808≤a+b∧a+b≤9223372036854775807) (F (.v (.int .i64 (a+b))))
 |.sub,.i64=>G6 (-9223372036854775808≤a-b∧a-b≤9223372036854775807) (F (.v (.int .i64 (a-b))))
 |.mul,.i64=>G6 (-9223372036854775808≤a*b∧a*b≤9223372036854775807) (F (.v (.int .i64 (a*b))))
 |.quo,.i64=>G6 (b≠0∧-9223372036854775808≤a.tdiv b∧a.tdiv b≤9223372036854775807) (F (.v (.int .i64 (a.tdiv b))))
 |.quo,k=>G6 (b≠0) (F (.v (.int k (k.wrap (a.tdiv b)))))
 |.rem,k=>G6 (b≠0) (F (.v (.int k (a.tmod b))))
 |op,k=>match DN op k a b with
  |some r=>F (.v r)
  |none=>False
def cr(op:BinOp)(a b:List UInt8)(F:AV→Prop):Prop :=
 match op with
 |.add=>G6 (a.length+b.length≤9223372036854775807) (F (.str (a++b)))
 |op=>match Xg op a b with
  |some r=>F (.v r)
  |none=>False
def Xt(P:Program)(T:Nat)(op:BinOp)(a b:Bool)(F:AV→Prop):Prop :=
 match op with
 |.eql=>Nf P T (F (.v (.bool (decide (a=b)))))
 |.neq=>Nf P T (F (.v (.bool (decide (a≠b)))))
 |_=>False
def P4(P:Program)(T:Nat)(op:BinOp)(l m:List AV)(F:AV→Prop):Prop :=
 match op,l,m with
 |.eql,[.v (.int k1 a1),.v (.int k2 a2)],[.v (.int k3 b1),.v (.int k4 b2)]=>cond (decide (k1=k3∧k2=k4)) (Nc P T k1 k2 (F (.v (.bool (decide (a1=b1∧a2=b2)))))) False
 |.neq,[.v (.int k1 a1),.v (.int k2 a2)],[.v (.int k3 b1),.v (.int k4 b2)]=>cond (decide (k1=k3∧k2=k4)) (Nc P T k1 k2 (F (.v (.bool (!decide (a1=b1∧a2=b2)))))) False
 |.eql,[.v (.int k1 a1),.v (.int k2 a2),.v (.int k3 a3)],[.v (.int l1 b1),.v (.int l2 b2),.v (.int l3 b3)]=>cond (decide (k1=l1∧k2=l2∧k3=l3)) (Nd P T k1 k2 k3 (F (.v (.bool (decide (a1=b1∧a2=b2∧a3=b3)))))) False
 |.neq,[.v (.int k1 a1),.v (.int k2 a2),.v (.int k3 a3)],[.v (.int l1 b1),.v (.int l2 b2),.v (.int l3 b3)]=>cond (decide (k1=l1∧k2=l2∧k3=l3)) (Nd P T k1 k2 k3 (F (.v (.bool (!decide (a1=b1∧a2=b2∧a3=b3)))))) False
 |.eql,[.str a1,.v (.int k2 a2)],[.str b1,.v (.int k4 b2)]=>cond (decide (k2=k4)) (IC P T k2 (F (.v (.bool (decide (a1=b1∧a2=b2)))))) False
 |.neq,[.str a1,.v (.int k2 a2)],[.str b1,.v (.int k4 b2)]=>cond (decide (k2=k4)) (IC P T k2 (F (.v (.bool (!decide (a1=b1∧a2=b2)))))) False
 |_,_,_=>False
def Nj:Operand→Bool
 |.const .nilIface=>true
 |_=>false
def Su(P:Program)(T:Nat)(op:BinOp)(x:Option AV)(F:AV→Prop):Prop :=
 match op,x with
 |.eql,some .err=>HT P T (F (.v (.bool false)))
 |.neq,some .err=>HT P T (F (.v (.bool true)))
 |.eql,some (.v .nilIface)=>HT P T (F (.v (.bool true)))
 |.neq,some (.v .nilIface)=>HT P T (F (.v (.bool false)))
 |_,_=>False
def Sv(P:Program)(T:Nat)(op:BinOp)(x y:Option AV)(F:AV→Prop):Prop :=
 match op,x,y with
 |.shl,some (.v (.int k a)),some (.v (.int _ b))=>G6 (0≤b) (F (.v (.int k (k.wrap (a*2 ^ (min b.toNat k.bits))))))
 |.shr,some (.v (.int k a)),some (.v (.int _ b))=>G6 (0≤b) (F (.v (.int k (a.fdiv (2 ^ (min b.toNat k.bits))))))
 |op,some (.v (.int k a)),some (.v (.int k' b))=>cond (decide (k=k')) (Ss op k a b F) False
 |op,some (.str s),some (.str t)=>cr op s t F
 |op,some (.v (.bool a)),some (.v (.bool b))=>Xt P T op a b F
 |op,some (.agg l),some (.agg m)=>P4 P T op l m F
 |_,_,_=>False
def Nk(P:Program)(T:Nat)(hp:Hp)(x:Option AV)(F:AV→Prop):Prop :=
 match x with
 |some (.ref i off)=>match A5 hp i with
  |some (.bx τ l)=>MQ P T fun ag sz=>cond ag
    (cond (Nat.beq off 0 && Nat.beq l.length sz) (F (.agg l)) (G6 (((l.drop off).take sz).length=sz) (F (.agg ((l.drop off).take sz)))))
    (Y7 (l[off]?) F)
  |_=>False
 |some (.iptr l)=>MQ P T fun ag sz=>cond ag
   (cond (Nat.beq l.length sz) (F (.agg l)) (G6 ((l.take sz).length=sz) (F (.agg (l.take sz)))))
   (match l with|av::_=>F av|[]=>False)
 |some (.elt i ver k off)=>match A5 hp i with
  |some (.row _ sz oC l)=>G6 (ver=oC) (Q3 l (k:Int) fun el=>MQ P T fun ag szT=>cond ag
    (cond (Nat.beq off 0 && Nat.beq szT sz) (F (.agg el)) False) (Y7 (el[off]?) F))
  |_=>False
 |_=>False
def Sw(hp:Hp)(off:Nat)(x:Option AV)(F:AV→Prop):Prop :=
 match x with
 |some (.ref i o)=>F (.ref i (o+off))
 |some (.iptr l)=>F (.iptr (l.drop off))
 |some (.elt i ver k o)=>match A5 hp i with
  |some (.row _ _ oC _)=>G6 (ver=oC) (F (.elt i ver k (o+off)))
  |_=>False
 |_=>False
def Jf(P:Program)(T:Nat)(hp:Hp)(x y:Option AV)(F:AV→Prop):Prop :=
 match x,y with
 |some (.sl sz l),some (.v (.int _ i))=>JI P T fun _ nQ=>cond (Nat.beq sz nQ) (Q3 l i fun el=>F (.iptr el)) False
 |some (.row r ver len),some (.v (.int _ i))=>match A5 hp r with
  |some (.row _ sz oC _)=>G6 (ver=oC) (JI P T fun _ nQ=>cond (Nat.beq sz nQ) (G6 (0≤i∧i<len) (F (.elt r ver i.toNat 0))) False)
  |_=>False
 |some (.ref r o),some (.v (.int _ i))=>cm P T fun len sz=>G6 (0≤i∧i<len) (F (.ref r (o+i.toNat*sz)))
 |_,_=>False
def ct(hp:Hp)(x:Option AV)(F:AV→Prop):Prop :=
 match x with
 |some (.ref i o)=>F (.ref i o)
 |some (.iptr l)=>F (.iptr l)
 |some (.elt i ver k o)=>match A5 hp i with
  |some (.row _ _ oC _)=>G6 (ver=oC) (F (.elt i ver k o))
  |_=>False
 |_=>False
def ID(P:Program)(T:Nat)(hp:Hp)(x:Option AV)(F:AV→Prop):Prop :=
 match x with
 |some (.sl _ l)=>JI P T fun _ _=>PM l fun m=>F (.i m)
 |some (.str s)=>EQ P T (F (.i s.length))
 |some (.row r ver len)=>match A5 hp r with
  |some (.row _ _ oC _)=>G6 (ver=oC) (JI P T fun _ _=>F (.i len))
  |_=>False
 |some (.v (.slice none 0 0))=>JI P T fun _ _=>F (.i 0)
 |_=>False
def Rz(P:Program)(f:Nat)(hp:Hp)(l caps:List AV)(F:AV→Prop):Prop:=cond (I8 l) (Ry P f (l++caps) F) (lw P f hp l caps F)
def Nl(P:Program)(T:Nat)(ev:Operand→Option AV)(x:Option AV)(lo hi:Option Operand)(F:AV→Prop):Prop :=
 match x with
 |some (.str s)=>EQ P T (match BP ev 0 lo,BP ev s.length hi with
  |some l,some h=>G6 (0≤l∧l≤h∧h≤s.length) (F (.str ((s.take h.toNat).drop l.toNat)))
  |_,_=>False)
 |some (.sl sz s)=>JI P T fun _ nQ=>cond (Nat.beq sz nQ) (match BP ev 0 lo,BP ev s.length hi with
  |some l,some h=>G6 (0≤l∧l≤h∧h≤s.length) (F (.sl sz ((s.take h.toNat).drop l.toNat)))
  |_,_=>False) False
 |_=>False
def PO(P:Program)(T:Nat)(hp:Hp)(ok:Bool)(x y:Option AV)(F:AV→Prop):Prop :=
 match x,y with
 |some (.mp i),some sI=>match A5 hp i,keyOf sI with
  |some (.map m),some k=>Xp P T fun t z=>cond (EP t k) (G6 (AD t m) (cond ok (jx (.tup [Ae m k z,.b (w5 m k).isSome]) F) (jx (Ae m k z) F))) False
  |_,_=>False
 |_,_=>False
def GU(P:Program)(op:Op)(ev:Operand→Option AV)(hp:Hp)(F:AV→Prop):Prop :=
 match op with
 |.move x=>Y7 (ev x) F
 |.assign x=>Y7 (ev x) F
 |.pick c a b=>match ev c with
  |some (.v (.bool t))=>Cb t (Y7 (ev a) F) (Y7 (ev b) F)
  |_=>False
 |.binOp op T x y _=>cond (Nj y) (Su P T op (ev x) F) (Sv P T op (ev x) (ev y) F)
 |.unOp .not _ x=>match ev x with
  |some (.v (.bool b))=>F (.v (.bool (!b)))
  |_=>False
 |.unOp .neg _ x=>match ev x with
  |some (.v (.int .i64 a))=>G6 (-9223372036854775807≤a∧a≤9223372036854775807) (F (.v (.int .i64 (-a))))
  |_=>False
 |.load T x=>Nk P T hp (ev x) F
 |.fieldAddr S x f=>PN P S f fun off sz=>cond (Nat.blt 0 sz) (Sw hp off (ev x) F) False
 |.indexAddr T x y=>Jf P T hp (ev x) (ev y) F
 |.index T x y=>match ev x,ev y with
  |some (.str s),some (.v (.int _ i))=>EQ P T (Q3 s i fun b=>F (.v (.int .u8 b.toNat)))
  |_,_=>False
 |.nilCheck x=>ct hp (ev x) F
 |.convert S T x=>Y7 (ev x) fun a=>Bu P S T a F
 |.call ⟨.builtin .len,⟨[x]⟩,⟨[T]⟩⟩=>ID P T hp (ev x) F
 |.call ⟨.builtin .min,⟨[x,y]⟩,⟨[_,_]⟩⟩=>match ev x,ev y with
  |some (.v (.int k a)),some (.v (.int k' b))=>cond (decide (k=k')) (F (.v (.int k (min a b)))) False
  |_,_=>False
 |.call ⟨.builtin .max,⟨[x,y]⟩,⟨[_,_]⟩⟩=>match ev x,ev y with
  |some (.v (.int k a)),some (.v (.int k' b))=>cond (decide (k=k')) (F (.v (.int k (max a b)))) False
  |_,_=>False
 |.call ⟨.value (.func f),⟨args⟩,_⟩=>match r9 ev args with
  |some l=>Rz P f hp l [] F
  |none=>False
 |.call ⟨.value (.tmp t),⟨args⟩,_⟩=>match ev (.tmp t),r9 ev args with
  |some (.fn f caps),some l=>Rz P f hp l caps F
  |_,_=>False
 |.build T ⟨parts⟩=>match CM ev parts with
  |some ps=>Jb P T fun zs pl=>Ee hp ps (Y7 ((Ca pl zs ps).map AV.agg) F)
  |none=>False
 |.buildSlice T len ⟨parts⟩=>match CM ev parts with
  |some ps=>Fs P T fun _ sz _ _=>cond (DO 0 ps && AC sz (L6 ps) && Nat.beq ps.length len && Nat.blt 0 sz) (G6 (len*sz≤16777216) (Ee hp ps (Ni (L6 ps) (F (.sl sz (L6 ps)))))) False
  |none=>False
 |.lookup T x y ok=>PO P T hp ok (ev x) (ev y) F
 |.slice T x lo hi none=>Nl P T ev (ev x) lo hi F
 |.extract x k=>match ev x with
  |some (.tup l)=>Y7 (l[k]?) F
  |_=>False
 |.makeFunc (.func f) ⟨[]⟩ ⟨xs⟩=>match r9 ev xs with
  |some caps=>cond (I8 caps) (F (.fn f caps)) False
  |none=>False
 |_=>False
section sound
variable {P:Program} {E:Env} {nx:Nat} {hp:Hp} {ev:Operand→Option AV} {ty:TypeId} {x y:Operand} {F:AV→Prop} {T T2:TypeId}
theorem kF{op:BinOp}(h:Sv P T op (ev x) (ev y) F):∃av,G8 P E nx hp ev (.binOp op T x y T2) ty av∧F av:=by
 unfold Sv at h
 split at h
 ·rename_i hx hy;exact⟨_,fu hx hy h.h,h.k⟩
 ·rename_i hx hy;exact⟨_,fv hx hy h.h,h.k⟩
 ·rename_i hx hy
  obtain⟨hk,hq⟩:=cond_false h
  clear h
  have hk:=of_decide_eq_true hk
  subst hk
  unfold Ss at hq
  split at hq
  ·exact⟨_,Ed hx hy (by simp only[DN,Q2 hq.h]),hq.k⟩
  ·exact⟨_,Ed hx hy (by simp only[DN,Q2 hq.h]),hq.k⟩
  ·exact⟨_,Ed hx hy (by simp only[DN,Q2 hq.h]),hq.k⟩
  ·have oy:=Rv (P:=P) (E:=E) (nx:=nx) (hp:=hp) (ty:=ty) (T:=T) (T2:=T2) hx hy hq.h.1
   rw[Q2 hq.h.2]at oy
   exact⟨_,oy,hq.k⟩
  ·exact⟨_,Rv hx hy hq.h,hq.k⟩
  ·exact⟨_,ft hx hy hq.h,hq.k⟩
  ·split at hq
   ·rename_i hr;exact⟨_,Ed hx hy hr,hq⟩
   ·exact hq.elim
 ·rename_i s t hx hy
  unfold cr at h
  split at h
  ·exact⟨_,Zq hx hy h.h,h.k⟩
  ·split at h
   ·rename_i hr;exact⟨_,Zp hx hy hr,h⟩
   ·exact h.elim
 ·rename_i a b hx hy
  unfold Xt at h
  split at h
  ·have:=h.h;exact⟨_,Rw (T:=T) false hx hy,h.k⟩
  ·have:=h.h;exact⟨_,Rw (T:=T) true hx hy,h.k⟩
  ·exact h.elim
 ·rename_i l m hx hy
  unfold P4 at h
  split at h
  ·obtain⟨hk,hq⟩:=cond_false h
   obtain⟨rfl,rfl⟩:=of_decide_eq_true hk
   have:=hq.h;exact⟨_,Hw (T:=T) false hx hy,hq.k⟩
  ·obtain⟨hk,hq⟩:=cond_false h
   obtain⟨rfl,rfl⟩:=of_decide_eq_true hk
   have:=hq.h;exact⟨_,Hw (T:=T) true hx hy,hq.k⟩
  ·obtain⟨hk,hq⟩:=cond_false h
   obtain⟨rfl,rfl,rfl⟩:=of_decide_eq_true hk
   have:=hq.h;exact⟨_,Hy (T:=T) false hx hy,hq.k⟩
  ·obtain⟨hk,hq⟩:=cond_false h
   obtain⟨rfl,rfl,rfl⟩:=of_decide_eq_true hk
   have:=hq.h;exact⟨_,Hy (T:=T) true hx hy,hq.k⟩
  ·obtain⟨hk,hq⟩:=cond_false h
   obtain rfl:=of_decide_eq_true hk
   have:=hq.h;exact⟨_,NS (T:=T) false hx hy,hq.k⟩
  ·obtain⟨hk,hq⟩:=cond_false h
   obtain rfl:=of_decide_eq_true hk
   have:=hq.h;exact⟨_,NS (T:=T) true hx hy,hq.k⟩
  ·exact h.elim
 ·exact h.elim
theorem cu{op:BinOp}(hy:Nj y=true)(h:Su P T op (ev x) F):∃av,G8 P E nx hp ev (.binOp op T x y T2) ty av∧F av:=by
 obtain rfl:y=.const .nilIface:=by
  unfold Nj at hy
  split at hy
  ·rfl
  ·cases hy
 unfold Su at h
 split at h
 ·rename_i hx;have:=h.h;exact⟨_,SY (T:=T) false hx,h.k⟩
 ·rename_i hx;have:=h.h;exact⟨_,SY (T:=T) true hx,h.k⟩
 ·rename_i hx;have:=h.h;exact⟨_,SZ (T:=T) false hx,h.k⟩
 ·rename_i hx;have:=h.h;exact⟨_,SZ (T:=T) true hx,h.k⟩
 ·exact h.elim
theorem gn(h:Nk P T hp (ev x) F):∃av,G8 P E nx hp ev (.load T x) ty av∧F av:=by
 unfold Nk at h
 split at h
 ·rename_i i off hx
  split at h
  ·rename_i l hb
   obtain⟨⟨ag,sz,tv,h⟩⟩:=h
   cases ag with
   |true =>
    change cond (Nat.beq off 0 && Nat.beq l.length sz) _ _ at h
    cases hc:(Nat.beq off 0 && Nat.beq l.length sz)with
    |true =>
     rw[hc]at h
     simp only[Bool.and_eq_true,Nat.beq_eq]at hc
     obtain⟨rfl,hs⟩:=hc
     exact⟨_,Xi (sz:=sz) hx hb hs,h⟩
    |false =>
     rw[hc]at h
     exact⟨_,HS (sz:=sz) hx hb rfl h.h,h.k⟩
   |false =>
    obtain⟨av,hl,h⟩:=J7 h
    exact⟨_,Xh (sz:=sz) hx hb hl,h⟩
  ·exact h.elim
 ·rename_i l hx
  obtain⟨⟨ag,sz,tv,h⟩⟩:=h
  cases ag with
  |true =>
   change cond (Nat.beq l.length sz) _ _ at h
   cases hc:Nat.beq l.length sz with
   |true =>
    rw[hc]at h
    exact⟨_,BO (sz:=sz) hx (by rw[←Nat.eq_of_beq_eq_true hc,List.take_length]) (Nat.eq_of_beq_eq_true hc),h⟩
   |false =>
    rw[hc]at h
    exact⟨_,BO (sz:=sz) hx rfl h.h,h.k⟩
  |false =>
   cases l with
   |nil=>exact h.elim
   |cons av r=>exact⟨_,LP (sz:=sz) hx,h⟩
 ·rename_i i ver k off hx
  split at h
  ·rename_i e sz oC l hb
   obtain⟨rfl,hq⟩:=h
   obtain⟨h0,h1,hk⟩:=hq
   have nN:k<l.length:=by omega
   have nJ:l[k]?=some l[k]:=List.getElem?_eq_getElem nN
   obtain⟨⟨ag,szT,tv,h⟩⟩:=hk l[k] (by rw[Int.toNat_natCast];exact nJ)
   cases ag with
   |true =>
    obtain⟨hc,h2⟩:=cond_false h
    simp only[Bool.and_eq_true,Nat.beq_eq]at hc
    obtain⟨rfl,hs⟩:=hc
    exact⟨_,PF hx hb nJ hs,h2⟩
   |false =>
    obtain⟨av,hl,h⟩:=J7 h
    exact⟨_,Xj (szT:=szT) hx hb nJ hl,h⟩
  ·exact h.elim
 ·exact h.elim
theorem cw{S f off sz:Nat}[tf:D8 P S f off sz](hz:Nat.blt 0 sz=true)(h:Sw hp off (ev x) F):∃av,G8 P E nx hp ev (.fieldAddr S x f) ty av∧F av:=by
 unfold Sw at h
 split at h
 ·rename_i hx;exact⟨_,LQ (off:=off) (sz:=sz) hx hz,h⟩
 ·rename_i hx;exact⟨_,JS (off:=off) (sz:=sz) hx hz,h⟩
 ·rename_i hx
  split at h
  ·rename_i hb
   obtain⟨rfl,h⟩:=h
   exact⟨_,VR (off:=off) (sz:=sz) hx hb hz,h⟩
  ·exact h.elim
 ·exact h.elim
theorem cy(h:Jf P T hp (ev x) (ev y) F):∃av,G8 P E nx hp ev (.indexAddr T x y) ty av∧F av:=by
 unfold Jf at h
 split at h
 ·rename_i hx hy
  obtain⟨⟨e,nQ,ts,h⟩⟩:=h
  obtain⟨hz,hq⟩:=cond_false h
  clear h
  have:=Nat.eq_of_beq_eq_true hz
  subst this
  obtain⟨h0,h1,hk⟩:=hq
  rename_i sz l kk i
  have nN:i.toNat<l.length:=by omega
  have nJ:l[i.toNat]?=some l[i.toNat]:=List.getElem?_eq_getElem nN
  exact⟨_,NO (e:=e) hx hy h0 nJ,hk _ nJ⟩
 ·rename_i hx hy
  split at h
  ·rename_i hb
   obtain⟨rfl,h⟩:=h
   obtain⟨⟨e,nQ,ts,h⟩⟩:=h
   obtain⟨hz,hq⟩:=cond_false h
   clear h
   have:=Nat.eq_of_beq_eq_true hz
   subst this
   exact⟨_,VS (e:=e) hx hb hy hq.h.1 hq.h.2,hq.k⟩
  ·exact h.elim
 ·rename_i hx hy
  obtain⟨⟨len,e,sz,ta,h⟩⟩:=h
  exact⟨_,VT (e:=e) (sz:=sz) hx hy h.h.1 h.h.2,h.k⟩
 ·exact h.elim
theorem kG(h:ct hp (ev x) F):∃av,G8 P E nx hp ev (.nilCheck x) ty av∧F av:=by
 unfold ct at h
 split at h
 ·rename_i hx;exact⟨_,Zu hx,h⟩
 ·rename_i hx;exact⟨_,Xk hx,h⟩
 ·rename_i hx
  split at h
  ·rename_i hb
   obtain⟨rfl,h⟩:=h
   exact⟨_,Zv hx hb,h⟩
  ·exact h.elim
 ·exact h.elim
theorem kH(h:ID P T hp (ev x) F):∃av,G8 P E nx hp ev (.call ⟨.builtin .len,#[x],#[T]⟩) ty av∧F av:=by
 unfold ID at h
 split at h
 ·rename_i hx
  obtain⟨⟨e,sz,ts,h⟩⟩:=h
  exact⟨_,Sa (e:=e) (sz:=sz) hx,h.k⟩
 ·rename_i hx
  obtain⟨ts,h⟩:=h
  exact⟨_,QM hx,h⟩
 ·rename_i hx
  split at h
  ·rename_i hb
   obtain⟨rfl,h⟩:=h
   obtain⟨⟨e,sz,ts,h⟩⟩:=h
   exact⟨_,Zs (e:=e) (sz:=sz) hx hb,h⟩
  ·exact h.elim
 ·rename_i hx
  obtain⟨⟨e,sz,ts,h⟩⟩:=h
  exact⟨_,QN (e:=e) (sz:=sz) hx,h⟩
 ·exact h.elim
theorem cz{lo hi:Option Operand}(h:Nl P T ev (ev x) lo hi F):∃av,G8 P E nx hp ev (.slice T x lo hi none) ty av∧F av:=by
 unfold Nl at h
 split at h
 ·rename_i hx
  obtain⟨ts,h⟩:=h
  split at h
  ·rename_i hl hh;exact⟨_,LY hx hl hh h.h.1 h.h.2.1 h.h.2.2,h.k⟩
  ·exact h.elim
 ·rename_i hx
  obtain⟨⟨e,nQ,ts,h⟩⟩:=h
  obtain⟨hz,hq⟩:=cond_false h
  clear h
  have:=Nat.eq_of_beq_eq_true hz
  subst this
  split at hq
  ·rename_i hl hh;exact⟨_,Xn (e:=e) hx hl hh hq.h.1 hq.h.2.1 hq.h.2.2,hq.k⟩
  ·exact hq.elim
 ·exact h.elim
theorem aF{ok:Bool}(h:PO P T hp ok (ev x) (ev y) F):∃av,G8 P E nx hp ev (.lookup T x y ok) ty av∧F av:=by
 unfold PO at h
 split at h
 ·rename_i hx hy
  split at h
  ·rename_i hb hk
   obtain⟨⟨k,e,t,z,tm,h⟩⟩:=h
   obtain⟨hkb,hq⟩:=cond_false h
   cases ok with
   |true=>exact⟨_,VW (T:=T) hx hb hy hk hkb hq.h,hq.k.h⟩
   |false=>exact⟨_,ck (T:=T) hx hb hy hk hkb hq.h,hq.k.h⟩
  ·exact h.elim
 ·exact h.elim
theorem fy{op:Op}(h:GU P op ev hp F):∃av,G8 P E nx hp ev op ty av∧F av:=by
 unfold GU at h
 split at h
 ·obtain⟨a,hx,h⟩:=J7 h;exact⟨a,Zo hx,h⟩
 ·obtain⟨a,hx,h⟩:=J7 h;exact⟨a,SV hx,h⟩
 ·split at h
  ·rename_i t hc
   obtain⟨h1,h2⟩:=h
   cases t with
   |true=>obtain⟨a,hx,h⟩:=J7 (h1 rfl);exact⟨a,cY hc hx,h⟩
   |false=>obtain⟨a,hx,h⟩:=J7 (h2 rfl);exact⟨a,cZ hc hx,h⟩
  ·exact h.elim
 ·rename_i y _
  cases hn:Nj y with
  |true=>rw[hn]at h;exact cu hn h
  |false=>rw[hn]at h;exact kF h
 ·split at h
  ·rename_i hx;exact⟨_,fw hx,h⟩
  ·exact h.elim
 ·split at h
  ·rename_i a hx
   have h1:=h.h
   refine⟨_,lm hx,?_⟩
   rw[Q2 (by omega)]
   exact h.k
  ·exact h.elim
 ·exact gn h
 ·obtain⟨⟨off,sz,tf,h⟩⟩:=h
  obtain⟨hz,h⟩:=cond_false h
  exact cw (off:=off) (sz:=sz) hz h
 ·exact cy h
 ·split at h
  ·rename_i s k i hx hy
   obtain⟨ts,h0,h1,hk⟩:=h
   have nN:i.toNat<s.length:=by omega
   have nJ:s[i.toNat]?=some s[i.toNat]:=List.getElem?_eq_getElem nN
   exact⟨_,LR hx hy h0 nJ,hk _ nJ⟩
  ·exact h.elim
 ·exact kG h
 ·obtain⟨a,hx,h⟩:=J7 h
  obtain⟨⟨r,hr,h⟩⟩:=h
  cases hr with
  |bytes l hl=>rename_i e sz _ _ _;exact⟨_,LS (e:=e) (sz:=sz) hx hl,h⟩
  |back l=>rename_i e sz _ _ _;exact⟨_,LU (e:=e) (sz:=sz) hx,h⟩
  |int m=>exact⟨_,NQ hx,h⟩
  |rune m=>exact⟨_,LV hx,h⟩
 ·exact kH h
 ·split at h
  ·rename_i hx hy
   obtain⟨hk,h2⟩:=cond_false h
   have:=of_decide_eq_true hk
   subst this
   exact⟨_,ln hx hy,h2⟩
  ·exact h.elim
 ·split at h
  ·rename_i hx hy
   obtain⟨hk,h2⟩:=cond_false h
   have:=of_decide_eq_true hk
   subst this
   exact⟨_,lq hx hy,h2⟩
  ·exact h.elim
 ·split at h
  ·rename_i l hl
   unfold Rz at h
   cases hc:I8 l with
   |true =>
    rw[hc]at h
    obtain⟨⟨r,hr,h⟩⟩:=h
    rw[List.append_nil]at hr
    exact⟨_,Sc hr hl hc,h⟩
   |false =>
    rw[hc]at h
    obtain⟨⟨is,L,r,hL,ni,hr,oY,h⟩⟩:=h
    exact⟨_,Sp is hr hl hL ni oY fun _ _ _ _=>⟨[],rfl,rfl,fun j x c hx=>by simp at hx⟩,h⟩
  ·exact h.elim
 ·split at h
  ·rename_i f caps l hg hl
   unfold Rz at h
   cases hc:I8 l with
   |true =>
    rw[hc]at h
    obtain⟨⟨r,hr,h⟩⟩:=h
    exact⟨_,gW hg hr hl hc,h⟩
   |false =>
    rw[hc]at h
    obtain⟨⟨is,L,r,hL,ni,hr,oY,h⟩⟩:=h
    refine⟨_,Sp is hr hl hL ni oY fun θ a w h=>?_,h⟩
    have:=(h.rel hg)
    generalize a.eval _=v at this
    cases this with
    |im hi=>cases hi with|fn f l cs hl hc=>exact⟨cs,rfl,hl,hc⟩
  ·exact h.elim
 ·split at h
  ·rename_i ps sr
   obtain⟨⟨zs,pl,tz,tp,h⟩⟩:=h
   obtain⟨hf,h⟩:=w7 h
   obtain⟨a,ha,h⟩:=J7 h
   rw[Option.map_eq_some_iff]at ha
   obtain⟨l,hl,rfl⟩:=ha
   exact⟨_,WW (T:=_) sr hf hl,h⟩
  ·exact h.elim
 ·split at h
  ·rename_i ps sr
   obtain⟨⟨e,sz,bs,z,ts,tz,tb,hz,h⟩⟩:=h
   obtain⟨hc,h⟩:=cond_false h
   simp only[Bool.and_eq_true,Nat.beq_eq,Nat.blt_eq]at hc
   obtain⟨hs,h⟩:=h
   obtain⟨hf,h⟩:=w7 h
   obtain⟨hi,h⟩:=FG h
   exact⟨_,JY (e:=e) (z:=z) sr hf hc.1.1.1 hc.1.1.2 hc.1.2 hz hs hc.2 hi,h⟩
  ·exact h.elim
 ·exact aF h
 ·exact cz h
 ·split at h
  ·rename_i hx
   obtain⟨a,ha,h⟩:=J7 h
   exact⟨a,QQ hx ha,h⟩
  ·exact h.elim
 ·split at h
  ·rename_i caps hc
   obtain⟨ni,h⟩:=cond_false h
   exact⟨_,Xm hc ni,h⟩
  ·exact h.elim
 ·exact h.elim
end sound
def Rd(a:AV):Prop:=∃U w v,Im U w a v
theorem Rd.sl{sz:Nat}{l:List (List AV)}(h:Rd (.sl sz l)):l.length≤9223372036854775807:=by
 obtain⟨U,w,v,h⟩:=h
 cases h with
 |slnil=>simp
 |sl sz l a cap f oQ hm hu hsz hc h=>unfold maxLen at hm;omega
theorem Rd.agg{l:List AV}(h:Rd (.agg l)):∀x∈l,Rd x:=by
 obtain⟨U,w,v,h⟩:=h
 cases h with
 |agg l cs hl h =>
  intro x hx
  obtain⟨j,hj,rfl⟩:=List.getElem_of_mem hx
  have h2:j<cs.length:=by omega
  exact⟨U,w,_,h j _ _ (List.getElem?_eq_getElem hj) (List.getElem?_eq_getElem h2)⟩
theorem Rd.elem{sz:Nat}{l:List (List AV)}(h:Rd (.sl sz l)):∀e∈l,∀x∈e,Rd x:=by
 obtain⟨U,w,v,h⟩:=h
 cases h with
 |slnil=>intro e he;cases he
 |sl sz l a cap f oQ hm hu hsz hc h =>
  intro e he x hx
  obtain⟨i,hi,rfl⟩:=List.getElem_of_mem he
  obtain⟨j,hj,rfl⟩:=List.getElem_of_mem hx
  exact⟨U,w,_,h i _ (List.getElem?_eq_getElem hi) j _ (List.getElem?_eq_getElem hj)⟩
def Bv:List AV→Nat→List (Nat×AV)
 |[],_=>[]
 |a::r,k=>(k,a)::Bv r (k+1)
theorem FH:∀(l:List AV) (k s:Nat) (x:AV),look (Bv l k) s=some x→k≤s∧l[s-k]?=some x
 |[],_,_,_,h=>by cases h
 |a::r,k,s,x,h=>by
  simp only[Bv,E8]at h
  by_cases e:k=s
  ·subst e;simp at h;subst h;simp
  ·rw[if_neg e]at h
   obtain⟨h1,h2⟩:=FH r (k+1) s x h
   refine⟨by omega,?_⟩
   have:s-k=(s-(k+1))+1:=by omega
   rw[this]
   simpa using h2
def X5(tmps:Array Value):ResultVar→Sem Value
 |.tmp t=>pure (tmps.getD t undef)
 |.cell a t=>do loadVar t (←asAddr (tmps.getD a undef))
theorem MR{P:Program}{w:World}{tmps:Array Value}:∀{rvs:List ResultVar} {vs:List Value},rvs.length=vs.length→(∀(j:Nat) rv v,rvs[j]?=some rv→vs[j]?=some v→(X5 tmps rv).run P w=.ok v w)→(rvs.mapM (X5 tmps)).run P w=.ok vs w
 |[],[],_,_=>by simp[Sem.run_pure]
 |rv::r,v::s,hl,h=>by
  have h1:=h 0 rv v rfl rfl
  have h2:=MR (rvs:=r) (vs:=s) (by simpa using hl) (fun j rv v hj hv=>h (j+1) rv v (by simpa using hj) (by simpa using hv))
  simp[List.mapM_cons,Sem.run_bind,h1,h2]
 |[],_::_,hl,_=>by simp at hl
 |_::_,[],hl,_=>by simp at hl
theorem La{P:Program}{w:World}{fn:Func}{tmps:Array Value}{rvs:List ResultVar}{vs:List Value}(h:fn.results=rvs.toArray)(hne:rvs.length≠1)(hl:rvs.length=vs.length)(hv:∀(j:Nat) rv v,rvs[j]?=some rv→vs[j]?=some v→(X5 tmps rv).run P w=.ok v w):
  (results fn tmps).run P w=.ok (.tuple vs.toArray) w:=by
 have hm:=MR (P:=P) (w:=w) (tmps:=tmps) hl hv
 have e:results fn tmps=(do let vs ←fn.results.mapM (X5 tmps);pure (if h:vs.size=1 then vs[0]else .tuple vs)):=by
  unfold results
  congr
 rw[e,h,List.mapM_toArray]
 simp only[Sem.run_bind,map_eq_pure_bind,hm,Sem.run_pure,Result.andThen_ok]
 rw[dif_neg (by simp;omega)]
theorem Sx{P:Program}{w:World}{fn:Func}{tmps:Array Value}{rv:ResultVar}{v:Value}(h:fn.results=[rv].toArray)(hv:(X5 tmps rv).run P w=.ok v w):
  (results fn tmps).run P w=.ok v w:=by
 have hm:=MR (P:=P) (w:=w) (tmps:=tmps) (rvs:=[rv]) (vs:=[v]) rfl (fun j rv' v' hj ob=>by
  cases j with
  |zero=>simp at hj ob;subst hj ob;exact hv
  |succ j=>simp at hj)
 have e:results fn tmps=(do let vs ←fn.results.mapM (X5 tmps);pure (if h:vs.size=1 then vs[0]else .tuple vs)):=by
  unfold results
  congr
 rw[e,h,List.mapM_toArray]
 simp only[Sem.run_bind,map_eq_pure_bind,hm,Sem.run_pure,Result.andThen_ok]
 rfl
inductive NL:AV→AV→Prop
 |refl (a:AV):NL a a
 |any (a:AV):NL a .any
 |nil (sz:Nat):NL (.v (.slice none 0 0)) (.sl sz [])
 |agg (l m:List AV) (h:l.length=m.length) (hh:∀(j:Nat) x y,l[j]?=some x→m[j]?=some y→NL x y):NL (.agg l) (.agg m)
 |tup (l m:List AV) (h:l.length=m.length) (hh:∀(j:Nat) x y,l[j]?=some x→m[j]?=some y→NL x y):NL (.tup l) (.tup m)
 |sl (sz:Nat) (l m:List (List AV)) (h:l.length=m.length) (hl:∀(i:Nat) e e',l[i]?=some e→m[i]?=some e'→e.length=e'.length) (hh:∀(i:Nat) e e',l[i]?=some e→m[i]?=some e'→∀(j:Nat) x y,e[j]?=some x→e'[j]?=some y→NL x y):NL (.sl sz l) (.sl sz m)
theorem P5{α β:Type}{l:List α}{m:List β}(h:l.length=m.length){j:Nat}{y:β}(hy:m[j]?=some y):∃x,l[j]?=some x:=by
 have:=(List.getElem?_eq_some_iff.1 hy).1
 exact⟨_,List.getElem?_eq_getElem (by omega)⟩
theorem NL.im{U:Nat→Prop}{w:World}{a b:AV}(h:NL a b):∀{v:Value},Im U w a v→Im U w b v:=by
 induction h with
 |refl a=>intro v h;exact h
 |any a=>intro v h;exact .any v
 |nil sz=>intro v h;cases h;exact .slnil sz
 |agg l m hl hh ih =>
  intro v h
  cases h with
  |agg l cs hc h =>
   refine .agg m cs (by omega) fun j y c hy ow=>?_
   obtain⟨x,hx⟩:=P5 hl hy
   exact ih j x y hx hy (h j x c hx ow)
 |tup l m hl hh ih =>
  intro v h
  cases h with
  |tup l cs hc h =>
   refine .tup m cs (by omega) fun j y c hy ow=>?_
   obtain⟨x,hx⟩:=P5 hl hy
   exact ih j x y hx hy (h j x c hx ow)
 |sl sz l m hl nM hh ih =>
  intro v h
  cases h with
  |slnil =>
   have:m=[]:=List.eq_nil_of_length_eq_zero (by rw[←hl];rfl)
   subst this
   exact .slnil sz
  |sl sz l a cap f oQ hm hu hsz hc h =>
   rw[hl]
   refine .sl sz m a cap f (by omega) hm (fun hne=>hu (fun e=>hne (List.eq_nil_of_length_eq_zero (by rw[←hl,e];rfl)))) (fun e he=>?_) (fun i hi=>hc i (by omega)) (fun i e' rA j y hy=>?_)
   ·obtain⟨i,hi,rfl⟩:=List.getElem_of_mem he
    obtain⟨x,hx⟩:=P5 hl (List.getElem?_eq_getElem hi)
    rw[←nM i x _ hx (List.getElem?_eq_getElem hi)]
    exact hsz x (List.mem_of_getElem? hx)
   ·obtain⟨e,he⟩:=P5 hl rA
    obtain⟨x,hx⟩:=P5 (nM i e e' he rA) hy
    exact ih i e e' he rA j x y hx hy (h i e he j x hx)
theorem Nm{c:Cx}{a b:AV}(h:NL a b):∀{v:Value},E0 c a v→E0 c b v:=by
 induction h with
 |refl a=>intro v h;exact h
 |any a=>intro v h;exact .any v
 |nil sz=>intro v h;rw[h.val];exact .im (.slnil sz)
 |agg l m hl hh ih =>
  intro v h
  obtain⟨cs,rfl,hc,hr⟩:=Fe h
  refine .agg m cs (by omega) fun j y z hy hz=>?_
  obtain⟨x,hx⟩:=P5 hl hy
  exact ih j x y hx hy (hr j x z hx hz)
 |tup l m hl hh ih =>
  intro v h
  have:∃cs:List Value,v=.tuple cs.toArray∧l.length=cs.length∧∀(j:Nat) u z,l[j]?=some u→cs[j]?=some z→E0 c u z:=by
   cases h with
   |im hi=>cases hi with|tup l cs hl hc=>exact⟨cs,rfl,hl,fun j u z hu hz=>.im (hc j u z hu hz)⟩
   |tup l cs hl hc=>exact⟨cs,rfl,hl,hc⟩
  obtain⟨cs,rfl,hc,hr⟩:=this
  refine .tup m cs (by omega) fun j y z hy hz=>?_
  obtain⟨x,hx⟩:=P5 hl hy
  exact ih j x y hx hy (hr j x z hx hz)
 |sl sz l m hl nM hh ih =>
  intro v h
  cases h with
  |im hi=>exact .im ((NL.sl sz l m hl nM hh).im hi)
def Xu(P:Program)(σ:St):ResultVar→AV→Prop
 |.tmp t,a=>∃a',(look σ.sl t).map (I9 σ.hp [])=some a'∧NL a' a
 |.cell t T,a=>∃i τ l sz,look σ.sl t=some (.ref i 0)∧A5 σ.hp i=some (.bx τ l)∧G7 P T true sz∧l.length=sz∧NL (.agg (Cy σ.hp [] l)) a
def IE(P:Program)(σ:St):List ResultVar→List AV→Prop
 |[],[]=>True
 |v::r,a::s=>Xu P σ v a∧IE P σ r s
 |_,_=>False
theorem IE.get{P:Program}{σ:St}:∀{rvs:List ResultVar} {as:List AV},IE P σ rvs as→rvs.length=as.length∧∀(j:Nat) rv a,rvs[j]?=some rv→as[j]?=some a→Xu P σ rv a
 |[],[],_=>⟨rfl,fun j rv a h=>by simp at h⟩
 |v::r,a::s,h=>by
  obtain⟨h1,h2⟩:=IE.get h.2
  refine⟨by simp[h1],fun j rv b hj hb=>?_⟩
  cases j with
  |zero=>simp at hj hb;subst hj hb;exact h.1
  |succ j=>exact h2 j rv b (by simpa using hj) (by simpa using hb)
 |[],_::_,h=>h.elim
 |_::_,[],h=>h.elim
def gA(P:Program)(rs:Array ResultVar)(r:AV)(σ:St):Prop :=
 (∃rvs as,rs=rvs.toArray∧rvs.length≠1∧IE P σ rvs as∧r=.tup as) ∨
 (∃t,rs=#[.tmp t]∧(look σ.sl t).map (I9 σ.hp [])=some r) ∨
 (∃t sz,rs=#[.tmp t]∧look σ.sl t=some (.v (.slice none 0 0))∧r=.sl sz []) ∨
 (∃t u a b,rs=#[.tmp t,.tmp u]∧(look σ.sl t).map (I9 σ.hp [])=some a∧(look σ.sl u).map (I9 σ.hp [])=some b∧r=.tup [a,b]) ∨
 (∃t T i τ l,rs=#[.cell t T]∧look σ.sl t=some (.ref i 0)∧A5 σ.hp i=some (.bx τ l)∧r=.agg (Cy σ.hp [] l))
def D0(P:Program)(rs:Array ResultVar)(r:AV):Exit→St→Prop
 |.ret,σ=>gA P rs r σ
 |.normal,σ=>gA P rs r σ
 |_,_=>False
theorem A1{P:Program}{t:Nat}{r r':AV}{σ:St}(h:(look σ.sl t).map (I9 σ.hp [])=some r')(e:r'=r):D0 P #[.tmp t] r .ret σ:=.inr (.inl ⟨t,rfl,e▸h⟩)
theorem Sy{P:Program}{rs:List ResultVar}{vs:List AV}{r:AV}{σ:St}(hn:(Nat.beq rs.length 1)=false)(h:IE P σ rs vs)(e:.tup vs=r):D0 P rs.toArray r .ret σ:=.inl ⟨rs,vs,rfl,(fun h=>by rw[h]at hn;cases hn),h,e.symm⟩
theorem Sz{P:Program}{t:Nat}{a' a:AV}{σ:St}(h:(look σ.sl t).map (I9 σ.hp [])=some a')(e:NL a' a):Xu P σ (.tmp t) a:=⟨a',h,e⟩
theorem Ft{P:Program}{t u v:Nat}{a b c r:AV}{σ:St}(h:(look σ.sl t).map (I9 σ.hp [])=some a)(h2:(look σ.sl u).map (I9 σ.hp [])=some b)(h3:(look σ.sl v).map (I9 σ.hp [])=some c)(e:.tup [a,b,c]=r):D0 P #[.tmp t,.tmp u,.tmp v] r .ret σ :=
 Sy (rs:=[.tmp t,.tmp u,.tmp v]) (vs:=[a,b,c]) rfl ⟨⟨a,h,.refl _⟩,⟨b,h2,.refl _⟩,⟨c,h3,.refl _⟩,trivial⟩ e
theorem T3{P:Program}{t T i u sz τ:Nat}{l:List AV}{a b b' r:AV}{σ:St}[tv:G7 P T true sz](h:look σ.sl t=some (.ref i 0))(hb:A5 σ.hp i=some (.bx τ l))(hl:Nat.beq l.length sz=true)(na:NL (.agg (Cy σ.hp [] l)) a)(h2:(look σ.sl u).map (I9 σ.hp [])=some b')(nb:NL b' b)(e:.tup [a,b]=r):D0 P #[.cell t T,.tmp u] r .ret σ :=
 Sy (rs:=[.cell t T,.tmp u]) (vs:=[a,b]) rfl ⟨⟨i,τ,l,sz,h,hb,tv,Nat.eq_of_beq_eq_true hl,na⟩,⟨b',h2,nb⟩,trivial⟩ e
theorem I5{P:Program}{t u:Nat}{a b r:AV}{σ:St}(h:(look σ.sl t).map (I9 σ.hp [])=some a)(h2:(look σ.sl u).map (I9 σ.hp [])=some b)(e:.tup [a,b]=r):D0 P #[.tmp t,.tmp u] r .ret σ:=.inr (.inr (.inr (.inl ⟨t,u,a,b,rfl,h,h2,e.symm⟩)))
theorem p8{P:Program}{t sz:Nat}{r:AV}{σ:St}(h:look σ.sl t=some (.v (.slice none 0 0)))(e:.sl sz []=r):D0 P #[.tmp t] r .ret σ:=.inr (.inr (.inl ⟨t,sz,rfl,h,e.symm⟩))
theorem dA{P:Program}{t T i τ:Nat}{l:List AV}{r:AV}{σ:St}(h:look σ.sl t=some (.ref i 0))(h2:A5 σ.hp i=some (.bx τ l))(e:.agg (Cy σ.hp [] l)=r):D0 P #[.cell t T] r .ret σ:=.inr (.inr (.inr (.inr ⟨t,T,i,τ,l,rfl,h,h2,e.symm⟩)))
section rules
variable {P:Program} {E:Env} {n:Nat} {ops:Array Oper} {rest:List Oper} {σ:St} {K:St→Prop} {Q:Exit→St→Prop}
variable {d:Nat} {ty:TypeId} {pos:String} {after:Array Edge} {x y:Operand}
theorem QU{fn:Func}{r:AV}{X:Nat→Prop}{w w':World}{rN:S7 (fun k=>X k∨(fun _=>False) k) w}{rf:Bool}{θ:Th}{σ':St}{a:Act}(hs:J5 ⟨w,X,fun _=>False,fun _=>undef,0,rN,rf⟩ n θ σ' a w')(yG:a.defers=[])(ni:R4 r)
  (pT:∀t T,fn.results=#[.cell t T]→∃sz,G7 P T true sz∧∀l,r=.agg l→l.length=sz) (tX:gA P fn.results r σ'):bodyPost P fn (fun e rJ=>∃v,e=.returned v∧Im X rJ r v∧Below w.heap.size w rJ) .ret a w':=by
 have pf:Below w.heap.size w w':=⟨hs.fr.os,hs.fr.tape,hs.fr.output,hs.fr.size,fun k hk=>hs.fr.block k hk (fun h=>h)⟩
 have uU:=hs.cv (σ':=⟨BQ (I9 σ'.hp []) σ'.sl,σ'.nx,[]⟩) (Nat.zero_le _) (fun s x' hx=>by
  rw[DR,Option.map_eq_some_iff]at hx
  obtain⟨x,h1,h2⟩:=hx
  exact⟨x,h1,h2,.inl (Nat.le_refl _)⟩) (fun i b' hi=>by cases hi)
 have wn:∀{a:AV} {v:Value},R4 a→E0 (cx ⟨w,X,fun _=>False,fun _=>undef,0,rN,rf⟩ θ ⟨BQ (I9 σ'.hp []) σ'.sl,σ'.nx,[]⟩ w') a v→Im X w' a v:=fun hc hi=>(hc.im hi).mono (fun _ _ _=>rfl) fun k _ hu=>.inl hu
 have slot:∀{t:Nat} {r:AV},(look σ'.sl t).map (I9 σ'.hp [])=some r→look (BQ (I9 σ'.hp []) σ'.sl) t=some r:=fun h=>by rw[DR];exact h
 rcases tX with ⟨rvs,as,h1,sM,uO,rfl⟩|⟨t,h1,h2⟩|⟨t,sz,h1,h2,rfl⟩|⟨t,u,a1,b1,h1,h2,h3,rfl⟩|⟨t,T,i,τ,l,h1,h2,h3,rfl⟩
 ·obtain⟨nM,pI⟩:=IE.get uO
  have zy:∀a∈as,R4 a:=by cases ni with|tup hk=>exact hk
  have one:∀(rv:ResultVar) (b:AV),R4 b→Xu P σ' rv b→∃v,(X5 a.tmps rv).run P w'=.ok v w'∧Im X w' b v:=by
   intro rv b hb hv
   cases rv with
   |tmp t =>
    obtain⟨a',h1,h2⟩:=hv
    exact⟨_,by simp[X5,Sem.run_pure],wn hb (Nm h2 (uU.slots t a' (slot h1)))⟩
   |cell t T =>
    obtain⟨i,τ,l,sz,h2,h3,tv,sv,vu⟩:=hv
    obtain⟨b1,hθ,hv,_⟩:=o9 (hs.slots t _ h2)
    obtain⟨b',nw,T',oh,hh,hsz,hr⟩:=(hs.owns i _ h3).2
    have pw:θ i=.pointer (some ⟨b1,0,none⟩):=hθ
    have qR:θ i=.pointer (some ⟨b',0,none⟩):=oh
    rw[pw]at qR
    cases qR
    have vp:w'.heap[b1]?=some (.cells nw T' (0,0)):=hh
    have sub:(cx ⟨w,X,fun _=>False,fun _=>undef,0,rN,rf⟩ θ σ' w').sub (cx ⟨w,X,fun _=>False,fun _=>undef,0,rN,rf⟩ θ ⟨BQ (I9 σ'.hp []) σ'.sl,σ'.nx,[]⟩ w'):=⟨rfl,rfl,fun _ h=>h,(fun i b' hi=>by cases hi),hs.apart,fun i b k hi hk=>(hs.mine i b k hi hk).1,fun i b hi=>(hs.owns i b hi).2⟩
    have qc:=S9 (P:=P) (T:=T) (sz:=sz) (w:=w') (a:=⟨b1,0,none⟩) (cs:=nw.toList) (by rw[Array.length_toList,hsz,sv]) (fun j v hj=>by rw[H3,K1 vp];simpa using hj)
    refine⟨.agg nw,by simp[X5,hv,Sem.run_bind,Sem.run_pure,asAddr,qc],wn hb (Nm vu (by
     have:=E0.agg (c:=cx ⟨w,X,fun _=>False,fun _=>undef,0,rN,rf⟩ θ ⟨BQ (I9 σ'.hp []) σ'.sl,σ'.nx,[]⟩ w') (Cy σ'.hp [] l) nw.toList (by rw[Q5];simp[hsz]) (fun j x y hx hy=>by
      rw[Q5]at hx
      simp only[List.getElem?_map,Option.map_eq_some_iff]at hx
      obtain⟨u0,pW,rfl⟩:=hx
      exact JZ sub (hr j u0 y pW (by simpa using hy)) (.inl (Nat.le_refl _)))
     simpa using this))⟩
  have all:∀(m:Nat),m≤rvs.length→∃vs:List Value,vs.length=m∧∀(j:Nat) rv v,rvs[j]?=some rv→vs[j]?=some v→(X5 a.tmps rv).run P w'=.ok v w'∧∀b,as[j]?=some b→Im X w' b v:=by
   intro m
   induction m with
   |zero=>intro _;exact⟨[],rfl,fun j rv v _ h=>by simp at h⟩
   |succ m ih =>
    intro hm
    obtain⟨vs,hl,qh⟩:=ih (by omega)
    have xf:rvs[m]?=some rvs[m]:=List.getElem?_eq_getElem (by omega)
    have ham:as[m]?=some (as[m]'(by omega)):=List.getElem?_eq_getElem (by omega)
    obtain⟨v,uy,qq⟩:=one rvs[m] (as[m]'(by omega)) (zy _ (List.getElem_mem _)) (pI m _ _ xf ham)
    refine⟨vs++[v],by simp[hl],fun j rv u hj hu=>?_⟩
    by_cases e:j<m
    ·rw[List.getElem?_append_left (by omega)]at hu
     exact qh j rv u hj hu
    ·rw[List.getElem?_append_right (by omega),hl]at hu
     have ej:j=m:=by
      have:=(List.getElem?_eq_some_iff.1 hu).1
      simp at this;omega
     subst ej
     simp at hu
     subst hu
     rw[xf]at hj
     cases hj
     exact⟨uy,fun b hb=>by rw[ham]at hb;cases hb;exact qq⟩
  obtain⟨vs,tA,qh⟩:=all rvs.length (Nat.le_refl _)
  refine⟨yG,_,La h1 sM tA.symm (fun j rv v hj hv=>(qh j rv v hj hv).1),_,rfl,.tup as vs (by omega) fun j b v hb hv=>?_,pf⟩
  obtain⟨rv,AC4⟩:=P5 nM hb
  exact(qh j rv v AC4 hv).2 b hb
 ·exact⟨yG,_,results_tmp h1 _ _ _,_,rfl,wn ni (uU.slots t r (slot h2)),pf⟩
 ·exact⟨yG,_,results_tmp h1 _ _ _,_,rfl,by rw[(hs.slots t _ h2).val];exact .slnil sz,pf⟩
 ·refine⟨yG,_,results_tmp2 h1 _ _ _,_,rfl,?_,pf⟩
  refine wn ni (.tup [a1,b1] [_,_] rfl fun j x y hx hy=>?_)
  match j,hx,hy with
  |0,hx,hy=>cases hx;cases hy;exact uU.slots t _ (slot h2)
  |1,hx,hy=>cases hx;cases hy;exact uU.slots u _ (slot h3)
 ·obtain⟨b,hθ,hv,_⟩:=o9 (hs.slots t _ h2)
  obtain⟨b',nw,T',oh,hh,hsz,hr⟩:=(hs.owns i _ h3).2
  have pw:θ i=.pointer (some ⟨b,0,none⟩):=hθ
  have qR:θ i=.pointer (some ⟨b',0,none⟩):=oh
  rw[pw]at qR
  cases qR
  obtain⟨sz,tv,nM⟩:=pT t T h1
  have sv:=nM _ rfl
  rw[Q5,List.length_map]at sv
  have vp:w'.heap[b]?=some (.cells nw T' (0,0)):=hh
  have sub:(cx ⟨w,X,fun _=>False,fun _=>undef,0,rN,rf⟩ θ σ' w').sub (cx ⟨w,X,fun _=>False,fun _=>undef,0,rN,rf⟩ θ ⟨BQ (I9 σ'.hp []) σ'.sl,σ'.nx,[]⟩ w'):=⟨rfl,rfl,fun _ h=>h,(fun i b' hi=>by cases hi),hs.apart,fun i b k hi hk=>(hs.mine i b k hi hk).1,fun i b hi=>(hs.owns i b hi).2⟩
  refine⟨yG,.agg nw,?_,_,rfl,wn ni (by
   have:=E0.agg (c:=cx ⟨w,X,fun _=>False,fun _=>undef,0,rN,rf⟩ θ ⟨BQ (I9 σ'.hp []) σ'.sl,σ'.nx,[]⟩ w') (Cy σ'.hp [] l) nw.toList (by rw[Q5];simp[hsz]) (fun j x y hx hy=>by
    rw[Q5]at hx
    simp only[List.getElem?_map,Option.map_eq_some_iff]at hx
    obtain⟨u0,pW,rfl⟩:=hx
    exact JZ sub (hr j u0 y pW (by simpa using hy)) (.inl (Nat.le_refl _)))
   simpa using this),pf⟩
  have qc:=S9 (P:=P) (T:=T) (sz:=sz) (w:=w') (a:=⟨b,0,none⟩) (cs:=nw.toList) (by rw[Array.length_toList,hsz,sv]) (fun j v hj=>by rw[H3,K1 vp];simpa using hj)
  rw[Array.getD_eq_getD_getElem?]at hv
  simp[results,h1,hv,Sem.run_bind,Sem.run_pure,asAddr,qc]
theorem Lb {f : Nat} {fn : Func} {code : Code} {args : List AV} {r : AV} {rs : Array ResultVar} (hf : P.funcs[f]? = some fn) (pH : (fn.name == "runtime.NumGoroutine") = false) (hb : fn.body = some code) (hn : fn.ntmps = n) (ss : fn.results = rs)
  (nq:Nat.ble args.length n=true) (ni:J1 r=true) (pT:∀t T,rs=#[.cell t T]→∃sz,G7 P T true sz∧∀l,r=.agg l→l.length=sz)
  (h:(∀a∈args,Rd a)→∀E,E.n0=0→C9 P E n code ⟨Bv args 0,0,[]⟩ (D0 P rs r)):A3 P f args r:=by
 subst hn ss
 have ni:=T1 ni
 refine⟨⟨fn,hf,pH,by rw[hb];rfl⟩,fun X w vs hX oP hl qh=>?_⟩
 have rN:S7 (fun k=>X k∨(fun _=>False) k) w:=oP.mono (fun k _ h=>h.elim id False.elim) fun _ _ _=>rfl
 have nL:∀a∈args,Rd a:=by
  intro a ha
  obtain⟨j,hj,rfl⟩:=List.getElem_of_mem ha
  have h2:j<vs.length:=by omega
  exact⟨X,w,_,qh j _ _ (List.getElem?_eq_getElem hj) (List.getElem?_eq_getElem h2)⟩
 refine calls_of_wp hf hb ?_
 have oW:args.length≤fn.ntmps:=Nat.ble_eq▸nq
 have start:o3 ⟨w,X,fun _=>False,fun _=>undef,0,rN,false⟩ fn.ntmps ⟨Bv args 0,0,[]⟩ { tmps:=vs.toArray++Array.replicate (fn.ntmps-vs.toArray.size) undef,defers:=[] } w:=by
  refine⟨⟨fun _=>undef,fun _ _=>none⟩,?_,.nil,⟨rfl,rfl,rfl,Nat.le_refl _,fun _ _ _=>rfl⟩,fun s x hs=>?_,fun i b hi=>?_,fun i j b b' k hi=>?_,fun i b k hi=>?_,hX,⟨Nat.le_refl _,fun i hi=>?_⟩⟩
  ·simp;omega
  ·obtain⟨_,hx⟩:=FH args 0 s x hs
   rw[Nat.sub_zero]at hx
   have nN:s<vs.length:=by rw[←hl];exact(List.getElem?_eq_some_iff.1 hx).1
   have hv:vs[s]?=some vs[s]:=List.getElem?_eq_getElem nN
   have e:(vs.toArray++Array.replicate (fn.ntmps-vs.toArray.size) undef).getD s undef=vs[s]:=by
    rw[Array.getD_eq_getD_getElem?,Array.getElem?_append]
    simp[nN]
   rw[e]
   refine .im ((qh s x _ hx hv).mono (fun _ _ _=>rfl) fun k _ hu=>?_)
   rcases hu with hu|⟨i,b,hi,_⟩
   ·exact hu
   ·cases hi
  ·cases hi
  ·cases hi
  ·cases hi
  ·exact absurd hi (Nat.not_lt_zero _)
 refine wp_mono (h nL ⟨w,X,fun _=>False,fun _=>undef,0,rN,false⟩ rfl _ w start) ?_
 rintro e a w' ⟨σ',hq,θ,hs⟩
 have fin:=QU (P:=P) (fn:=fn) (r:=r) hs (hs.defers.1 rfl) ni pT
 cases e with
 |normal=>exact fin hq
 |ret=>exact fin hq
 |exit id=>exact hq.elim
 |goto l=>exact hq.elim
 |panic c=>exact hq.elim
 |outgrown=>exact hq.elim
theorem A3.congr{f:Nat}{args:List AV}{r r':AV}(h:A3 P f args r)(e:r=r'):A3 P f args r':=e▸h
theorem Dx{l:List Oper}{σ':St}(h:St.le E n σ σ')(k:B3 P E n ops l σ' K):B3 P E n ops l σ K:=fun a w hs=>k a w (h a w hs)
theorem I0{d e sz:Nat}(hd:look σ.sl d=some (.v (.slice none 0 0)))(he:Nat.blt e K2=true:=by rfl):St.le E n σ ((σ.new (.row e sz 0 [])).put d (.row σ.nx 0 0)):=by
 rintro a w ⟨θ,h⟩
 have h2:=h.grow (w':=w) (Below.refl _ _) (.slice none 0 0) (.row e sz 0 []) (fun k hk=>by cases hk) (fun le=>⟨[],⟨by simp,.inl ⟨by simp[cx,F0],rfl⟩⟩,(fun el nJ=>by cases nJ),(fun k el hk=>by simp at hk),.lt (Nat.blt_eq▸he)⟩) (O0 (Nat.blt_eq▸he))
 refine⟨_,h2.size,h2.defers,h2.fr,fun s x hs=>?_,h2.owns,h2.apart,h2.mine,h2.X,h2.base⟩
 simp only[St.put,E8]at hs
 by_cases ed:d=s
 ·subst ed
  rw[if_pos rfl]at hs
  cases hs
  have hv:=(h.slots d _ hd).val
  rw[hv]
  refine .row _ _ _ _ (by simp[cx,St.new,St.put]) fun e' nQ v' l' hl=>?_
  simp only[cx,St.new,St.put,G5,if_pos]at hl
  cases hl
  exact⟨Nat.le_refl _,fun _=>⟨rfl,by simp[cx,F0]⟩⟩
 ·rw[if_neg ed]at hs
  exact h2.slots s x hs
theorem aG{d sz:Nat}(hd:look σ.sl d=some (.v (.slice none 0 0))):St.le E n σ (σ.put d (.sl sz [])):=by
 rintro a w ⟨θ,h⟩
 refine⟨θ,h.size,h.defers,h.fr,fun s x hs=>?_,h.owns,h.apart,h.mine,h.X,h.base⟩
 simp only[St.put,E8]at hs
 by_cases ed:d=s
 ·subst ed
  rw[if_pos rfl]at hs
  cases hs
  rw[(h.slots d _ hd).val]
  exact .im (.slnil sz)
 ·rw[if_neg ed]at hs
  exact h.slots s x hs
structure l6(P:Program)(E:Env)(n:Nat)(ops:Array Oper)(o:Oper)(rest:List Oper)(l:List AV)(σ:St)(K:St→Prop):Prop where
 h:B3 P E n ops (o::rest) σ K
mutual
def dB:AV→Option Nat
 |.ref i _|.row i _ _|.elt i _ _ _=>some i
 |.agg l|.tup l|.fo _ l=>QV l
 |_=>none
def QV:List AV→Option Nat
 |[]=>none
 |x::r=>match dB x with
  |some i=>some i
  |none=>QV r
end
theorem Nn{f:Nat}{xs:List Operand}{ts:Array TypeId}{d:Nat}{ty:TypeId}{pos:String}{after:Array Edge}{M L l:List AV}{r:AV}(is:List Nat)(hc:A3 P f M r)(pm:r9 (F4 σ) xs=some l)(hL:Cy σ.hp (DT is σ.hp) l=L)(hM:L++[]=M)(ni:I8 L=true)(oY:GT r=true)(hd:Nat.blt d n=true)
  (k:B3 P E n ops rest (σ.put d r) K):l6 P E n ops ⟨some d,.call ⟨.value (.func f),⟨xs⟩,ts⟩,ty,pos,after,none⟩ rest l σ K :=
 ⟨JR (Sp is (caps:=[]) (hM▸hc) pm hL ni oY fun _ _ _ _=>⟨[],rfl,rfl,fun j x c hx=>by simp at hx⟩) hd k⟩
theorem I6{o:Oper}{l:List AV}(i:Nat)(h:B3 P E n ops (o::rest) (σ.frz i) K):l6 P E n ops o rest l σ K:=⟨Dx (Fq i) h⟩
def lits:List Nat:=[0,1,2,3,4,5,6,7,8,9,10,11,12,13,14,15,16,17,18,19,20,21,22,23,24,25,26,27,28,29,30,31,32,33,34,35,36,37,38,39,40,41,42,43,44,45,46,47,48,49,50,51,52,53,54,55,56,57,58,59,60,61,62,63]
def Jg:List Nat→Nat→Option Nat
 |[],_=>none
 |x::_,0=>some x
 |_::r,k+1=>Jg r k
theorem Wb:∀(l:List Nat) (m:Nat),Jg l m=l[m]?
 |[],m=>by simp[Jg]
 |x::r,0=>by simp[Jg]
 |x::r,k+1=>by simp[Jg,Wb r k]
theorem aH{m k:Nat}(h:Jg lits m=some k):k=m:=by
 by_cases hm:m<64
 ·have h2:∀j,j<64→Jg lits j=some j:=by decide
  rw[h2 m hm]at h
  exact(Option.some.inj h).symm
 ·rw[Wb,List.getElem?_eq_none (by simp[lits];omega)]at h
  cases h
def H0(m:Nat)(F:Nat→Prop):Prop :=
 match Jg lits m with
 |some k=>F k
 |none=>F m
theorem E3{m:Nat}{F:Nat→Prop}(h:H0 m F):F m:=by
 unfold H0 at h
 split at h
 ·rename_i hk;rw[aH hk]at h;exact h
 ·exact h
def TA(P:Program)(E:Env)(n:Nat)(ops:Array Oper)(o:Oper)(T:Nat)(x y:Option AV)(rest:List Oper)(σ:St)(K:St→Prop):Prop :=
 match x,y with
 |some (.ref i off),some av=>match A5 σ.hp i with
  |some (.bx τ l)=>MQ P T fun _ sz=>cond (Nat.beq (K4 av).length sz && Nat.ble (off+sz) l.length) (Sr σ.hp av (Xs σ.hp (K4 av) (B3 P E n ops rest (σ.set i (.bx τ (Cw l off (K4 av)))) K))) False
  |_=>False
 |some (.elt i ver k off),some av=>match A5 σ.hp i with
  |some (.row e sz oC l)=>G6 (ver=oC∧off<sz) (MQ P T fun ag szT=>cond (cond ag false (Nat.beq szT 1 && Ad e)) (cond (J1 av) (Sq σ.hp av (Q3 l (k:Int) fun el=>B3 P E n ops rest (σ.set i (.row e sz ver (l.set k (el.set off av)))) K)) (l6 P E n ops o rest [av] σ K)) False)
  |_=>False
 |_,_=>False
def gB(P:Program)(E:Env)(n:Nat)(ops:Array Oper)(d T:Nat)(x y:Option AV)(rest:List Oper)(σ:St)(K:St→Prop):Prop :=
 match x,y with
 |some (.v (.int .i64 m)),some (.v (.int .i64 m'))=>Fs P T fun e sz bs z=>cond (Nat.blt e K8) (G6 (m=m'∧0≤m∧bs*m.toNat≤281474976710656∧m≤9223372036854775807) (H0 σ.nx fun nx=>B3 P E n ops rest ((σ.new (.row e sz 0 (List.replicate m.toNat z))).put d (.row nx 0 m.toNat)) K)) False
 |_,_=>False
def Wc(P:Program)(E:Env)(n:Nat)(ops:Array Oper)(d T:Nat)(x y:Option AV)(rest:List Oper)(σ:St)(K:St→Prop):Prop :=
 match x,y with
 |some (.row i ver len),some (.sl nQ m)=>match A5 σ.hp i with
  |some (.row e sz oC l)=>G6 (ver=oC) (Fs P T fun e' pD bs _=>cond (Nat.beq e e' && Nat.beq sz pD && Nat.beq sz nQ && Nat.blt 0 sz && Nat.blt e J4) (G6 (∀el∈m,∀u∈el,j3 u) (G6 ((len+m.length)*bs≤140737488355328∧len+m.length≤9223372036854775807)
    (B3 P E n ops rest ((σ.set i (.row e sz (ver+1) (l++m))).put d (.row i (ver+1) (len+m.length))) K))) False)
  |_=>False
 |some (.row i ver len),some (.row j um xU)=>match A5 σ.hp i,A5 σ.hp j with
  |some (.row e sz oC l),some (.row _ nQ ver2' m)=>G6 (ver=oC∧um=ver2') (Fs P T fun e' pD bs _=>cond (Nat.beq e e' && Nat.beq sz pD && Nat.beq sz nQ && Nat.blt 0 sz && Nat.blt e J4) (G6 (∀el∈m,∀u∈el,j3 u) (G6 ((len+m.length)*bs≤140737488355328∧len+m.length≤9223372036854775807)
    (B3 P E n ops rest ((σ.set i (.row e sz (ver+1) (l++m))).put d (.row i (ver+1) (len+m.length))) K))) False)
  |_,_=>False
 |some (.v (.slice none 0 0)),some (.sl nQ m)=>Fs P T fun e sz bs _=>cond (Nat.beq sz nQ && Nat.blt 0 sz && Nat.blt e J4) (G6 (∀el∈m,∀u∈el,j3 u) (G6 ((0+m.length)*bs≤140737488355328∧0+m.length≤9223372036854775807)
   (H0 σ.nx fun nx=>B3 P E n ops rest (((σ.new (.row e sz 0 [])).set nx (.row e sz 1 ([]++m))).put d (.row nx 1 (0+m.length))) K))) False
 |_,_=>False
def Wd(P:Program)(E:Env)(n:Nat)(ops:Array Oper)(d T T2:Nat)(x:Option AV)(s:List UInt8)(rest:List Oper)(σ:St)(K:St→Prop):Prop :=
 match x with
 |some (.row i ver len)=>match A5 σ.hp i with
  |some (.row e sz oC l)=>G6 (ver=oC) (Fs P T fun e' pD bs _=>EQ P T2 (cond (Nat.beq e e' && Nat.beq sz 1 && Nat.beq pD 1 && Nat.beq bs 1 && Nat.blt e J4) (fx P e (G6 (len+s.length≤140737488355328) (B3 P E n ops rest ((σ.set i (.row e 1 (ver+1) (l++JH s))).put d (.row i (ver+1) (len+s.length))) K))) False))
  |_=>False
 |some (.v (.slice none 0 0))=>Fs P T fun e sz bs _=>EQ P T2 (cond (Nat.beq sz 1 && Nat.beq bs 1 && Nat.blt e J4) (fx P e (G6 (0+s.length≤140737488355328) (H0 σ.nx fun nx=>B3 P E n ops rest (((σ.new (.row e 1 0 [])).set nx (.row e 1 1 ([]++JH s))).put d (.row nx 1 (0+s.length))) K))) False)
 |_=>False
def aI(P:Program)(E:Env)(n:Nat)(ops:Array Oper)(T:Nat)(x y z:Option AV)(rest:List Oper)(σ:St)(K:St→Prop):Prop :=
 match x,y,z with
 |some (.mp i),some sI,some av=>match A5 σ.hp i,keyOf sI with
  |some (.map m),some k=>Xp P T fun t _=>cond (EP t k && J1 av) (G6 (AD t m) (B3 P E n ops rest (σ.set i (.map (j4 m k av))) K)) False
  |_,_=>False
 |_,_,_=>False
def kI(P:Program)(E:Env)(n:Nat)(ops:Array Oper)(o:Oper)(rest:List Oper)(σ:St)(K:St→Prop):Prop :=
 match o.dst,o.op with
 |some d,.box T x=>cond (Nat.blt d n) (Y7 (F4 σ x) fun av=>Sr σ.hp av (H0 σ.nx fun nx=>B3 P E n ops rest ((σ.new (.box (K4 av))).put d (.ref nx 0)) K)) False
 |some d,.alloc T=>cond (Nat.blt d n) (Xo P T fun l=>H0 σ.nx fun nx=>B3 P E n ops rest ((σ.new (.box l)).put d (.ref nx 0)) K) False
 |none,.store T x y=>TA P E n ops ⟨o.dst,o.op,o.type,o.pos,o.after,none⟩ T (F4 σ x) (F4 σ y) rest σ K
 |some d,.makeSlice T x y=>cond (Nat.blt d n) (gB P E n ops d T (F4 σ x) (F4 σ y) rest σ K) False
 |some d,.makeMap T none=>cond (Nat.blt d n) (H0 σ.nx fun nx=>B3 P E n ops rest ((σ.new (.map [])).put d (.mp nx)) K) False
 |none,.mapUpdate T x y z=>aI P E n ops T (F4 σ x) (F4 σ y) (F4 σ z) rest σ K
 |some d,.call ⟨.builtin .append,⟨[x,y]⟩,⟨[T,T']⟩⟩=>match F4 σ y with
  |some (.str s)=>cond (Nat.blt d n) (Wd P E n ops d T T' (F4 σ x) s rest σ K) False
  |_=>cond (Nat.blt d n && Nat.beq T T') (Wc P E n ops d T (F4 σ x) (F4 σ y) rest σ K) False
 |some d,.call ⟨.builtin .unsafeSliceData,⟨[x]⟩,ts⟩=>l6 P E n ops ⟨o.dst,o.op,o.type,o.pos,o.after,none⟩ rest [] σ K
 |some d,.call ⟨.builtin .unsafeString,⟨[x,y]⟩,ts⟩=>l6 P E n ops ⟨o.dst,o.op,o.type,o.pos,o.after,none⟩ rest [] σ K
 |some d,.call ⟨.value (.func f),⟨args⟩,_⟩=>cond (Nat.blt d n) (match r9 (F4 σ) args with
  |some l=>cond (I8 l) (Ry P f (l++[]) fun av=>B3 P E n ops rest (σ.put d av) K) (l6 P E n ops ⟨o.dst,o.op,o.type,o.pos,o.after,none⟩ rest l σ K)
  |none=>False) False
 |some d,.call ⟨.value (.tmp t),⟨args⟩,ts⟩=>match F4 σ (.tmp t),r9 (F4 σ) args with
  |some (.fo _ caps),some l=>l6 P E n ops ⟨o.dst,o.op,o.type,o.pos,o.after,none⟩ rest (l++caps) σ K
  |_,_=>cond (Nat.blt d n) (GU P (.call ⟨.value (.tmp t),⟨args⟩,ts⟩) (F4 σ) σ.hp fun av=>B3 P E n ops rest (σ.put d av) K) False
 |some d,.buildSlice T len ⟨parts⟩=>match CM (F4 σ) parts with
  |some ps=>cond (ps.all fun p=>J1 p.2) (cond (Nat.blt d n) (GU P (.buildSlice T len ⟨parts⟩) (F4 σ) σ.hp fun av=>B3 P E n ops rest (σ.put d av) K) False) (l6 P E n ops ⟨o.dst,o.op,o.type,o.pos,o.after,none⟩ rest (ps.map (·.2)) σ K)
  |none=>False
 |some d,.slice T x lo hi none=>match F4 σ x with
  |some (.row i v len)=>l6 P E n ops ⟨o.dst,o.op,o.type,o.pos,o.after,none⟩ rest [.row i v len] σ K
  |_=>cond (Nat.blt d n) (GU P (.slice T x lo hi none) (F4 σ) σ.hp fun av=>B3 P E n ops rest (σ.put d av) K) False
 |some d,.makeFunc f ⟨x::xs⟩ ⟨[]⟩=>l6 P E n ops ⟨o.dst,o.op,o.type,o.pos,o.after,none⟩ rest [] σ K
 |some d,.makeFunc f ⟨[]⟩ ⟨xs⟩=>cond (Nat.blt d n) (match r9 (F4 σ) xs with
  |some l=>cond (I8 l) (GU P (.makeFunc f ⟨[]⟩ ⟨xs⟩) (F4 σ) σ.hp fun av=>B3 P E n ops rest (σ.put d av) K) (l6 P E n ops ⟨o.dst,o.op,o.type,o.pos,o.after,none⟩ rest l σ K)
  |none=>False) False
 |some d,op=>cond (Nat.blt d n) (GU P op (F4 σ) σ.hp fun av=>B3 P E n ops rest (σ.put d av) K) False
 |_,_=>False
theorem TB{T:Nat}(h:TA P E n ops ⟨none,.store T x y,ty,pos,after,none⟩ T (F4 σ x) (F4 σ y) rest σ K):B3 P E n ops (⟨none,.store T x y,ty,pos,after,none⟩::rest) σ K:=by
 unfold TA at h
 split at h
 ·rename_i hx hy
  split at h
  ·rename_i hb
   obtain⟨⟨ag,sz,tv,h⟩⟩:=h
   obtain⟨hs,h⟩:=cond_false h
   simp only[Bool.and_eq_true,Nat.beq_eq,Nat.ble_eq]at hs
   obtain⟨hf,h⟩:=Je h
   obtain⟨ho,h⟩:=Nh h
   exact PJ (ag:=ag) (sz:=sz) hx hy hb hf ho hs.1 hs.2 h
  ·exact h.elim
 ·rename_i hx hy
  split at h
  ·rename_i e sz oC l hb
   obtain⟨⟨rfl,pN⟩,h⟩:=h
   obtain⟨⟨ag,szT,tv,h⟩⟩:=h
   obtain⟨hs,h3⟩:=cond_false h
   clear h
   cases ag with
   |true=>cases hs
   |false =>
    have h4:=h3
    clear h3
    cases ni:J1 _ with
    |false =>
     rw[ni]at h4
     exact h4.h
    |true =>
     rw[ni]at h4
     obtain⟨ho,h⟩:=Jd h4
     obtain⟨h0,h1,hk⟩:=h
     rename_i k _ _ _
     have nN:k<l.length:=by omega
     have nJ:l[k]?=some l[k]:=List.getElem?_eq_getElem nN
     have nS:(Nat.beq szT 1 && Ad e)=true:=hs
     rw[Bool.and_eq_true]at nS
     exact PK (szT:=szT) hx hy hb nJ pN (Nat.eq_of_beq_eq_true nS.1) ni ho (hk _ (by rw[Int.toNat_natCast];exact nJ)) nS.2
  ·exact h.elim
 ·exact h.elim
theorem aJ{o:Oper}(hg:o.guard=none)(h:kI P E n ops o rest σ K):B3 P E n ops (o::rest) σ K:=by
 obtain⟨dst,op,ty,pos,after,guard⟩:=o
 simp only at hg
 subst hg
 have quiet:∀{d:Nat} {op:Op},Nat.blt d n=true→GU P op (F4 σ) σ.hp (fun av=>B3 P E n ops rest (σ.put d av) K)→B3 P E n ops (⟨some d,op,ty,pos,after,none⟩::rest) σ K:=by
  intro d op hd h
  obtain⟨av,hq,h⟩:=fy (E:=E) (nx:=σ.nx) (ty:=ty) h
  exact JR hq hd h
 unfold kI at h
 simp only at h
 split at h
 ·rename_i ho
  obtain⟨hd,h⟩:=cond_false h
  obtain⟨av,hx,h⟩:=J7 h
  obtain⟨hf,h⟩:=Je h
  exact ce hx hf hd (E3 h)
 ·obtain⟨hd,h⟩:=cond_false h
  obtain⟨⟨l,tz,h⟩⟩:=h
  exact Xl (l:=l) hd (E3 h)
 ·exact TB h
 ·obtain⟨hd,h⟩:=cond_false h
  unfold gB at h
  split at h
  ·rename_i hx hy
   obtain⟨⟨e,sz,bs,z,ts,tz,tb,hz,h⟩⟩:=h
   obtain⟨qg,hq⟩:=cond_false h
   clear h
   obtain⟨⟨rfl,h0,h1,h2⟩,hq⟩:=hq
   exact aA (e:=e) (z:=z) (by_:=bs) hx hy h0 h1 h2 hz (Nat.blt_eq▸qg) hd (E3 hq)
  ·exact h.elim
 ·obtain⟨hd,h⟩:=cond_false h
  exact Sl hd (E3 h)
 ·unfold aI at h
  split at h
  ·rename_i hx hy hz
   split at h
   ·rename_i hb hk
    obtain⟨⟨k,e,t,z,tm,h⟩⟩:=h
    obtain⟨hc,h⟩:=cond_false h
    simp only[Bool.and_eq_true]at hc
    exact PL (T:=_) hx hb hy hk hc.1 h.h hz hc.2 h.k
   ·exact h.elim
  ·exact h.elim
 ·split at h
  ·rename_i zJ
   obtain⟨hd,h3⟩:=cond_false h
   clear h
   unfold Wd at h3
   split at h3
   ·rename_i hx
    split at h3
    ·rename_i hb
     obtain⟨rfl,h⟩:=h3
     obtain⟨⟨e,sz,bs,z,ts,tz,tb,hz,h⟩⟩:=h
     obtain⟨tu,h⟩:=h
     obtain⟨hc,h5⟩:=cond_false h
     clear h
     simp only[Bool.and_eq_true,Nat.beq_eq,Nat.blt_eq]at hc
     obtain⟨⟨⟨⟨rfl,rfl⟩,rfl⟩,rfl⟩,oR⟩:=hc
     obtain⟨⟨nM,h⟩⟩:=h5
     exact NV hx hb zJ oR nM hd h
    ·exact h3.elim
   ·rename_i hx
    obtain⟨⟨e,sz,bs,z,ts,tz,tb,hz,h⟩⟩:=h3
    obtain⟨tu,h⟩:=h
    obtain⟨hc,h5⟩:=cond_false h
    clear h
    simp only[Bool.and_eq_true,Nat.beq_eq,Nat.blt_eq]at hc
    obtain⟨⟨rfl,rfl⟩,oR⟩:=hc
    obtain⟨⟨nM,h⟩⟩:=h5
    exact JX hx zJ oR nM hd (E3 h)
   ·exact h3.elim
  rename_i zJ
  clear zJ
  obtain⟨hd,h3⟩:=cond_false h
  clear h
  have h:=h3
  clear h3
  simp only[Bool.and_eq_true,Nat.beq_eq]at hd
  obtain⟨hd,rfl⟩:=hd
  unfold Wc at h
  split at h
  ·rename_i hx hy
   split at h
   ·rename_i hb
    obtain⟨rfl,h⟩:=h
    obtain⟨⟨e,sz,bs,z,ts,tz,tb,hz,h⟩⟩:=h
    obtain⟨hc,h3⟩:=cond_false h
    clear h
    simp only[Bool.and_eq_true,Nat.beq_eq,Nat.blt_eq]at hc
    obtain⟨⟨⟨⟨rfl,rfl⟩,rfl⟩,nj⟩,oR⟩:=hc
    obtain⟨oT,h⟩:=h3
    obtain⟨nM,h⟩:=h
    exact NW (z:=z) (by_:=bs) hx hb hy oT hz nj oR nM.1 nM.2 hd h
   ·exact h.elim
  ·rename_i hx hy
   split at h
   ·rename_i hb nl
    obtain⟨⟨rfl,rfl⟩,h⟩:=h
    obtain⟨⟨e,sz,bs,z,ts,tz,tb,hz,h⟩⟩:=h
    obtain⟨hc,h3⟩:=cond_false h
    clear h
    simp only[Bool.and_eq_true,Nat.beq_eq,Nat.blt_eq]at hc
    obtain⟨⟨⟨⟨rfl,rfl⟩,rfl⟩,nj⟩,oR⟩:=hc
    obtain⟨oT,h⟩:=h3
    obtain⟨nM,h⟩:=h
    exact MO (z:=z) (by_:=bs) hx hb hy nl oT hz nj oR nM.1 nM.2 hd h
   ·exact h.elim
  ·rename_i hx hy
   obtain⟨⟨e,sz,bs,z,ts,tz,tb,hz,h⟩⟩:=h
   obtain⟨hc,h3⟩:=cond_false h
   clear h
   simp only[Bool.and_eq_true,Nat.beq_eq,Nat.blt_eq]at hc
   obtain⟨⟨rfl,nj⟩,oR⟩:=hc
   obtain⟨oT,h⟩:=h3
   obtain⟨nM,h⟩:=h
   exact NX (z:=z) (by_:=bs) hx hy oT hz nj oR nM.1 nM.2 hd (E3 h)
  ·exact h.elim
 ·exact h.h
 ·exact h.h
 ·obtain⟨hd,h⟩:=cond_false h
  split at h
  ·rename_i l hl
   cases hc:I8 l with
   |true =>
    rw[hc]at h
    obtain⟨⟨r,hr,h⟩⟩:=h
    rw[List.append_nil]at hr
    exact JR (Sc hr hl hc) hd h
   |false =>
    rw[hc]at h
    exact h.h
  ·exact h.elim
 ·split at h
  ·exact h.h
  ·obtain⟨hd,h⟩:=cond_false h
   exact quiet hd h
 ·split at h
  ·rename_i ps sr
   cases hc:ps.all fun p=>J1 p.2 with
   |true =>
    rw[hc]at h
    obtain⟨hd,h⟩:=cond_false h
    exact quiet hd h
   |false =>
    rw[hc]at h
    exact h.h
  ·exact h.elim
 ·split at h
  ·exact h.h
  ·obtain⟨hd,h⟩:=cond_false h
   exact quiet hd h
 ·exact h.h
 ·obtain⟨hd,h⟩:=cond_false h
  split at h
  ·rename_i l hl
   cases hc:I8 l with
   |true =>
    rw[hc]at h
    exact quiet hd h
   |false =>
    rw[hc]at h
    exact h.h
  ·exact h.elim
 ·obtain⟨hd,h⟩:=cond_false h
  exact quiet hd h
 ·exact h.elim
structure P8(b g:Bool)(A B:Prop):Prop where
 t:b=g→A
 f:b=(!g)→B
theorem dC{A B:Prop}(k:A):P8 true true A B:=⟨fun _=>k,fun h=>by cases h⟩
theorem dD{A B:Prop}(k:A):P8 false false A B:=⟨fun _=>k,fun h=>by cases h⟩
theorem dE{A B:Prop}(k:B):P8 true false A B:=⟨(fun h=>by cases h),fun _=>k⟩
theorem dF{A B:Prop}(k:B):P8 false true A B:=⟨(fun h=>by cases h),fun _=>k⟩
theorem dG{p A B:Prop}[Decidable p](h1:p→A)(h2:¬p→B):P8 (decide p) true A B:=⟨fun h=>h1 (of_decide_eq_true h),fun h=>h2 (of_decide_eq_false h)⟩
theorem dH{p A B:Prop}[Decidable p](h1:¬p→A)(h2:p→B):P8 (decide p) false A B:=⟨fun h=>h1 (of_decide_eq_false h),fun h=>h2 (of_decide_eq_true h)⟩
theorem dI{b:Bool}{A B:Prop}(h1:b=true→A)(h2:b=false→B):P8 b true A B:=⟨h1,h2⟩
theorem dJ{b:Bool}{A B:Prop}(h1:b=false→A)(h2:b=true→B):P8 b false A B:=⟨h1,h2⟩
theorem aK{p A B:Prop}[Decidable p](h1:¬p→A)(h2:p→B):P8 (!decide p) true A B:=⟨fun h=>h1 (by simpa using h),fun h=>h2 (by simpa using h)⟩
theorem aL{p A B:Prop}[Decidable p](h1:p→A)(h2:¬p→B):P8 (!decide p) false A B:=⟨fun h=>h1 (by simpa using h),fun h=>h2 (by simpa using h)⟩
theorem aM{b:Bool}{A B:Prop}(h1:b=false→A)(h2:b=true→B):P8 (!b) true A B:=⟨fun h=>h1 (by simpa using h),fun h=>h2 (by simpa using h)⟩
theorem aN{b:Bool}{A B:Prop}(h1:b=true→A)(h2:b=false→B):P8 (!b) false A B:=⟨fun h=>h1 (by simpa using h),fun h=>h2 (by simpa using h)⟩
def kJ(P:Program)(E:Env)(n:Nat)(ops:Array Oper)(l:List Oper)(σ:St)(K:St→Prop):Prop :=
 match l with
 |[]=>K σ
 |⟨dst,op,ty,pos,after,none⟩::rest=>kI P E n ops ⟨dst,op,ty,pos,after,none⟩ rest σ K
 |⟨some dd,op,ty,pos,after,some (j,g)⟩::rest=>match (ops[j]?).bind (·.dst)with
  |some dj=>cond (Nat.blt dd n) (match look σ.sl dj with
   |some (.v (.bool b))=>P8 b g (B3 P E n ops (⟨some dd,op,ty,pos,after,none⟩::rest) (σ.put dj (.v (.bool g))) K)
     (B3 P E n ops rest ((σ.put dj (.v (.bool !g))).put dd (.v undef)) K)
   |some (.v (.tuple t))=>B3 P E n ops rest (σ.put dd (.v undef)) K
   |_=>False) False
  |none=>False
 |⟨none,_,_,_,_,some _⟩::_=>False
theorem Dy{l:List Oper}(h:kJ P E n ops l σ K):B3 P E n ops l σ K:=by
 unfold kJ at h
 split at h
 ·exact cT h
 ·exact aJ rfl h
 ·split at h
  ·rename_i dj hj
   obtain⟨qm,h⟩:=cond_false h
   split at h
   ·rename_i b hb
    exact SR hj hb qm h.t h.f
   ·rename_i t hb
    exact JE hj hb rfl qm h
   ·exact h.elim
  ·exact h.elim
 ·exact h.elim
structure Np(P:Program)(E:Env)(n:Nat)(c:Code)(σ:St)(Q:Exit→St→Prop):Prop where
 h:C9 P E n (.loop c) σ Q
structure DU(P:Program)(E:Env)(n:Nat)(id:Nat)(ops:Array Oper)(σ:St)(Q:Exit→St→Prop):Prop where
 h:C9 P E n (.region id ops true) σ Q
def Xv(P:Program)(E:Env)(n:Nat)(c:Code)(σ:St)(Q:Exit→St→Prop):Prop :=
 match c with
 |.seq a b=>C9 P E n a σ (Ru (fun σ'=>C9 P E n b σ' Q) Q)
 |.region _ ops false=>B3 P E n ops ops.toList σ (fun σ'=>Q .normal σ')
 |.region id ops true=>DU P E n id ops σ Q
 |.skip=>Q .normal σ
 |.ret=>Q .ret σ
 |.exit i=>Q (.exit i) σ
 |.block id c=>C9 P E n c σ (NH id Q)
 |.cond (.tmp t) a b=>match look σ.sl t with
  |some (.v (.bool c))=>Cb c (C9 P E n a (σ.put t (.v (.bool true))) Q) (C9 P E n b (σ.put t (.v (.bool false))) Q)
  |_=>False
 |.cond (.const (.bool true)) a b=>C9 P E n a σ Q
 |.cond (.const (.bool false)) a b=>C9 P E n b σ Q
 |.loop c=>Np P E n c σ Q
 |_=>False
theorem aO{c:Code}(h:Xv P E n c σ Q):C9 P E n c σ Q:=by
 unfold Xv at h
 split at h
 ·exact gU h
 ·exact XZ rfl h
 ·exact h.h
 ·exact cU h
 ·exact gV h
 ·exact cV h
 ·exact Zk h
 ·split at h
  ·rename_i hc;exact Xd hc h.t h.f
  ·exact h.elim
 ·exact Xa rfl h
 ·exact Xb rfl h
 ·exact h.h
 ·exact h.elim
theorem B0{ι:Type}{c:Code}(S:ι→St)(I:ι→Prop)(m:ι→Nat)(x0:ι)(hI:I x0)(h0:St.le E n σ (S x0))
  (h:∀x,I x→C9 P E n c (S x) (Ru (fun σ'=>∃y,I y∧m y<m x∧St.le E n σ' (S y)) Q)):Np P E n c σ Q:=⟨cW S I m x0 hI h0 h⟩
end rules
end Go.Av
