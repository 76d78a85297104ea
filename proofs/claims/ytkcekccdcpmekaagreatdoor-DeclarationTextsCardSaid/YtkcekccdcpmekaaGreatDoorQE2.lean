/- Maps, tuples, closures, parts of strings and of rows. States that say less; freezing; what a function does. One rule for every operation: what is left to prove is reckoned by unfolding. The walk: operations that make or write memory, code, and what a function does. -/
import Derived.Test.YtkcekccdcpmekaaGreatDoorQE1
set_option linter.unusedSimpArgs false
set_option linter.unusedVariables false
set_option linter.unnecessarySimpa false
set_option maxHeartbeats 64000000
namespace Go.Av
open Go Go.RowKit
class Fw(P:Program)(T:Nat)(k e:outParam Nat)(t:outParam TypeDesc)(z:outParam Value):Prop where
 out:P.underlying T=some (.map k e)∧P.underlying k=some t∧(P.info? e).bind (·.zero)=some z
section rules
variable {P:Program} {E:Env} {n nx:Nat} {hp:Hp} {ev:Operand→Option AV} {ops:Array Oper} {rest:List Oper} {σ:St} {K:St→Prop} {Q:Exit→St→Prop}
variable {d:Nat} {ty:TypeId} {pos:String} {after:Array Edge} {x y z:Operand}
def Co(t:TypeDesc)(m:List (Key×AV)):Prop:=∀p∈m,Em t p.1=true
theorem Ab.map{θ:Th}{a:Act}{w:World}(h:Ab E θ nx hp ev a w){i:Nat}{m:List (Key×AV)}(hb:A7 hp i=some (.map m)):
  ∃r es clock,θ i=.map (some r)∧w.heap[r]?=some (.map es clock)∧es.size=m.length ∧
   ∀(j:Nat) (q:Key×AV) e,m[j]?=some q→es[j]?=some e→e.key=q.1.val∧Im (kx E θ nx hp w).U w q.2 e.val:=(h.owns i _ hb).2
theorem run_findKey{kt:TypeId}{t:TypeDesc}{k:Key}(ht:P.underlying kt=some t){es:List MapEntry}{q:Option (Nat×Value)}(hq:Instr.findNow t k.val es 0=some q)(w:World):(Instr.findKey kt k.val es).run P w=.ok q w:=by
 simp[Instr.findKey,Sem.run_bind,run_underlying ht,hq,Sem.run_pure]
def DD(m:List (Key×AV))(k:Key)(d:AV):AV:=match Dm m k with
 |some v=>v
 |none=>d
theorem Lz{T kt e:Nat}{t:TypeDesc}{zv:Value}[tm:Fw P T kt e t zv]{θ:Th}{a:Act}{w:World}(h:Ab E θ nx hp ev a w){i:Nat}{m:List (Key×AV)}{oW:AV}{k:Key}(hx:ev x=some (.mp i))(hb:A7 hp i=some (.map m))(hy:ev y=some oW)(hk:keyOf oW=some k)(oG:Em t k=true)(hm:Co t m)(ok:Bool):
  ∃v,(Instr.lookup T (a.eval x) (a.eval y) ok).run P w=.ok (if ok then .tuple #[v,.bool (Dm m k).isSome]else v) w∧G2 (kx E θ nx hp w) (DD m k (w8 zv)) v:=by
 obtain⟨hu,ht,hz⟩:=tm.out
 obtain⟨r,es,clock,hθ,hr,hsz,qE⟩:=h.map hb
 obtain⟨hv,ld⟩:=Wt (h.rel hx)
 have mN:a.eval x=.map (some r):=by rw[hv];exact hθ
 have uU:=OI hk (h.rel hy)
 have mx:=En oG
 obtain⟨q,hq,mi⟩:=findNow_spec (t:=t) mx m es.toList 0 (by simpa using hsz) (fun p hp=>En (hm p hp)) (fun j p e hj he=>(qE j p e hj (by simpa using he)).1)
 have mB:=ZH (m:=m) (k:=k)
 simp only[Instr.lookup,Sem.run_bind,run_underlying hu,Result.andThen_ok,mN,uU,MapKept.run_getObj_map hr,Sem.run_pure,Ce ht mx,run_findKey ht hq]
 cases hf:m.findIdx? (fun p=>decide (p.1=k))with
 |none =>
  rw[hf]at mi mB
  subst mi
  simp only at mB
  cases hi:P.info? e with
  |none=>rw[hi]at hz;simp at hz
  |some inf =>
   rw[hi]at hz
   simp only[Sem.run_bind,y0 hi (by simpa using hz),Result.andThen_ok,Sem.run_pure,mB]
   refine⟨zv,by cases ok<;>rfl,?_⟩
   simp only[DD,mB]
   exact .im (Gf zv)
 |some j =>
  rw[hf]at mi mB
  obtain⟨e,he,rfl⟩:=mi
  obtain⟨p,hp1,nZ,wZ⟩:=mB
  simp only[Sem.run_pure,Result.andThen_ok,wZ]
  refine⟨e.val,by cases ok<;>rfl,?_⟩
  simp only[DD,wZ]
  exact .im (qE j p e hp1 (by simpa using he)).2
theorem ZI{T kt e:Nat}{t:TypeDesc}{zv:Value}[tm:Fw P T kt e t zv]{i:Nat}{m:List (Key×AV)}{oW:AV}{k:Key}(hx:ev x=some (.mp i))(hb:A7 hp i=some (.map m))(hy:ev y=some oW)(hk:keyOf oW=some k)(oG:Em t k=true)(hm:Co t m):
  I2 P E nx hp ev (.lookup T x y false) ty (DD m k (w8 zv)) :=
 F9 fun _ _ _ θ a w h=>by
  obtain⟨v,h1,h2⟩:=Lz (P:=P) (T:=T) h hx hb hy hk oG hm false
  exact⟨v,by simp only[execOp,Sem.run_bind,h1,Result.andThen_ok,Sem.run_pure];rfl,h2⟩
theorem Sn{T kt e:Nat}{t:TypeDesc}{zv:Value}[tm:Fw P T kt e t zv]{i:Nat}{m:List (Key×AV)}{oW:AV}{k:Key}(hx:ev x=some (.mp i))(hb:A7 hp i=some (.map m))(hy:ev y=some oW)(hk:keyOf oW=some k)(oG:Em t k=true)(hm:Co t m):
  I2 P E nx hp ev (.lookup T x y true) ty (.tup [DD m k (w8 zv),.b (Dm m k).isSome]) :=
 F9 fun _ _ _ θ a w h=>by
  obtain⟨v,h1,h2⟩:=Lz (P:=P) (T:=T) h hx hb hy hk oG hm true
  refine⟨.tuple #[v,.bool (Dm m k).isSome],by simp only[execOp,Sem.run_bind,h1,Result.andThen_ok,Sem.run_pure];rfl,?_⟩
  exact .tup [_,_] [v,.bool (Dm m k).isSome] rfl fun j u z hu hz=>by
   match j,hu,hz with
   |0,hu,hz=>cases hu;cases hz;exact h2
   |1,hu,hz=>cases hu;cases hz;exact .im (.v _)
theorem QH(k:Key)(m:Nat):Instr.sameBits m k.val k.val=true:=by
 cases k with
 |s l =>
  simp only[Key.val,Instr.sameBits]
  show (l.toArray == l.toArray)=true
  simp
 |i k n=>simp[Key.val,Instr.sameBits]
theorem OJ{k:Key}{v:AV}:∀(m:List (Key×AV)),(match m.findIdx? (fun p=>decide (p.1=k))with
   |none=>Dn m k v=m++[(k,v)]
   |some j=>Dn m k v=m.set j (k,v))
 |[]=>rfl
 |(k',v')::r=>by
  rw[List.findIdx?_cons]
  by_cases e:k'=k
  ·simp only[e,decide_true,if_true]
   simp[Dn]
  ·simp only[e,decide_false]
   have ih:=OJ (k:=k) (v:=v) r
   cases hf:r.findIdx? (fun p=>decide (p.1=k))with
   |none=>rw[hf]at ih;simp[Dn,e];exact ih
   |some j=>rw[hf]at ih;simp[Dn,e];exact ih
theorem NM{T kt e:Nat}{t:TypeDesc}{zv:Value}[tm:Fw P T kt e t zv]{i:Nat}{m:List (Key×AV)}{oW av:AV}{k:Key}(hx:H1 σ x=some (.mp i))(hb:A7 σ.hp i=some (.map m))(hy:H1 σ y=some oW)(hk:keyOf oW=some k)(oG:Em t k=true)(hm:Co t m)(hz:H1 σ z=some av)(ku:O2 av=true)
  (kk:B5 P E n ops rest (σ.set i (.map (Dn m k av))) K):B5 P E n ops (⟨none,.mapUpdate T x y z,ty,pos,after,none⟩::rest) σ K :=
 Fu hb (fun θ a w h=>by
  obtain⟨hu,ht,_⟩:=tm.out
  obtain⟨r,es,clock,hθ,hr,hsz,qE⟩:=h.map hb
  obtain⟨hv,ld⟩:=Wt (h.rel hx)
  have mN:a.eval x=.map (some r):=by rw[hv];exact hθ
  have uU:=OI hk (h.rel hy)
  have mx:=En oG
  obtain⟨q,hq,mi⟩:=findNow_spec (t:=t) mx m es.toList 0 (by simpa using hsz) (fun p hp=>En (hm p hp)) (fun j p e hj he=>(qE j p e hj (by simpa using he)).1)
  have my:=OJ (k:=k) (v:=av) m
  have kj:r<w.heap.size:=(Array.getElem?_eq_some_iff.1 hr).1
  have pS:∃sG nz,(Instr.mapUpdate T (a.eval x) (a.eval y) (a.eval z)).run P w=.ok () { w with heap:=w.heap.setIfInBounds r (.map sG nz) }∧sG.size=(Dn m k av).length ∧
    ∀(j:Nat) (q:Key×AV) e,(Dn m k av)[j]?=some q→sG[j]?=some e→e.key=q.1.val∧Im (kx E θ σ.nx σ.hp w).U w q.2 e.val:=by
   have sW:=(Ad ku).im (h.rel hz)
   cases hf:m.findIdx? (fun p=>decide (p.1=k))with
   |none =>
    rw[hf]at mi my
    subst mi
    refine⟨es.push { key:=k.val,val:=a.eval z,born:=clock },clock+1,?_,by simp only[my];simp[hsz],fun j q e hj he=>?_⟩
    ·simp only[Instr.mapUpdate,Sem.run_bind,run_underlying hu,Result.andThen_ok,mN,uU,MapKept.run_getObj_map hr,Sem.run_pure,Ce ht mx,run_findKey ht hq,MapKept.run_setObj_map _ hr]
    ·simp only[my]at hj
     rw[Array.getElem?_push]at he
     rw[List.getElem?_append]at hj
     split at hj
     ·rename_i mf
      rw[if_neg (by omega)]at he
      exact qE j q e hj he
     ·rename_i mw
      have:j=m.length:=by
       rcases Nat.lt_or_ge m.length j with h1|h1
       ·rw[List.getElem?_eq_none (by simp;omega)]at hj;cases hj
       ·omega
      subst this
      rw[if_pos (by omega)]at he
      cases he
      simp at hj
      subst hj
      exact⟨rfl,sW⟩
   |some j0 =>
    rw[hf]at mi my
    obtain⟨e0,rU,rfl⟩:=mi
    have mc:j0<m.length:=by
     have:=(List.getElem?_eq_some_iff.1 rU).1
     simp at this
     omega
    have xu:m[j0]?=some m[j0]:=List.getElem?_eq_getElem mc
    have rh:m[j0].1=k:=by
     have:=List.findIdx?_eq_some_iff_getElem.1 hf
     exact of_decide_eq_true this.2.1
    have nT:e0.key=k.val:=by rw[(qE j0 _ e0 xu (by simpa using rU)).1,rh]
    refine⟨es.modify j0 fun e=>{ e with key:=k.val,val:=a.eval z },clock,?_,by simp only[my];simp[hsz],fun j q e hj he=>?_⟩
    ·have uf:es[j0]?=some e0:=by simpa using rU
     simp only[Instr.mapUpdate,Sem.run_bind,run_underlying hu,Result.andThen_ok,mN,uU,MapKept.run_getObj_map hr,Sem.run_pure,Ce ht mx,run_findKey ht hq,Nat.zero_add,uf,Option.map_some,Option.getD_some,Instr.keyThatStays,nT,QH,if_true,MapKept.run_setObj_map _ hr]
    ·simp only[my]at hj
     rw[Array.getElem?_modify]at he
     rw[List.getElem?_set]at hj
     by_cases ej:j0=j
     ·subst ej
      rw[if_pos rfl]at he hj
      rw[if_pos mc]at hj
      cases hj
      cases hh:es[j0]? with
      |none=>rw[hh]at he;simp at he
      |some e1=>rw[hh]at he;simp at he;subst he;exact⟨rfl,sW⟩
     ·rw[if_neg ej]at he hj
      exact qE j q e hj he
  obtain⟨sG,nz,lN,vk,sd⟩:=pS
  refine⟨{ w with heap:=w.heap.setIfInBounds r (.map sG nz) },by simp only[execOp,Sem.run_bind,lN,Result.andThen_ok,Sem.run_pure],rfl,rfl,rfl,by simp,fun k hk=>?_,rfl,fun le=>?_⟩
  ·have:k≠r:=by intro e;subst e;exact hk (by rw[hθ];rfl)
   simp[Array.getElem?_setIfInBounds_ne (Ne.symm this)]
  ·refine⟨r,sG,nz,by simp[cx,G8,hθ],by simp[cx,kj],vk,fun j q e hj he=>⟨(sd j q e hj he).1,((sd j q e hj he).2.mono le.heap le.U)⟩⟩) kk
theorem OK{l:List AV}{av:AV}{k:Nat}(hx:ev x=some (.tup l))(hk:l[k]?=some av):I2 P E nx hp ev (.extract x k) ty av :=
 F9 fun _ _ _ θ a w h=>by
  have:∃cs:List Value,a.eval x=.tuple cs.toArray∧l.length=cs.length∧∀(j:Nat) u z,l[j]?=some u→cs[j]?=some z→G2 (kx E θ nx hp w) u z:=by
   have r:=h.rel hx
   generalize a.eval x=v at r
   cases r with
   |im hi=>cases hi with|tup l cs hl hc=>exact⟨cs,rfl,hl,fun j u z hu hz=>.im (hc j u z hu hz)⟩
   |tup l cs hl hc=>exact⟨cs,rfl,hl,hc⟩
  obtain⟨cs,hv,hl,hr⟩:=this
  have kj:k<cs.length:=by rw[←hl];exact(List.getElem?_eq_some_iff.1 hk).1
  have hc:cs[k]?=some cs[k]:=List.getElem?_eq_getElem kj
  refine⟨cs[k],?_,hr k av _ hk hc⟩
  simp only[execOp,hv,Instr.extract]
  simp[hc,Sem.run_bind,Sem.run_pure]
theorem QI{f:Nat}{xs:List Operand}{caps:List AV}(ha:s9 ev xs=some caps)(hf:f<Ee):I2 P E nx hp ev (.makeFunc (.func f) #[] xs.toArray) ty (.fo f caps) :=
 F9 fun _ _ _ θ a w h=>by
  obtain⟨hl,hr⟩:=Ba h xs caps ha
  exact⟨.func (.func f) #[] (xs.map a.eval).toArray,by simp[execOp,Instr.makeFunc,Sem.run_bind,Sem.run_pure],by
   have:=G2.fo (c:=kx E θ nx hp w) f caps (xs.map a.eval) (by simp[hl]) fun j u z hu hz=>hr j u z hu hz
   unfold Pl at this
   rwa[if_pos hf]at this⟩
theorem QJ{f:Nat}{xs:List Operand}{caps:List AV}(ha:s9 ev xs=some caps):I2 P E nx hp ev (.makeFunc (.func f) xs.toArray #[]) ty (.fo (Ee+f) caps) :=
 F9 fun _ _ _ θ a w h=>by
  obtain⟨hl,hr⟩:=Ba h xs caps ha
  exact⟨.func (.func f) (xs.map a.eval).toArray #[],by simp[execOp,Instr.makeFunc,Sem.run_bind,Sem.run_pure],by
   have:=G2.fo (c:=kx E θ nx hp w) (Ee+f) caps (xs.map a.eval) (by simp[hl]) fun j u z hu hz=>hr j u z hu hz
   unfold Pl at this
   rwa[if_neg (by omega),Nat.add_sub_cancel_left]at this⟩
theorem VB{f:Nat}{xs:List Operand}{caps:List AV}(ha:s9 ev xs=some caps)(ku:M3 caps=true):I2 P E nx hp ev (.makeFunc (.func f) #[] xs.toArray) ty (.fn f caps) :=
 F9 fun _ _ _ θ a w h=>by
  obtain⟨hl,hr⟩:=Ba h xs caps ha
  refine⟨.func (.func f) #[] (xs.map a.eval).toArray,by simp[execOp,Instr.makeFunc,Sem.run_bind,Sem.run_pure],.im (.fn f caps _ (by simp[hl]) fun j u z hu hz=>?_)⟩
  exact(U2 ku u (List.mem_of_getElem? hu)).im (hr j u z hu hz)
theorem So(l:List UInt8)(i j:Nat):((⟨l.toArray⟩:ByteArray).extract i j)=⟨((l.take j).drop i).toArray⟩:=by
 apply ByteArray.ext
 simp[ByteArray.data_extract]
 rw[List.drop_take]
def CF(ev:Operand→Option AV)(uu:Nat):Option Operand→Option Int
 |none=>some uu
 |some x=>match ev x with
  |some (.v (.int _ i))=>some i
  |_=>none
theorem Fx{k:IntKind}{i:Int}{m:Nat}(h0:0≤i)(h1:i≤m)(c:BoundsCode)(w:World):(Instr.sliceBound (.int k i) m c).run P w=.ok i.toNat w:=by
 simp[Instr.sliceBound,asIntOf,Sem.run_bind,Sem.run_pure,h0,h1]
theorem HR{isS:Bool}{len cap:Nat}{lo hi:Option Operand}{l h:Int}{θ:Th}{a:Act}{w:World}(nV:Ab E θ nx hp ev a w)(hl:CF ev 0 lo=some l)(hh:CF ev len hi=some h)(h0:0≤l)(h1:l≤h)(h2:h≤cap):
  (Instr.sliceBounds isS len cap (lo.map a.eval) (hi.map a.eval) none).run P w=.ok (l.toNat,h.toNat,cap) w:=by
 have hb:∀(o:Option Operand) (df:Nat) (i:Int),CF ev df o=some i→(o=none∧i=df)∨∃y k,o=some y∧a.eval y=.int k i:=by
  intro o df i ho
  cases o with
  |none=>exact .inl ⟨rfl,by simp[CF]at ho;exact ho.symm⟩
  |some y =>
   simp only[CF]at ho
   split at ho
   ·rename_i k j hj
    cases ho
    exact .inr ⟨y,k,rfl,(nV.rel hj).val⟩
   ·cases ho
 have h3:0≤h:=by omega
 rcases hb lo 0 l hl with ⟨rfl,rfl⟩|⟨yl,kl,rfl,wE⟩<;>rcases hb hi len h hh with ⟨rfl,rfl⟩|⟨yh,kh,rfl,vy⟩
 ·simp[Instr.sliceBounds,Sem.run_bind,Sem.run_pure]
 ·simp only[Instr.sliceBounds,Option.map_none,Option.map_some,Sem.run_bind,Sem.run_pure,Result.andThen_ok,vy,Fx h3 h2]
  rfl
 ·simp only[Instr.sliceBounds,Option.map_none,Option.map_some,Sem.run_bind,Sem.run_pure,Result.andThen_ok,wE,Fx h0 h1]
  rfl
 ·have h4:l≤(h.toNat:Int):=by omega
  simp only[Instr.sliceBounds,Option.map_some,Sem.run_bind,Sem.run_pure,Result.andThen_ok,wE,vy,Fx h3 h2,Fx h0 h4]
theorem Kd{T:Nat}[ts:s8 P T]{s:List UInt8}{lo hi:Option Operand}{l h:Int}(hx:ev x=some (.str s))(hl:CF ev 0 lo=some l)(hh:CF ev s.length hi=some h)(h0:0≤l)(h1:l≤h)(h2:h≤s.length):
  I2 P E nx hp ev (.slice T x lo hi none) ty (.str ((s.take h.toNat).drop l.toNat)) :=
 F9 fun _ _ _ θ a w hs=>by
  have hv:=(hs.rel hx).sval
  refine⟨.string ⟨((s.take h.toNat).drop l.toNat).toArray⟩,?_,.im (.str _)⟩
  have hb:=HR (P:=P) (isS:=false) (cap:=s.length) hs hl hh h0 h1 h2
  have hsz:(ByteArray.mk s.toArray).size=s.length:=rfl
  simp only[execOp,hv,Instr.sliceAt,Instr.slice,Sem.run_bind,run_underlying ts.out,Result.andThen_ok,Option.isSome_none,Option.map_none,hsz,Bool.false_eq_true,if_false,hb,So,Sem.run_pure]
theorem VC{T e sz:Nat}[ts:Q4 P T e sz]{s:List (List AV)}{lo hi:Option Operand}{l h:Int}(hx:ev x=some (.sl sz s))(hl:CF ev 0 lo=some l)(hh:CF ev s.length hi=some h)(h0:0≤l)(h1:l≤h)(h2:h≤s.length):
  I2 P E nx hp ev (.slice T x lo hi none) ty (.sl sz ((s.take h.toNat).drop l.toNat)) :=
 F9 fun _ _ _ θ a w hs=>by
  obtain⟨hu,inf,lc,hsz⟩:=ts.out
  have kf:((s.take h.toNat).drop l.toNat).length=h.toNat-l.toNat:=by rw[List.length_drop,List.length_take];omega
  rcases Gg (hs.rel hx)with ⟨hv,e⟩|⟨p,cap,f,hv,h3,h4,h5,h6,h7,h8⟩
  ·subst e
   have hb:=HR (P:=P) (isS:=true) (cap:=0) hs hl hh h0 h1 (by simpa using h2)
   have e1:h=0:=by simp at h2;omega
   have e2:l=0:=by omega
   subst e1;subst e2
   refine⟨.slice none 0 0,?_,.im (.slnil sz)⟩
   simp only[List.length_nil]at hb
   simp only[execOp,hv,Instr.sliceAt,Instr.slice,Sem.run_bind,run_underlying hu,Result.andThen_ok,Option.map_none,hb,Sem.run_pure,sizeOf,typeInfo,program,Sem.run,lc]
   rfl
  ·have hb:=HR (P:=P) (isS:=true) (cap:=cap) hs hl hh h0 h1 (by omega)
   refine⟨.slice (some (if cap=l.toNat then p else p.add (l.toNat*sz))) (h.toNat-l.toNat) (cap-l.toNat),?_,?_⟩
   ·simp only[execOp,hv,Instr.sliceAt,Instr.slice,Sem.run_bind,run_underlying hu,Result.andThen_ok,Option.map_none,hb,Sem.run_pure,sizeOf,typeInfo,program,Sem.run,lc,hsz]
    split<;>rfl
   ·rw[←kf]
    have mv:∀(i:Nat) el,((s.take h.toNat).drop l.toNat)[i]?=some el→s[l.toNat+i]?=some el∧l.toNat+i<s.length∧l.toNat≠cap:=by
     intro i el hi
     rw[List.getElem?_drop,List.getElem?_take]at hi
     split at hi
     ·have:=(List.getElem?_eq_some_iff.1 hi).1
      exact⟨hi,this,by omega⟩
     ·cases hi
    refine .im (.sl sz _ _ _ (fun i j=>f (l.toNat+i) j) (by rw[kf];omega) (by omega) (fun hne om=>?_) (fun el ke=>?_) (fun i hi j hj=>?_) (fun i el hi j u hu=>?_))
    ·have:s≠[]:=by intro e;subst e;simp at hne
     split
     ·exact h5 this om
     ·rw[Z0];exact h5 this om
    ·exact h6 el (List.mem_of_mem_take (List.mem_of_mem_drop ke))
    ·have hg:=mv i _ (List.getElem?_eq_getElem hi)
     rw[if_neg (fun e=>hg.2.2 e.symm),Dl]
     have:=h7 (l.toNat+i) hg.2.1 j hj
     rw[Nat.add_mul,Nat.add_assoc]at this
     exact this
    ·have hg:=mv i _ hi
     exact h8 _ _ hg.1 j u hu
end rules
def Jo(h h':Hp)(i v len:Nat):AV :=
 match A7 h i with
 |some (.row _ sz v1 l)=>cond (Nat.beq v v1) (match A7 h' i with
  |some (.row _ _ v2 _)=>.row i v2 len
  |_=>.sl sz l) .any
 |_=>.any
def Jp(h h':Hp)(i v k off:Nat):AV :=
 match A7 h i with
 |some (.row _ sz v1 l)=>cond (Nat.beq v v1) (match A7 h' i with
  |some (.row _ _ v2 _)=>.elt i v2 k off
  |_=>match l[k]? with
   |some el=>.iptr (el.drop off)
   |none=>.any) .any
 |_=>.any
def Jq(h h':Hp)(i v lo len:Nat):AV :=
 match A7 h i with
 |some (.row _ sz v1 l)=>cond (Nat.beq v v1) (match A7 h' i with
  |some (.row _ _ v2 _)=>.sub i v2 lo len
  |_=>.sl sz ((l.take (lo+len)).drop lo)) .any
 |_=>.any
def MA(h h':Hp)(i off:Nat):AV :=
 match A7 h i with
 |some (.bx _ l)=>match A7 h' i with
  |some _=>.ref i off
  |none=>cond (M3 l) (.iptr (l.drop off)) (.ref i off)
 |_=>.ref i off
mutual
def L8(h h':Hp):AV→AV
 |.row i v len=>Jo h h' i v len
 |.elt i v k off=>Jp h h' i v k off
 |.sub i v lo len=>Jq h h' i v lo len
 |.ref i off=>MA h h' i off
 |.agg l=>.agg (Cp h h' l)
 |.tup l=>.tup (Cp h h' l)
 |.fo f l=>.fo f (Cp h h' l)
 |x=>x
def Cp(h h':Hp):List AV→List AV
 |[]=>[]
 |x::r=>L8 h h' x::Cp h h' r
end
theorem T3(h h':Hp):∀l,Cp h h' l=l.map (L8 h h')
 |[]=>by simp[Cp]
 |x::r=>by simp[Cp,T3 h h' r]
def Fy(h h':Hp):G1→G1→Prop
 |.bx τ l,b=>b=.bx τ (Cp h h' l)
 |.row e sz _ l,b=>∃v,b=.row e sz v l
 |.map m,b=>b=.map m
 |.it s p,b=>b=.it s p
mutual
def j5(m:Nat):AV→Bool
 |.ref i _=>Nat.blt i m
 |.row i _ _=>Nat.blt i m
 |.mp i=>Nat.blt i m
 |.elt i _ _ _=>Nat.blt i m
 |.sub i _ _ _=>Nat.blt i m
 |.agg l=>b9 m l
 |.tup l=>b9 m l
 |.fo _ l=>b9 m l
 |_=>true
def b9(m:Nat):List AV→Bool
 |[]=>true
 |x::r=>j5 m x && b9 m r
end
theorem Bb{m:Nat}:∀{l:List AV},b9 m l=true→∀x∈l,j5 m x=true
 |[],_,x,hx=>by cases hx
 |y::r,h,x,hx=>by
  simp only[b9,Bool.and_eq_true]at h
  rcases List.mem_cons.1 hx with rfl|hx
  ·exact h.1
  ·exact Bb h.2 x hx
structure Cx.sub(c c':Cx):Prop where
 θ:c'.θ=c.θ
 w:c'.w=c.w
 X:∀k,c'.X k→c.X k
 blk:∀i b',A7 c'.hp i=some b'→∃b,A7 c.hp i=some b∧Fy c.hp c'.hp b b'
 apart:∀i j b b' k,A7 c.hp i=some b→A7 c.hp j=some b'→FP c.θ i b k→FP c.θ j b' k→i=j
 fresh:∀i b k,A7 c.hp i=some b→FP c.θ i b k→¬c.X k
 owns:∀i b,A7 c.hp i=some b→U1 c i b
theorem ZJ{h h':Hp}{b b':G1}(e:Fy h h' b b'):BZ b'=BZ b:=by
 cases b with
 |bx τ l=>simp only[Fy]at e;subst e;rfl
 |row e1 sz v l=>obtain⟨v2,rfl⟩:=e;rfl
 |map m=>simp only[Fy]at e;subst e;rfl
 |it s p=>simp only[Fy]at e;subst e;rfl
theorem FP.cv{θ:Th}{i k:Nat}{h h':Hp}{b b':G1}(e:Fy h h' b b')(f:FP θ i b' k):FP θ i b k:=by
 unfold FP at f ⊢
 rwa[ZJ e]at f
theorem Cx.sub.U{c c':Cx}(h:c.sub c'):∀k,c'.U k→c.U k:=by
 rintro k (hk|⟨i,b,hi,hk⟩)
 ·exact .inl (h.X k hk)
 ·obtain⟨b0,nj,pL⟩:=h.blk i b hi
  exact .inr ⟨i,b0,nj,FP.cv pL (by rw[←h.θ];exact hk)⟩
theorem Cx.sub.notU{c c':Cx}(h:c.sub c'){i:Nat}{b:G1}(hi:A7 c.hp i=some b)(hn:A7 c'.hp i=none){k:Nat}(hk:FP c.θ i b k):¬c'.U k:=by
 rintro (hx|⟨j,b',hj,lW⟩)
 ·exact h.fresh i b k hi hk (h.X k hx)
 ·obtain⟨b0,nj,pL⟩:=h.blk j b' hj
  have:=h.apart i j b b0 k hi nj hk (FP.cv pL (by rw[←h.θ];exact lW))
  subst this
  rw[hn]at hj
  cases hj
theorem Cx.sub.im{c c':Cx}(h:c.sub c'){a:AV}{x:Value}(hi:Im c.U c.w a x):Im c'.U c'.w a x:=hi.mono (fun k _ _=>by rw[h.w]) fun k _ hu=>h.U k hu
theorem HS{c c':Cx}(h:c.sub c'){i e sz v:Nat}{l:List (List AV)}(hi:A7 c.hp i=some (.row e sz v l))(hn:A7 c'.hp i=none):Im c'.U c'.w (.sl sz l) (c.θ i):=by
 obtain⟨xs,ko,hsz,hr,_⟩:=h.owns i _ hi
 rcases ko.2 with ⟨hv,ru⟩|⟨g,cap,kz,hv,_,hg,hc,hm,kf,hx⟩
 ·have:l=[]:=List.eq_nil_of_length_eq_zero ru
  subst this
  rw[hv]
  exact .slnil sz
 ·have lK:=ko
  rw[hv]at lK
  rw[hv]
  have ut:¬c'.U g:=h.notU hi hn (.inl (by rw[hv];rfl))
  have mv:∀i,i<l.length→∀j,j<sz→∃y,xs[i*sz+j]?=some y:=by
   intro i hi j hj
   have h1:(i+1)*sz≤l.length*sz:=Nat.mul_le_mul_right _ hi
   rw[Nat.add_mul,Nat.one_mul]at h1
   have h2:i*sz+j<xs.length:=by rw[ko.1];omega
   exact⟨_,List.getElem?_eq_getElem h2⟩
  refine .sl sz l ⟨g,0,none⟩ cap (fun i j=>xs.getD (i*sz+j) undef) hc hm (fun _ _=>ut) hsz (fun i hi j hj=>?_) (fun k el hk j x hx=>?_)
  ·obtain⟨y,hy⟩:=mv i hi j hj
   have:=lK.cells (g:=g) rfl _ _ hy
   rw[addr_add,h.w]
   have e:xs.getD (i*sz+j) undef=y:=by rw[List.getD,hy];rfl
   rw[e]
   simpa [addr_add]using this
  ·obtain⟨y,hy,ly⟩:=hr k el hk j x hx
   have e:xs.getD (k*sz+j) undef=y:=by rw[List.getD,hy];rfl
   rw[e]
   exact h.im ly
theorem fj{U:Nat→Prop}{w:World}{sz lo len:Nat}{l:List (List AV)}{v x:Value}(h:Im U w (.sl sz l) v)(hs:fc v sz lo len x)(hl:lo+len≤l.length):Im U w (.sl sz ((l.take (lo+len)).drop lo)) x:=by
 have kf:((l.take (lo+len)).drop lo).length=len:=by rw[List.length_drop,List.length_take];omega
 rcases hs with ⟨rfl,rfl,rfl,rfl⟩|⟨g,n,cap,rfl,rfl⟩
 ·have:(l.take (0+0)).drop 0=[]:=by simp
  rw[this];exact .slnil sz
 ·cases h with
  |sl sz l a cap f lT hm hu hsz hc h =>
   have mv:∀(i:Nat) el,((l.take (lo+len)).drop lo)[i]?=some el→l[lo+i]?=some el∧lo+i<l.length∧cap≠lo:=by
    intro i el hi
    rw[List.getElem?_drop,List.getElem?_take]at hi
    split at hi
    ·have:=(List.getElem?_eq_some_iff.1 hi).1
     exact⟨hi,this,by omega⟩
    ·cases hi
   have key:∀p:Addr,p=(if cap=lo then ⟨g,0,none⟩else ⟨g,lo*sz,none⟩)→Im U w (.sl sz ((l.take (lo+len)).drop lo)) (.slice (some p) ((l.take (lo+len)).drop lo).length (cap-lo)):=fun p hp=>by
    refine .sl sz _ p _ (fun i j=>f (lo+i) j) (by rw[kf];omega) (by omega) (fun hne om=>?_) (fun el ke=>?_) (fun i hi j hj=>?_) (fun i el hi j u hu=>?_)
    ·have:l≠[]:=by intro e;subst e;simp at hne
     have h5:=hu this om
     rw[hp];split<;>exact h5
    ·exact hsz el (List.mem_of_mem_take (List.mem_of_mem_drop ke))
    ·have hg:=mv i _ (List.getElem?_eq_getElem hi)
     rw[hp,if_neg hg.2.2,addr_add]
     have:=hc (lo+i) hg.2.1 j hj
     rw[addr_add,Nat.zero_add,Nat.add_mul,Nat.add_assoc]at this
     exact this
    ·have hg:=mv i _ hi
     exact h _ _ hg.1 j u hu
   have:=key _ rfl
   rwa[kf]at this
theorem jI{c c':Cx}(h:c.sub c'){a:AV}{x:Value}(hi:Im c.U c.w a x):L8 c.hp c'.hp a=a∨G2 c' (L8 c.hp c'.hp a) x:=by
 induction hi with
 |v x=>exact .inl rfl
 |str l=>exact .inl rfl
 |fn f l cs hl hc ih=>exact .inl rfl
 |iptr l a f hu hc hh ih=>exact .inl rfl
 |err t p=>exact .inl rfl
 |any x=>exact .inl rfl
 |own e sz l x=>exact .inl rfl
 |slnil sz=>exact .inl rfl
 |sl sz l a cap f lT hm hu hsz hc hh ih=>exact .inl rfl
 |agg l cs hl hc ih =>
  refine .inr ?_
  simp only[L8,T3]
  refine .agg _ cs (by simp[hl]) fun j u z hu hz=>?_
  simp only[List.getElem?_map,Option.map_eq_some_iff]at hu
  obtain⟨u0,mW,rfl⟩:=hu
  rcases ih j u0 z mW hz with e|e
  ·rw[e];exact .im (h.im (hc j u0 z mW hz))
  ·exact e
 |tup l cs hl hc ih =>
  refine .inr ?_
  simp only[L8,T3]
  refine .tup _ cs (by simp[hl]) fun j u z hu hz=>?_
  simp only[List.getElem?_map,Option.map_eq_some_iff]at hu
  obtain⟨u0,mW,rfl⟩:=hu
  rcases ih j u0 z mW hz with e|e
  ·rw[e];exact .im (h.im (hc j u0 z mW hz))
  ·exact e
theorem IZ{c c':Cx}(h:c.sub c'){a:AV}{x:Value}(r:G2 c a x):c.nx≤c'.nx∨j5 c'.nx (L8 c.hp c'.hp a)=true→G2 c' (L8 c.hp c'.hp a) x:=by
 induction r with
 |any x=>intro _;exact .any x
 |im hi =>
  intro _
  rcases jI h hi with e|e
  ·rw[e];exact .im (h.im hi)
  ·exact e
 |agg l cs hl _ ih =>
  intro kj
  simp only[L8,T3]at kj ⊢
  refine .agg _ cs (by simp[hl]) fun j u z hu hz=>?_
  have lj:=List.mem_of_getElem? hu
  simp only[List.getElem?_map,Option.map_eq_some_iff]at hu
  obtain⟨u0,mW,rfl⟩:=hu
  exact ih j u0 z mW hz (kj.imp id fun h=>Bb (by simpa only[j5]using h) _ lj)
 |tup l cs hl _ ih =>
  intro kj
  simp only[L8,T3]at kj ⊢
  refine .tup _ cs (by simp[hl]) fun j u z hu hz=>?_
  have lj:=List.mem_of_getElem? hu
  simp only[List.getElem?_map,Option.map_eq_some_iff]at hu
  obtain⟨u0,mW,rfl⟩:=hu
  exact ih j u0 z mW hz (kj.imp id fun h=>Bb (by simpa only[j5]using h) _ lj)
 |fo f l cs hl _ ih =>
  intro kj
  simp only[L8,T3]at kj ⊢
  refine .fo f _ cs (by simp[hl]) fun j u z hu hz=>?_
  have lj:=List.mem_of_getElem? hu
  simp only[List.getElem?_map,Option.map_eq_some_iff]at hu
  obtain⟨u0,mW,rfl⟩:=hu
  exact ih j u0 z mW hz (kj.imp id fun h=>Bb (by simpa only[j5]using h) _ lj)
 |ref i off b hi hθ =>
  intro kj
  simp only[L8,MA]at kj ⊢
  have lh:(c.nx≤c'.nx∨j5 c'.nx (.ref i off)=true)→G2 c' (.ref i off) (.pointer (some ⟨b,off,none⟩)):=fun kj=>by
   refine .ref i off b ?_ (by rw[h.θ];exact hθ)
   rcases kj with h1|h1
   ·omega
   ·simpa only[j5,Nat.blt_eq]using h1
  split at kj
  ·rename_i l hb
   split at kj
   ·exact lh kj
   ·rename_i hn
    cases ku:M3 l with
    |false=>rw[ku]at kj;exact lh kj
    |true =>
     obtain⟨b',lL,T,lV,hh,hsz,hr⟩:=h.owns i _ hb
     have e:b'=b:=by rw[hθ]at lV;injection lV with e;injection e with e;injection e with e;exact e.symm
     subst e
     have ut:¬c'.U b':=h.notU hb hn (.inl (by rw[hθ];rfl))
     refine .im (.iptr _ _ (fun j=>lL.getD (off+j) undef) (fun _=>ut) (fun j hj=>?_) (fun j u hu=>?_))
     ·have rk:off+j<lL.size:=by rw[List.length_drop]at hj;omega
      rw[addr_add,h.w,P5 hh]
      simp[Array.getD,rk]
     ·rw[List.getElem?_drop]at hu
      have rk:off+j<lL.size:=by have:=(List.getElem?_eq_some_iff.1 hu).1;omega
      have mv:lL[off+j]?=some (lL.getD (off+j) undef):=by simp[Array.getD,rk]
      have:=hr _ u _ hu mv
      exact h.im ((U2 ku u (List.mem_of_getElem? hu)).im this)
  ·exact lh kj
 |row i ver len x hi hr =>
  intro kj
  simp only[L8,Jo]
  split
  ·rename_i e sz v1 l hb
   cases hv:Nat.beq ver v1 with
   |false=>exact .any x
   |true =>
    have mN:=Nat.eq_of_beq_eq_true hv
    subst mN
    obtain⟨_,pZ⟩:=hr e sz ver l hb
    obtain⟨kf,hx⟩:=pZ rfl
    simp only[cond_true]
    split
    ·rename_i e2 ol v2 l2 ll
     have ld:i<c'.nx:=by
      simp only[L8,Jo,hb,hv,cond_true,ll,j5,Nat.blt_eq]at kj
      omega
     refine .row i v2 len x ld fun e3 vg v3 l3 qe=>?_
     rw[ll]at qe
     cases qe
     refine⟨Nat.le_refl _,fun _=>?_⟩
     obtain⟨b,mY,mD⟩:=h.blk i _ ll
     rw[hb]at mY
     cases mY
     obtain⟨v,mD⟩:=mD
     cases mD
     exact⟨kf,by rw[h.θ];exact hx⟩
    ·rename_i ll
     rw[hx]
     refine .im (HS h hb ?_)
     cases hq:A7 c'.hp i with
     |none=>rfl
     |some b' =>
      obtain⟨b,mY,mD⟩:=h.blk i _ hq
      rw[hb]at mY
      cases mY
      obtain⟨v,rfl⟩:=mD
      exact absurd hq (ll _ _ _ _)
  ·exact .any x
 |mp i r hi hθ =>
  intro kj
  refine .mp i r ?_ (by rw[h.θ];exact hθ)
  simp only[L8,j5,Nat.blt_eq]at kj
  omega
 |sub i ver lo len x hi hr =>
  intro kj
  simp only[L8,Jq]
  split
  ·rename_i e sz v1 l hb
   cases hv:Nat.beq ver v1 with
   |false=>exact .any x
   |true =>
    have mN:=Nat.eq_of_beq_eq_true hv
    subst mN
    obtain⟨_,pZ⟩:=hr e sz ver l hb
    obtain⟨kf,hx⟩:=pZ rfl
    simp only[cond_true]
    split
    ·rename_i e2 ol v2 l2 ll
     have ld:i<c'.nx:=by
      simp only[L8,Jq,hb,hv,cond_true,ll,j5,Nat.blt_eq]at kj
      omega
     refine .sub i v2 lo len x ld fun e3 vg v3 l3 qe=>?_
     rw[ll]at qe
     cases qe
     refine⟨Nat.le_refl _,fun _=>?_⟩
     obtain⟨b,mY,mD⟩:=h.blk i _ ll
     rw[hb]at mY
     cases mY
     obtain⟨v,mD⟩:=mD
     cases mD
     exact⟨kf,by rw[h.θ];exact hx⟩
    ·rename_i ll
     refine .im (fj (HS h hb ?_) hx kf)
     cases hq:A7 c'.hp i with
     |none=>rfl
     |some b' =>
      obtain⟨b,mY,mD⟩:=h.blk i _ hq
      rw[hb]at mY
      cases mY
      obtain⟨v,rfl⟩:=mD
      exact absurd hq (ll _ _ _ _)
  ·exact .any x
 |elt i ver k off x hi hr =>
  intro kj
  simp only[L8,Jp]
  split
  ·rename_i e sz v1 l hb
   cases hv:Nat.beq ver v1 with
   |false=>exact .any x
   |true =>
    have mN:=Nat.eq_of_beq_eq_true hv
    subst mN
    obtain⟨_,pZ⟩:=hr e sz ver l hb
    obtain⟨g,m,cap,hθ,hx⟩:=pZ rfl
    simp only[cond_true]
    split
    ·rename_i e2 ol v2 l2 ll
     have ld:i<c'.nx:=by
      simp only[L8,Jp,hb,hv,cond_true,ll,j5,Nat.blt_eq]at kj
      omega
     refine .elt i v2 k off x ld fun e3 vg v3 l3 qe=>?_
     rw[ll]at qe
     cases qe
     refine⟨Nat.le_refl _,fun _=>?_⟩
     obtain⟨b,mY,mD⟩:=h.blk i _ ll
     rw[hb]at mY
     cases mY
     obtain⟨v,mD⟩:=mD
     cases mD
     exact⟨g,m,cap,by rw[h.θ];exact hθ,hx⟩
    ·rename_i ll
     split
     ·rename_i el ke
      have hn:A7 c'.hp i=none:=by
       cases hq:A7 c'.hp i with
       |none=>rfl
       |some b' =>
        obtain⟨b,mY,mD⟩:=h.blk i _ hq
        rw[hb]at mY
        cases mY
        obtain⟨v,rfl⟩:=mD
        exact absurd hq (ll _ _ _ _)
      have ly:=HS h hb hn
      rw[hθ]at ly
      cases ly with
      |sl sz l a nX f lT hm hu hsz hc hh =>
       have mf:k<l.length:=(List.getElem?_eq_some_iff.1 ke).1
       have qE:=hsz el (List.mem_of_getElem? ke)
       rw[hx]
       refine .im (.iptr _ _ (fun j=>f k (off+j)) (fun hne=>?_) (fun j hj=>?_) (fun j u oR=>?_))
       ·have h1:=List.length_pos_iff.2 hne
        rw[List.length_drop]at h1
        exact hu (by intro e;subst e;simp at mf) (by omega)
       ·rw[List.length_drop]at hj
        have:=hc k mf (off+j) (by omega)
        rw[addr_add]at this ⊢
        rw[←this]
        congr 2
        omega
       ·rw[List.getElem?_drop]at oR
        exact hh k el ke (off+j) u oR
     ·exact .any x
  ·exact .any x
theorem U3.cv{E:Env}{n:Nat}{θ:Th}{σ σ':St}{a:Act}{w:World}(h:U3 E n θ σ a w)(h0:E.n0≤σ'.nx)
  (hs:∀s x',look σ'.sl s=some x'→∃x,look σ.sl s=some x∧L8 σ.hp σ'.hp x=x'∧(σ.nx≤σ'.nx∨j5 σ'.nx x'=true))
  (hb:∀i b',A7 σ'.hp i=some b'→(σ.nx≤σ'.nx∨i<σ'.nx)∧∃b,A7 σ.hp i=some b∧Fy σ.hp σ'.hp b b'∧(σ.nx≤σ'.nx∨∀τ l,b'=.bx τ l→b9 σ'.nx l=true))
  (hv:∀i e sz v l,A7 σ'.hp i=some (.row e sz v l)→Kx e=true→σ.nx≤σ'.nx∧∀j e1 qA v1 l1 v2,A7 σ'.hp j=some (.row e1 qA v1 l1)→A7 σ.hp j=some (.row e1 qA v2 l1)→v1=v2):U3 E n θ σ' a w:=by
 have sub:(cx E θ σ w).sub (cx E θ σ' w):=⟨rfl,rfl,fun _ h=>h,fun i b' hi=>by
  obtain⟨_,b,h1,h2,_⟩:=hb i b' hi
  exact⟨b,h1,h2⟩,h.apart,fun i b k hi hk=>(h.mine i b k hi hk).1,fun i b hi=>(h.owns i b hi).2⟩
 refine⟨h.size,h.defers,h.fr,fun s x' hx=>?_,fun i b' hi=>?_,fun i j b1 b2 k hi hj=>?_,fun i b' k hi=>?_,h.X,⟨h0,fun i hi=>(h.base.2 i hi).imp id fun ⟨h1,h2⟩=>⟨h1,fun ⟨e',sz,v,l,hl,hk⟩=>h2 (by
  obtain⟨_,b,g1,g2,_⟩:=hb i _ hl
  cases b with
  |bx _ _=>cases g2
  |map _=>cases g2
  |it _ _=>cases g2
  |row e1 qA v1 l1 =>
   obtain⟨v2,g3⟩:=g2
   cases g3
   exact⟨_,_,_,_,g1,hk⟩)⟩⟩⟩
 ·obtain⟨x,h1,rfl,h2⟩:=hs s x' hx
  exact IZ sub (h.slots s x h1) h2
 ·obtain⟨h0,b,h1,h2,h3⟩:=hb i b' hi
  obtain⟨h4,h5⟩:=h.owns i b h1
  refine⟨h0.elim (fun h=>by omega) id,?_⟩
  cases b with
  |bx τ l =>
   simp only[Fy]at h2
   subst h2
   obtain⟨b',lL,T,e1,e2,e3,e4⟩:=h5
   refine⟨b',lL,T,e1,e2,by rw[T3,List.length_map];exact e3,fun j u z hu hz=>?_⟩
   rw[T3]at hu h3
   have lj:=List.mem_of_getElem? hu
   simp only[List.getElem?_map,Option.map_eq_some_iff]at hu
   obtain⟨u0,mW,rfl⟩:=hu
   exact IZ sub (e4 j u0 z mW hz) (h3.imp id fun h=>Bb (h _ _ rfl) _ lj)
  |row e sz v l =>
   obtain⟨v2,rfl⟩:=h2
   obtain⟨xs,e1,e2,e3,e4⟩:=h5
   exact⟨xs,e1,e2,(fun k el hk j x hx=>by
    obtain⟨y,hy,hi⟩:=e3 k el hk j x hx
    exact⟨y,hy,sub.im hi⟩),fun hne=>⟨(e4 hne).1,fun k el hk j e' kw l' hj=>by
    rcases(e4 hne).2 k el hk j e' kw l' hj with ⟨q0,q1,g,m,cap,y,q2,q3,q4⟩|⟨g,m,cap,y,ys,q1,q2,q3,q4,q5,q6,q7⟩
    ·obtain⟨nY,oe⟩:=hv i e sz v2 l hi q0
     refine .inl ⟨q0,q1,g,m,cap,y,q2,q3,?_⟩
     generalize e'-Q0=mm at q4 ⊢
     cases q4 with
     |im h=>cases h
     |row _ _ _ _ hm hr =>
      refine .row _ _ _ _ (Nat.lt_of_lt_of_le hm nY) fun e1 qA v1 l1 mI=>?_
      obtain⟨_,b1,g1,g2,_⟩:=hb _ _ mI
      cases b1 with
      |bx _ _=>cases g2
      |map _=>cases g2
      |it _ _=>cases g2
      |row e3 vg v3 l3 =>
       obtain⟨v4,g3⟩:=g2
       cases g3
       have:=oe _ _ _ _ _ _ mI g1
       subst this
       exact hr _ _ _ _ g1
    exact .inr ⟨g,m,cap,y,ys,q1,q2,q3,q4,q5,fun q mA hq j' x hx=>by
     obtain⟨z,hz,hi⟩:=q6 q mA hq j' x hx
     exact⟨z,hz,sub.im hi⟩,q7⟩⟩⟩
  |map m =>
   simp only[Fy]at h2
   subst h2
   obtain⟨r,es,clock,e1,e2,e3,e4⟩:=h5
   exact⟨r,es,clock,e1,e2,e3,fun j q e hj he=>⟨(e4 j q e hj he).1,sub.im (e4 j q e hj he).2⟩⟩
  |it t p =>
   simp only[Fy]at h2
   subst h2
   exact h5
 ·intro nv lp
  obtain⟨_,yA,h1,g1,_⟩:=hb i b1 hi
  obtain⟨_,b2',h2,g2,_⟩:=hb j b2 hj
  exact h.apart i j _ _ k h1 h2 (FP.cv g1 nv) (FP.cv g2 lp)
 ·intro hk
  obtain⟨_,yA,h1,g1,_⟩:=hb i b' hi
  exact h.mine i _ k h1 (FP.cv g1 hk)
def QK(m:Nat):List (Nat×AV)→Bool
 |[]=>true
 |(_,x)::r=>j5 m x && QK m r
def K9(m:Nat):Hp→Bool
 |[]=>true
 |(i,some (.bx _ l))::r=>Nat.blt i m && b9 m l && K9 m r
 |(i,some (.row e _ _ _))::r=>Nat.blt i m && (!(Kx e) && K9 m r)
 |(i,_)::r=>Nat.blt i m && K9 m r
theorem OL{m:Nat}:∀{l:List (Nat×AV)} {s:Nat} {x:AV},QK m l=true→look l s=some x→j5 m x=true
 |[],s,x,_,h=>by cases h
 |(s0,x0)::r,s,x,hs,h=>by
  simp only[QK,Bool.and_eq_true]at hs
  rw[I1]at h
  by_cases e:s0=s
  ·subst e;rw[if_pos rfl]at h;cases h;exact hs.1
  ·rw[if_neg e]at h;exact OL hs.2 h
theorem Cq{m:Nat}:∀{l:Hp} {i:Nat} {b:G1},K9 m l=true→A7 l i=some b→i<m∧∀τ c,b=.bx τ c→b9 m c=true
 |[],i,b,_,h=>by cases h
 |(i0,b0)::r,i,b,hs,h=>by
  rw[J3]at h
  have mE:Nat.blt i0 m=true∧(∀τ c,b0=some (.bx τ c)→b9 m c=true)∧K9 m r=true:=by
   match b0,hs with
   |some (.bx τ c),hs=>simp only[K9,Bool.and_eq_true]at hs;exact⟨hs.1.1,(fun _ c' e=>by cases e;exact hs.1.2),hs.2⟩
   |some (.row ..),hs=>simp only[K9,Bool.and_eq_true]at hs;exact⟨hs.1,(fun _ c' e=>by cases e),hs.2.2⟩
   |some (.map ..),hs=>simp only[K9,Bool.and_eq_true]at hs;exact⟨hs.1,(fun _ c' e=>by cases e),hs.2⟩
   |some (.it ..),hs=>simp only[K9,Bool.and_eq_true]at hs;exact⟨hs.1,(fun _ c' e=>by cases e),hs.2⟩
   |none,hs=>simp only[K9,Bool.and_eq_true]at hs;exact⟨hs.1,(fun _ c' e=>by cases e),hs.2⟩
  by_cases e:i0=i
  ·subst e
   rw[if_pos rfl]at h
   subst h
   exact⟨Nat.blt_eq▸mE.1,fun τ c hc=>mE.2.1 τ c (by rw[hc])⟩
  ·rw[if_neg e]at h;exact Cq mE.2.2 h
theorem Gh{m:Nat}:∀{l:Hp} {i e sz v:Nat} {c:List (List AV)},K9 m l=true→A7 l i=some (.row e sz v c)→Kx e=false
 |[],i,e,sz,v,c,_,h=>by cases h
 |(i0,b0)::r,i,e,sz,v,c,hs,h=>by
  rw[J3]at h
  by_cases e0:i0=i
  ·subst e0
   rw[if_pos rfl]at h
   subst h
   simp only[K9,Bool.and_eq_true,Bool.not_eq_true']at hs
   exact hs.2.1
  ·rw[if_neg e0]at h
   have mE:K9 m r=true:=by
    match b0,hs with
    |some (.row ..),hs=>simp only[K9,Bool.and_eq_true]at hs;exact hs.2.2
    |some (.bx ..),hs=>simp only[K9,Bool.and_eq_true]at hs;exact hs.2
    |some (.map ..),hs=>simp only[K9,Bool.and_eq_true]at hs;exact hs.2
    |some (.it ..),hs=>simp only[K9,Bool.and_eq_true]at hs;exact hs.2
    |none,hs=>simp only[K9,Bool.and_eq_true]at hs;exact hs.2
   exact Gh mE h
def HT(σ:St)(h':Hp):List (Nat×AV)→Prop
 |[]=>True
 |(s,x)::r=>(look σ.sl s).map (L8 σ.hp h')=some x∧HT σ h' r
def Eo(σ:St)(h':Hp):Hp→Prop
 |[]=>True
 |(_,none)::r=>Eo σ h' r
 |(i,some b)::r=>(match A7 σ.hp i with
  |some b0=>Fy σ.hp h' b0 b
  |none=>False)∧Eo σ h' r
theorem HT.look{σ:St}{h':Hp}:∀{l:List (Nat×AV)} {s:Nat} {x:AV},HT σ h' l→look l s=some x→(look σ.sl s).map (L8 σ.hp h')=some x
 |[],s,x,_,h=>by cases h
 |(s0,x0)::r,s,x,hs,h=>by
  rw[I1]at h
  by_cases e:s0=s
  ·subst e;rw[if_pos rfl]at h;cases h;exact hs.1
  ·rw[if_neg e]at h;exact HT.look hs.2 h
theorem Eo.look{σ:St}{h':Hp}:∀{l:Hp} {i:Nat} {b:G1},Eo σ h' l→A7 l i=some b→∃b0,A7 σ.hp i=some b0∧Fy σ.hp h' b0 b
 |[],i,b,_,h=>by cases h
 |(i0,none)::r,i,b,hs,h=>by
  rw[J3]at h
  by_cases e:i0=i
  ·subst e;rw[if_pos rfl]at h;cases h
  ·rw[if_neg e]at h;exact Eo.look (l:=r) hs h
 |(i0,some b0)::r,i,b,hs,h=>by
  rw[J3]at h
  by_cases e:i0=i
  ·subst e
   rw[if_pos rfl]at h
   cases h
   have h1:=hs.1
   split at h1
   ·rename_i b1 me;exact⟨b1,me,h1⟩
   ·exact h1.elim
  ·rw[if_neg e]at h;exact Eo.look hs.2 h
theorem B0{E:Env}{n m:Nat}{σ σ':St}(h0:E.n0=m)(hm:Nat.ble m σ'.nx=true)(hs:HT σ σ'.hp σ'.sl)(hh:Eo σ σ'.hp σ'.hp)(hn:Nat.ble σ'.nx σ.nx=true)(hl:QK σ'.nx σ'.sl=true)(hb:K9 σ'.nx σ'.hp=true):St.le E n σ σ':=by
 rintro a w ⟨θ,h⟩
 refine⟨θ,h.cv (h0▸Nat.ble_eq▸hm) (fun s x' hx=>?_) (fun i b' hi=>?_) (fun i e sz v l hi qZ=>?_)⟩
 ·have:=HT.look hs hx
  rw[Option.map_eq_some_iff]at this
  obtain⟨x,h1,h2⟩:=this
  exact⟨x,h1,h2,.inr (OL hl hx)⟩
 ·obtain⟨b0,h1,h2⟩:=Eo.look hh hi
  obtain⟨h3,h4⟩:=Cq hb hi
  exact⟨.inr h3,b0,h1,h2,.inr h4⟩
 ·rw[Gh hb hi]at qZ;cases qZ
def BU(f:AV→AV):List (Nat×AV)→List (Nat×AV)
 |[]=>[]
 |(s,x)::r=>(s,f x)::BU f r
def Bc(i:Nat):Hp→Hp
 |[]=>[]
 |(k,b)::r=>cond (Nat.beq k i) (Bc i r) ((k,b)::Bc i r)
def Fz(f:AV→AV):Hp→Hp
 |[]=>[]
 |(k,some (.bx τ l))::r=>(k,some (.bx τ (l.map f)))::Fz f r
 |(k,b)::r=>(k,b)::Fz f r
theorem DE(f:AV→AV):∀(l:List (Nat×AV)) (s:Nat),look (BU f l) s=(look l s).map f
 |[],s=>rfl
 |(k,x)::r,s=>by
  simp only[BU,I1]
  by_cases e:k=s
  ·simp[e]
  ·simp[e,DE f r s]
theorem Bd(i:Nat):∀(l:Hp) (j:Nat),A7 (Bc i l) j=if i=j then none else A7 l j
 |[],j=>by simp[Bc,A7,look]
 |(k,b)::r,j=>by
  simp only[Bc]
  cases h:Nat.beq k i with
  |true =>
   have:=Nat.eq_of_beq_eq_true h
   subst this
   rw[cond_true,Bd k r j,J3]
   by_cases e:k=j<;>simp[e]
  |false =>
   have hne:k≠i:=by intro e;subst e;simp at h
   rw[cond_false,J3,J3,Bd i r j]
   by_cases e:k=j
   ·subst e;simp[Ne.symm hne]
   ·simp[e]
def Ef(f:AV→AV):G1→G1
 |.bx τ l=>.bx τ (l.map f)
 |b=>b
theorem GT(f:AV→AV):∀(l:Hp) (j:Nat),A7 (Fz f l) j=(A7 l j).map (Ef f)
 |[],j=>by simp[Fz,A7,look]
 |(k,b)::r,j=>by
  have:Fz f ((k,b)::r)=(k,b.map (Ef f))::Fz f r:=by
   cases b with
   |none=>rfl
   |some b=>cases b<;>rfl
  rw[this,J3,J3,GT f r j]
  by_cases e:k=j<;>simp[e]
def St.frz(σ:St)(i:Nat):St :=
 let h':=Bc i σ.hp
 { sl:=BU (L8 σ.hp h') σ.sl,nx:=σ.nx,hp:=Fz (L8 σ.hp h') h' }
theorem Sp{h h1 h2:Hp}(e:∀j,(A7 h2 j)=(A7 h1 j).map (Ef (L8 h h1)))(i v len:Nat):Jo h h2 i v len=Jo h h1 i v len:=by
 unfold Jo
 rw[e i]
 cases A7 h1 i with
 |none=>rfl
 |some b=>cases b<;>rfl
theorem Sq{h h1 h2:Hp}(e:∀j,(A7 h2 j)=(A7 h1 j).map (Ef (L8 h h1)))(i v k off:Nat):Jp h h2 i v k off=Jp h h1 i v k off:=by
 unfold Jp
 rw[e i]
 cases A7 h1 i with
 |none=>rfl
 |some b=>cases b<;>rfl
theorem Sr{h h1 h2:Hp}(e:∀j,(A7 h2 j)=(A7 h1 j).map (Ef (L8 h h1)))(i v k off:Nat):Jq h h2 i v k off=Jq h h1 i v k off:=by
 unfold Jq
 rw[e i]
 cases A7 h1 i with
 |none=>rfl
 |some b=>cases b<;>rfl
theorem Ss{h h1 h2:Hp}(e:∀j,(A7 h2 j)=(A7 h1 j).map (Ef (L8 h h1)))(i off:Nat):MA h h2 i off=MA h h1 i off:=by
 unfold MA
 rw[e i]
 cases A7 h1 i with
 |none=>rfl
 |some b=>cases b<;>rfl
mutual
theorem Ia{h h1 h2:Hp}(e:∀j,(A7 h2 j)=(A7 h1 j).map (Ef (L8 h h1))):∀a,L8 h h2 a=L8 h h1 a
 |.row i v len=>by simp only[L8];exact Sp e i v len
 |.elt i v k off=>by simp only[L8];exact Sq e i v k off
 |.sub i v k off=>by simp only[L8];exact Sr e i v k off
 |.ref i off=>by simp only[L8];exact Ss e i off
 |.agg l=>by simp only[L8];rw[Cr e l]
 |.tup l=>by simp only[L8];rw[Cr e l]
 |.fo f l=>by simp only[L8];rw[Cr e l]
 |.any=>rfl
 |.v _=>rfl
 |.str _=>rfl
 |.iptr _=>rfl
 |.sl _ _=>rfl
 |.mp _=>rfl
 |.fn _ _=>rfl
 |.err=>rfl
 |.own _ _ _=>rfl
theorem Cr{h h1 h2:Hp}(e:∀j,(A7 h2 j)=(A7 h1 j).map (Ef (L8 h h1))):∀l,Cp h h2 l=Cp h h1 l
 |[]=>rfl
 |x::r=>by simp only[Cp];rw[Ia e x,Cr e r]
end
theorem Ib{E:Env}{n:Nat}{σ:St}(i:Nat):St.le E n σ (σ.frz i):=by
 rintro a w ⟨θ,h⟩
 have e:∀j,A7 (σ.frz i).hp j=(A7 (Bc i σ.hp) j).map (Ef (L8 σ.hp (Bc i σ.hp))):=fun j=>GT _ _ _
 refine⟨θ,h.cv h.base.1 (fun s x' hx=>?_) (fun j b' hj=>?_) (fun _ _ _ _ _ _ _=>⟨Nat.le_refl _,fun j e1 qA v1 l1 v2 h1 h2=>?_⟩)⟩
 ·have mr:(look σ.sl s).map (L8 σ.hp (Bc i σ.hp))=some x':=by rw[←DE];exact hx
  rw[Option.map_eq_some_iff]at mr
  obtain⟨x,h1,h2⟩:=mr
  exact⟨x,h1,by rw[Ia e];exact h2,.inl (Nat.le_refl _)⟩
 ·refine⟨.inl (Nat.le_refl _),?_⟩
  rw[e j,Option.map_eq_some_iff]at hj
  obtain⟨b,hb,rfl⟩:=hj
  rw[Bd]at hb
  split at hb
  ·cases hb
  ·refine⟨b,hb,?_,.inl (Nat.le_refl _)⟩
   cases b with
   |bx τ l=>simp only[Fy,Ef,Cr e,T3]
   |row e sz v l=>exact⟨v,rfl⟩
   |map m=>rfl
   |it _ _=>rfl
 ·rw[e j,Option.map_eq_some_iff]at h1
  obtain⟨b,hb,lb⟩:=h1
  rw[Bd]at hb
  split at hb
  ·cases hb
  ·rw[hb]at h2
   cases h2
   cases lb;rfl
def EI:List Nat→Hp→Hp
 |[],h=>h
 |i::r,h=>EI r (Bc i h)
theorem Ke:∀(is:List Nat) (h:Hp) (j:Nat),A7 (EI is h) j=none∨A7 (EI is h) j=A7 h j
 |[],h,j=>.inr rfl
 |i::r,h,j=>by
  rcases Ke r (Bc i h) j with e|e
  ·exact .inl e
  ·rw[EI,e,Bd]
   by_cases uP:i=j
   ·exact .inl (by rw[if_pos uP])
   ·exact .inr (by rw[if_neg uP])
mutual
def HU:AV→Bool
 |.v _|.str _|.err=>true
 |.agg l|.tup l=>MC l
 |.sl _ []=>true
 |_=>false
def MC:List AV→Bool
 |[]=>true
 |x::r=>HU x && MC r
end
theorem HV:∀{l:List AV},MC l=true→∀x∈l,HU x=true
 |[],_,x,hx=>by cases hx
 |y::r,h,x,hx=>by
  simp only[MC,Bool.and_eq_true]at h
  rcases List.mem_cons.1 hx with rfl|hx
  ·exact h.1
  ·exact HV h.2 x hx
theorem dC{U U':Nat→Prop}{w:World}{a:AV}{v:Value}(h:Im U w a v):HU a=true→Im U' w a v:=by
 induction h with
 |v x=>intro _;exact .v x
 |str l=>intro _;exact .str l
 |agg l cs hl h ih=>intro hf;exact .agg l cs hl fun j x c hx hc=>ih j x c hx hc (HV (by simpa [HU]using hf) x (List.mem_of_getElem? hx))
 |tup l cs hl h ih=>intro hf;exact .tup l cs hl fun j x c hx hc=>ih j x c hx hc (HV (by simpa [HU]using hf) x (List.mem_of_getElem? hx))
 |fn f l cs hl h ih=>intro hf;cases hf
 |iptr l a f hu hc h ih=>intro hf;cases hf
 |err t p=>intro _;exact .err t p
 |any x=>intro _;exact .any x
 |own e sz l x=>intro _;exact .own e sz l x
 |slnil sz=>intro _;exact .slnil sz
 |sl sz l a cap f lT hm hu hsz hc h ih =>
  intro hf
  cases l with
  |nil=>exact .sl sz [] a cap f lT hm (fun h=>absurd rfl h) hsz hc (fun i e he=>by simp at he)
  |cons x r=>cases hf
theorem Wu{P:Program}{E:Env}{nx:Nat}{hp:Hp}{ev:Operand→Option AV}{ty:TypeId}{f:Nat}{xs:List Operand}{args caps L:List AV}{r:AV}{ts:Array TypeId}{g:Operand}(is:List Nat)(hc:A4 P f (L++caps) r)(ha:s9 ev xs=some args)
  (hL:Cp hp (EI is hp) args=L) (ku:M3 L=true) (mU:HU r=true)
  (hg:∀θ a w,Ab E θ nx hp ev a w→∃cs:List Value,a.eval g=.func (.func f) #[] cs.toArray∧caps.length=cs.length∧∀(j:Nat) x c,caps[j]?=some x→cs[j]?=some c→Im (kx E θ nx hp w).U w x c) :
  I2 P E nx hp ev (.call ⟨.value g,xs.toArray,ts⟩) ty r:=by
 intro d pos after θ a w K hs hk
 obtain⟨hl,hr⟩:=Ba hs xs args ha
 obtain⟨cs,mw,oh,nw⟩:=hg θ a w hs
 unfold IH
 rw[Pz hc.1 mw]
 let h':=EI is hp
 let H:=Fz (L8 hp h') h'
 have e:∀j,A7 H j=(A7 h' j).map (Ef (L8 hp h')):=fun j=>GT _ _ _
 have sub:(kx E θ nx hp w).sub (kx E θ nx H w):=⟨rfl,rfl,fun _ h=>h,fun j b' hj=>by
  have oU:A7 H j=some b':=hj
  rw[e j,Option.map_eq_some_iff]at oU
  obtain⟨b,hb,rfl⟩:=oU
  rcases Ke is hp j with h|h
  ·have mY:A7 (EI is hp) j=some b:=hb
   rw[h]at mY;cases mY
  ·have mY:A7 (EI is hp) j=some b:=hb
   rw[h]at mY
   refine⟨b,mY,?_⟩
   cases b with
   |bx τ l=>simp only[Fy,Ef,kx,Cr e,T3]
   |row e sz v l=>exact⟨v,rfl⟩
   |map m=>rfl
   |it _ _=>rfl,hs.apart,hs.fresh,fun i b hi=>(hs.owns i b hi).2⟩
 have hX:=hc.2 (kx E θ nx H w).U w (xs.map a.eval++cs) (fun k hk=>hs.Ult k (sub.U k hk)) (hs.tab.mono (fun k _ hk=>sub.U k hk) fun _ _ _=>rfl) (by simp only[List.length_append,←hL,T3,List.length_map,hl,oh]) fun j av v hj hv=>by
  have mM:L.length=xs.length:=by rw[←hL,T3,List.length_map,hl]
  rw[List.getElem?_append]at hj hv
  have e1:(xs.map a.eval).length=L.length:=by simp[mM]
  rw[e1]at hv
  split at hj
  ·rename_i kj
   rw[if_pos kj]at hv
   have pL:=U2 ku av (List.mem_of_getElem? hj)
   rw[←hL,T3,List.getElem?_map,Option.map_eq_some_iff]at hj
   obtain⟨a0,vt,rfl⟩:=hj
   have h1:=IZ sub (hr j a0 v vt hv) (.inl (Nat.le_refl _))
   have h2:L8 (kx E θ nx hp w).hp (kx E θ nx H w).hp a0=L8 hp (EI is hp) a0:=Ia (h:=hp) (h1:=h') (h2:=H) e a0
   rw[h2]at h1
   exact pL.im h1
  ·rename_i kj
   rw[if_neg kj]at hv
   exact sub.im (nw _ av v hj hv)
 rw[←List.append_toArray]at hX
 refine Calls.mono hX ?_
 rintro e w' ⟨v,rfl,hv,hb⟩
 exact⟨v,rfl,hk v w' hb (.im (dC hv mU))⟩
structure H8(p A:Prop):Prop where
 h:p
 k:A
structure S7{α:Type}(l:List α)(i:Int)(F:α→Prop):Prop where
 h0:0≤i
 h:i<l.length
 k:∀el,l[i.toNat]?=some el→F el
structure fk(a:AV)(F:AV→Prop):Prop where
 h:F a
theorem jJ{a b:AV}{F:AV→Prop}(e:a=b)(h:F b):fk a F:=⟨e▸h⟩
structure NN{α:Type}(l:List α)(F:Nat→Prop):Prop where
 k:F l.length
structure CV(b:Bool)(A B:Prop):Prop where
 t:b=true→A
 f:b=false→B
structure Pc(P:Program)(f:Nat)(args:List AV)(F:AV→Prop):Prop where
 h:∃r,Pb P f args r∧F r
structure jK(P:Program)(f:Nat)(hp:Hp)(l caps:List AV)(F:AV→Prop):Prop where
 h:∃(is:List Nat) (L:List AV) (r:AV),Cp hp (EI is hp) l=L∧M3 L=true∧A4 P f (L++caps) r∧HU r=true∧F r
structure Ic(P:Program)(T:Nat)(F:Bool→Nat→Prop):Prop where
 h:∃ag sz,K1 P T ag sz∧F ag sz
structure VD(P:Program)(T:Nat)(F:List AV→Prop):Prop where
 h:∃l,K4 P T l∧F (l.map w8)
structure NO(P:Program)(S f:Nat)(F:Nat→Nat→Prop):Prop where
 h:∃off sz,J6 P S f off sz∧F off sz
structure IJ(P:Program)(T:Nat)(F:Nat→Nat→Prop):Prop where
 h:∃e sz,Q4 P T e sz∧F e sz
structure VE(P:Program)(T:Nat)(F:Nat→Nat→Prop):Prop where
 h:∃len e sz,IM P T len e sz∧F len sz
structure cO(P:Program)(T:Nat)(A:Prop):Prop where
 [h:Lk P T]
 k:A
structure EJ(P:Program)(T:Nat)(A:Prop):Prop where
 h:s8 P T
 k:A
structure Gi(P:Program)(T:Nat)(A:Prop):Prop where
 h:EQ P T
 k:A
structure MD(P:Program)(T:Nat)(k1 k2:IntKind)(A:Prop):Prop where
 h:HJ P T k1 k2
 k:A
structure HW(P:Program)(T:Nat)(k:IntKind)(A:Prop):Prop where
 h:FE P T k
 k:A
structure ME(P:Program)(T:Nat)(k1 k2 k3:IntKind)(A:Prop):Prop where
 h:HK P T k1 k2 k3
 k:A
structure MF(P:Program)(T:Nat)(A:Prop):Prop where
 h:Jn P T
 k:A
structure Ie(P:Program)(T:Nat)(F:List AV→List (Nat×Nat)→Prop):Prop where
 h:∃zs pl,K4 P T zs∧R8 P T pl∧F (zs.map w8) pl
structure FQ(P:Program)(T:Nat)(F:Nat→Nat→Nat→List AV→Prop):Prop where
 h:∃e sz bs z,Q4 P T e sz∧K4 P e z∧Q8 P e bs∧z.length=sz∧F e sz bs (z.map w8)
structure VF(P:Program)(T:Nat)(F:TypeDesc→AV→Prop):Prop where
 h:∃k e t z,Fw P T k e t z∧F t (w8 z)
inductive MG (P:Program) (S T:Nat):AV→AV→Prop
 |bytes {e sz:Nat} (l:List UInt8) [s8 P S] [Q4 P T e sz] [V7 P e .u8] (h:l.length≤9223372036854775807):MG P S T (.str l) (.sl 1 (l.map fun b=>[.v (.int .u8 b.toNat)]))
 |back {e sz:Nat} (l:List UInt8) [Q4 P S e sz] [V7 P e .u8] [s8 P T]:MG P S T (.sl 1 (l.map fun b=>[.v (.int .u8 b.toNat)])) (.str l)
 |int {k k':IntKind} (m:Int) [V7 P T k] [V7 P S k']:MG P S T (.v (.int k' m)) (.v (.int k (k.wrap m)))
 |rune {k:IntKind} (m:Int) [V7 P S k] [s8 P T]:MG P S T (.v (.int k m)) (.str (Utf8.encode m).data.toList)
structure Bu(P:Program)(S T:Nat)(a:AV)(F:AV→Prop):Prop where
 h:∃r,MG P S T a r∧F r
theorem E0{p A:Prop}(h:p)(k:A):H8 p A:=⟨h,k⟩
theorem Be{α β:Type}{l:List β}{f:β→α}{k:Nat}{F:α→Prop}(h:k<l.length)(kk:∀x,l[k]?=some x→F (f x)):S7 (l.map f) (k:Int) F :=
 ⟨by omega,by simpa using h,fun el ke=>by
  simp at ke
  obtain⟨u,hu,rfl⟩:=ke
  exact kk u hu⟩
theorem Do{α β:Type}{l:List β}{f:β→α}{i:Int}{F:α→Prop}(h0:0≤i)(h:i<l.length)(kk:∀x,l[i.toNat]?=some x→F (f x)):S7 (l.map f) i F :=
 ⟨h0,by simpa using h,fun el ke=>by
  simp at ke
  obtain⟨u,hu,rfl⟩:=ke
  exact kk u hu⟩
theorem Wv{α:Type}{l:List α}{i:Int}{F:α→Prop}(h0:0≤i)(h:i<l.length)(kk:∀x,l[i.toNat]?=some x→F x):S7 l i F:=⟨h0,h,kk⟩
theorem o8{α:Type}{l:List α}{i:Int}{x:α}{F:α→Prop}(h:l[i.toNat]?=some x)(h0:0≤i)(kk:F x):S7 l i F:=by
 have h1:=(List.getElem?_eq_some_iff.1 h).1
 exact⟨h0,by omega,fun el ke=>by rw[h]at ke;cases ke;exact kk⟩
theorem A2{α β:Type}{l:List β}{f:β→α}{i:Int}{x:β}{F:α→Prop}(h:l[i.toNat]?=some x)(h0:0≤i)(kk:F (f x)):S7 (l.map f) i F :=
 o8 (by simp[h]) h0 kk
theorem dD{α β:Type}{l:List β}{f:β→α}{F:Nat→Prop}(k:F l.length):NN (l.map f) F:=⟨by rw[List.length_map];exact k⟩
theorem jL{α:Type}{l:List α}{F:Nat→Prop}(k:F l.length):NN l F:=⟨k⟩
theorem fm{A B:Prop}(k:A):CV true A B:=⟨fun _=>k,fun h=>by cases h⟩
theorem fq{A B:Prop}(k:B):CV false A B:=⟨(fun h=>by cases h),fun _=>k⟩
theorem ft{p A B:Prop}[Decidable p](h1:p→A)(h2:¬p→B):CV (decide p) A B:=⟨fun h=>h1 (of_decide_eq_true h),fun h=>h2 (of_decide_eq_false h)⟩
theorem dE{p A B:Prop}[Decidable p](h1:¬p→A)(h2:p→B):CV (!decide p) A B:=⟨fun h=>h1 (by simpa using h),fun h=>h2 (by simpa using h)⟩
theorem fu{b:Bool}{A B:Prop}(h1:b=true→A)(h2:b=false→B):CV b A B:=⟨h1,h2⟩
theorem dF{b:Bool}{A B:Prop}(h1:b=false→A)(h2:b=true→B):CV (!b) A B:=⟨(fun h=>h1 (by simpa using h)),fun h=>h2 (by simpa using h)⟩
theorem A0{P:Program}{f:Nat}{args:List AV}{r:AV}{F:AV→Prop}(h:A4 P f args r)(k:F r):Pc P f args F:=⟨⟨r,.inl h,k⟩⟩
theorem jM{P:Program}{T:Nat}{ag:Bool}{sz:Nat}{F:Bool→Nat→Prop}[h:K1 P T ag sz](k:F ag sz):Ic P T F:=⟨⟨ag,sz,h,k⟩⟩
theorem fv{P:Program}{T:Nat}{l:List Value}{F:List AV→Prop}[h:K4 P T l](k:F (l.map w8)):VD P T F:=⟨⟨l,h,k⟩⟩
theorem jN{P:Program}{S f off sz:Nat}{F:Nat→Nat→Prop}[h:J6 P S f off sz](k:F off sz):NO P S f F:=⟨⟨off,sz,h,k⟩⟩
theorem jp{P:Program}{T e sz:Nat}{F:Nat→Nat→Prop}[h:Q4 P T e sz](k:F e sz):IJ P T F:=⟨⟨e,sz,h,k⟩⟩
theorem jO{P:Program}{T len e sz:Nat}{F:Nat→Nat→Prop}[h:IM P T len e sz](k:F len sz):VE P T F:=⟨⟨len,e,sz,h,k⟩⟩
theorem jq{P:Program}{T:Nat}{A:Prop}[h:Lk P T](k:A):cO P T A:=⟨k⟩
theorem fw{P:Program}{T:Nat}{A:Prop}[h:s8 P T](k:A):EJ P T A:=⟨h,k⟩
theorem dG{P:Program}{T:Nat}{A:Prop}[h:EQ P T](k:A):Gi P T A:=⟨h,k⟩
theorem jP{P:Program}{T:Nat}{k:IntKind}{A:Prop}[h:FE P T k](kk:A):HW P T k A:=⟨h,kk⟩
theorem dH{P:Program}{T:Nat}{k1 k2 k3:IntKind}{A:Prop}[h:HK P T k1 k2 k3](k:A):ME P T k1 k2 k3 A:=⟨h,k⟩
theorem dI{P:Program}{T:Nat}{k1 k2:IntKind}{A:Prop}[h:HJ P T k1 k2](k:A):MD P T k1 k2 A:=⟨h,k⟩
theorem dJ{P:Program}{T:Nat}{A:Prop}[h:Jn P T](k:A):MF P T A:=⟨h,k⟩
theorem dK{P:Program}{T:Nat}{zs:List Value}{pl:List (Nat×Nat)}{F:List AV→List (Nat×Nat)→Prop}[h:K4 P T zs][h2:R8 P T pl](k:F (zs.map w8) pl):Ie P T F:=⟨⟨zs,pl,h,h2,k⟩⟩
theorem jQ{P:Program}{T e sz bs:Nat}{z:List Value}{F:Nat→Nat→Nat→List AV→Prop}[h:Q4 P T e sz][h2:K4 P e z][h3:Q8 P e bs](hz:z.length=sz)(k:F e sz bs (z.map w8)):FQ P T F:=⟨⟨e,sz,bs,z,h,h2,h3,hz,k⟩⟩
theorem jR{P:Program}{T k e:Nat}{t:TypeDesc}{z:Value}{F:TypeDesc→AV→Prop}[h:Fw P T k e t z](kk:F t (w8 z)):VF P T F:=⟨⟨k,e,t,z,h,kk⟩⟩
theorem VG{P:Program}{S T e sz:Nat}{l:List UInt8}{F:AV→Prop}[s8 P S][Q4 P T e sz][V7 P e .u8](h:l.length≤9223372036854775807)(k:F (.sl 1 (l.map fun b=>[.v (.int .u8 b.toNat)]))):Bu P S T (.str l) F:=⟨⟨_,.bytes (e:=e) (sz:=sz) l h,k⟩⟩
theorem Ww{P:Program}{S T e sz:Nat}{l:List UInt8}{F:AV→Prop}[Q4 P S e sz][V7 P e .u8][s8 P T](k:F (.str l)):Bu P S T (.sl 1 (l.map fun b=>[.v (.int .u8 b.toNat)])) F:=⟨_,.back (e:=e) (sz:=sz) l,k⟩
theorem dL{P:Program}{S T:Nat}{k k':IntKind}{m:Int}{F:AV→Prop}[V7 P T k][V7 P S k'](h:k.wrap m=m)(kk:F (.v (.int k m))):Bu P S T (.v (.int k' m)) F:=⟨⟨_,.int (k:=k) m,by rw[h];exact kk⟩⟩
theorem ZK{P:Program}{S T:Nat}{k k':IntKind}{m:Int}{F:AV→Prop}[V7 P T k][V7 P S k'](kk:F (.v (.int k (k.wrap m)))):Bu P S T (.v (.int k' m)) F:=⟨⟨_,.int (k:=k) m,kk⟩⟩
theorem Wx{P:Program}{S T:Nat}{k:IntKind}{m:Int}{F:AV→Prop}[V7 P S k][s8 P T](kk:F (.str (Utf8.encode m).data.toList)):Bu P S T (.v (.int k m)) F:=⟨⟨_,.rune (k:=k) m,kk⟩⟩
theorem cond_false{c:Bool}{A:Prop}(h:cond c A False):c=true∧A:=by
 cases c
 ·exact h.elim
 ·exact⟨rfl,h⟩
def VH:Value→Bool
 |.agg _|.tuple _=>false
 |_=>true
theorem Ig{v:Value}(h:VH v=true):v.oneCell'=true:=by cases v<;>first|rfl|cases h
def QL(hp:Hp)(a:AV)(A:Prop):Prop :=
 match a with
 |.v x=>cond (VH x) A False
 |.str _|.sl _ _|.iptr _|.ref _ _|.mp _|.fn _ _|.fo _ _=>A
 |.row i ver _=>match A7 hp i with
  |some (.row _ _ v' _)=>H8 (ver=v') A
  |_=>False
 |_=>False
theorem Ih{hp:Hp}{a:AV}{A:Prop}(h:QL hp a A):One hp a∧A:=by
 unfold QL at h
 split at h
 ·rename_i x
  obtain⟨h1,h2⟩:=cond_false h
  exact⟨One.v (Ig h1),h2⟩
 ·exact⟨.str _,h⟩
 ·exact⟨.sl _ _,h⟩
 ·exact⟨.iptr _,h⟩
 ·exact⟨.ref _ _,h⟩
 ·exact⟨.mp _,h⟩
 ·exact⟨.fn _ _,h⟩
 ·exact⟨.fo _ _,h⟩
 ·split at h
  ·rename_i hl
   obtain⟨rfl,h⟩:=h
   exact⟨.row hl,h⟩
  ·exact h.elim
 ·exact h.elim
def VI(hp:Hp):List AV→Prop→Prop
 |[],A=>A
 |x::r,A=>QL hp x (VI hp r A)
theorem MH{hp:Hp}:∀{l:List AV} {A:Prop},VI hp l A→DB hp l∧A
 |[],A,h=>⟨trivial,h⟩
 |x::r,A,h=>by
  obtain⟨h1,h2⟩:=Ih h
  obtain⟨h3,h4⟩:=MH h2
  exact⟨⟨h1,h3⟩,h4⟩
def QM(hp:Hp)(a:AV)(A:Prop):Prop :=
 match a with
 |.agg _=>A
 |a=>QL hp a A
theorem Ii{hp:Hp}{a:AV}{A:Prop}(h:QM hp a A):Fits hp a∧A:=by
 unfold QM at h
 split at h
 ·exact⟨trivial,h⟩
 ·rename_i hn
  obtain⟨h1,h2⟩:=Ih h
  refine⟨?_,h2⟩
  cases a<;>first|exact h1|exact trivial
def ET(hp:Hp):List (Nat×AV)→Prop→Prop
 |[],A=>A
 |(_,a)::r,A=>QM hp a (ET hp r A)
theorem AG{hp:Hp}:∀{l:List (Nat×AV)} {A:Prop},ET hp l A→EH hp l∧A
 |[],A,h=>⟨trivial,h⟩
 |(_,x)::r,A,h=>by
  obtain⟨h1,h2⟩:=Ii h
  obtain⟨h3,h4⟩:=AG h2
  exact⟨⟨h1,h3⟩,h4⟩
def fx(a:AV)(A:Prop):Prop :=
 match a with
 |.v x=>cond (VH x) A False
 |.str _|.sl _ _|.iptr _|.fn _ _=>A
 |_=>False
theorem ZL{a:AV}{A:Prop}(h:fx a A):o0 a∧A:=by
 unfold fx at h
 split at h
 ·obtain⟨h1,h2⟩:=cond_false h
  exact⟨Ig h1,h2⟩
 ·exact⟨trivial,h⟩
 ·exact⟨trivial,h⟩
 ·exact⟨trivial,h⟩
 ·exact⟨trivial,h⟩
 ·exact h.elim
def ZM:List AV→Prop→Prop
 |[],A=>A
 |x::r,A=>fx x (ZM r A)
def MI:List (List AV)→Prop→Prop
 |[],A=>A
 |x::r,A=>ZM x (MI r A)
theorem OM:∀{l:List AV} {A:Prop},ZM l A→(∀u∈l,o0 u)∧A
 |[],A,h=>⟨fun u hu=>by (cases hu),h⟩
 |x::r,A,h=>by
  obtain⟨h1,h2⟩:=ZL h
  obtain⟨h3,h4⟩:=OM h2
  refine⟨fun u hu=>?_,h4⟩
  rcases List.mem_cons.1 hu with rfl|hu
  ·exact h1
  ·exact h3 u hu
theorem Ep:∀{l:List (List AV)} {A:Prop},MI l A→Cc l∧A
 |[],A,h=>⟨trivial,h⟩
 |x::r,A,h=>by
  obtain⟨h1,h2⟩:=OM h
  obtain⟨h3,h4⟩:=Ep h2
  exact⟨⟨h1,h3⟩,h4⟩
def Y5(x:Option AV)(F:AV→Prop):Prop :=
 match x with
 |some a=>F a
 |none=>False
theorem L2{x:Option AV}{F:AV→Prop}(h:Y5 x F):∃a,x=some a∧F a:=by
 unfold Y5 at h
 split at h
 ·exact⟨_,rfl,h⟩
 ·exact h.elim
def QN(op:BinOp)(k:IntKind)(a b:Int)(F:AV→Prop):Prop :=
 match op,k with
 |.add,.i64=>H8 (-9223372036854775808≤a+b∧a+b≤9223372036854775807) (F (.v (.int .i64 (a+b))))
 |.sub,.i64=>H8 (-9223372036854775808≤a-b∧a-b≤9223372036854775807) (F (.v (.int .i64 (a-b))))
 |.mul,.i64=>H8 (-9223372036854775808≤a*b∧a*b≤9223372036854775807) (F (.v (.int .i64 (a*b))))
 |.quo,.i64=>H8 (b≠0∧-9223372036854775808≤a.tdiv b∧a.tdiv b≤9223372036854775807) (F (.v (.int .i64 (a.tdiv b))))
 |.quo,k=>H8 (b≠0) (F (.v (.int k (k.wrap (a.tdiv b)))))
 |.rem,k=>H8 (b≠0) (F (.v (.int k (a.tmod b))))
 |op,k=>match Cz op k a b with
  |some r=>F (.v r)
  |none=>False
def ZN(op:BinOp)(a b:List UInt8)(F:AV→Prop):Prop :=
 match op with
 |.add=>H8 (a.length+b.length≤9223372036854775807) (F (.str (a++b)))
 |op=>match Uv op a b with
  |some r=>F (.v r)
  |none=>False
def VJ(P:Program)(T:Nat)(op:BinOp)(a b:Bool)(F:AV→Prop):Prop :=
 match op with
 |.eql=>MF P T (F (.v (.bool (decide (a=b)))))
 |.neq=>MF P T (F (.v (.bool (decide (a≠b)))))
 |_=>False
def HX(P:Program)(T:Nat)(op:BinOp)(l m:List AV)(F:AV→Prop):Prop :=
 match op,l,m with
 |.eql,[.v (.int k1 a1),.v (.int k2 a2)],[.v (.int k3 b1),.v (.int k4 b2)]=>cond (decide (k1=k3∧k2=k4)) (MD P T k1 k2 (F (.v (.bool (decide (a1=b1∧a2=b2)))))) False
 |.neq,[.v (.int k1 a1),.v (.int k2 a2)],[.v (.int k3 b1),.v (.int k4 b2)]=>cond (decide (k1=k3∧k2=k4)) (MD P T k1 k2 (F (.v (.bool (!decide (a1=b1∧a2=b2)))))) False
 |.eql,[.v (.int k1 a1),.v (.int k2 a2),.v (.int k3 a3)],[.v (.int l1 b1),.v (.int l2 b2),.v (.int l3 b3)]=>cond (decide (k1=l1∧k2=l2∧k3=l3)) (ME P T k1 k2 k3 (F (.v (.bool (decide (a1=b1∧a2=b2∧a3=b3)))))) False
 |.neq,[.v (.int k1 a1),.v (.int k2 a2),.v (.int k3 a3)],[.v (.int l1 b1),.v (.int l2 b2),.v (.int l3 b3)]=>cond (decide (k1=l1∧k2=l2∧k3=l3)) (ME P T k1 k2 k3 (F (.v (.bool (!decide (a1=b1∧a2=b2∧a3=b3)))))) False
 |.eql,[.str a1,.v (.int k2 a2)],[.str b1,.v (.int k4 b2)]=>cond (decide (k2=k4)) (HW P T k2 (F (.v (.bool (decide (a1=b1∧a2=b2)))))) False
 |.neq,[.str a1,.v (.int k2 a2)],[.str b1,.v (.int k4 b2)]=>cond (decide (k2=k4)) (HW P T k2 (F (.v (.bool (!decide (a1=b1∧a2=b2)))))) False
 |_,_,_=>False
def MJ:Operand→Bool
 |.const .nilIface=>true
 |_=>false
def QO(P:Program)(T:Nat)(op:BinOp)(x:Option AV)(F:AV→Prop):Prop :=
 match op,x with
 |.eql,some .err=>Gi P T (F (.v (.bool false)))
 |.neq,some .err=>Gi P T (F (.v (.bool true)))
 |.eql,some (.v .nilIface)=>Gi P T (F (.v (.bool true)))
 |.neq,some (.v .nilIface)=>Gi P T (F (.v (.bool false)))
 |_,_=>False
def QP(P:Program)(T:Nat)(op:BinOp)(x y:Option AV)(F:AV→Prop):Prop :=
 match op,x,y with
 |.shl,some (.v (.int k a)),some (.v (.int _ b))=>H8 (0≤b) (F (.v (.int k (k.wrap (a*2 ^ (min b.toNat k.bits))))))
 |.shr,some (.v (.int k a)),some (.v (.int _ b))=>H8 (0≤b) (F (.v (.int k (a.fdiv (2 ^ (min b.toNat k.bits))))))
 |op,some (.v (.int k a)),some (.v (.int k' b))=>cond (decide (k=k')) (QN op k a b F) False
 |op,some (.str s),some (.str t)=>ZN op s t F
 |op,some (.v (.bool a)),some (.v (.bool b))=>VJ P T op a b F
 |op,some (.agg l),some (.agg m)=>HX P T op l m F
 |_,_,_=>False
def MK(P:Program)(T:Nat)(hp:Hp)(x:Option AV)(F:AV→Prop):Prop :=
 match x with
 |some (.ref i off)=>match A7 hp i with
  |some (.bx τ l)=>Ic P T fun ag sz=>cond ag
    (cond (Nat.beq off 0 && Nat.beq l.length sz) (F (.agg l)) (H8 (((l.drop off).take sz).length=sz) (F (.agg ((l.drop off).take sz)))))
    (Y5 (l[off]?) F)
  |_=>False
 |some (.iptr l)=>Ic P T fun ag sz=>cond ag
   (cond (Nat.beq l.length sz) (F (.agg l)) (H8 ((l.take sz).length=sz) (F (.agg (l.take sz)))))
   (match l with|av::_=>F av|[]=>False)
 |some (.elt i ver k off)=>match A7 hp i with
  |some (.row _ sz lQ l)=>H8 (ver=lQ) (S7 l (k:Int) fun el=>Ic P T fun ag szT=>cond ag
    (cond (Nat.beq off 0 && Nat.beq szT sz) (F (.agg el)) False) (Y5 (el[off]?) F))
  |_=>False
 |_=>False
def QQ(hp:Hp)(off:Nat)(x:Option AV)(F:AV→Prop):Prop :=
 match x with
 |some (.ref i o)=>F (.ref i (o+off))
 |some (.iptr l)=>F (.iptr (l.drop off))
 |some (.elt i ver k o)=>match A7 hp i with
  |some (.row _ _ lQ _)=>H8 (ver=lQ) (F (.elt i ver k (o+off)))
  |_=>False
 |_=>False
def Ij(P:Program)(T:Nat)(hp:Hp)(x y:Option AV)(F:AV→Prop):Prop :=
 match x,y with
 |some (.sl sz l),some (.v (.int _ i))=>IJ P T fun _ kw=>cond (Nat.beq sz kw) (S7 l i fun el=>F (.iptr el)) False
 |some (.row r ver len),some (.v (.int _ i))=>match A7 hp r with
  |some (.row _ sz lQ _)=>H8 (ver=lQ) (IJ P T fun _ kw=>cond (Nat.beq sz kw) (H8 (0≤i∧i<len) (F (.elt r ver i.toNat 0))) False)
  |_=>False
 |some (.ref r o),some (.v (.int _ i))=>VE P T fun len sz=>H8 (0≤i∧i<len) (F (.ref r (o+i.toNat*sz)))
 |some (.iptr l),some (.v (.int _ i))=>VE P T fun len sz=>cond (Nat.beq sz 1 && Nat.beq l.length len) (S7 l i fun av=>F (.iptr [av])) False
 |_,_=>False
def ZO(hp:Hp)(x:Option AV)(F:AV→Prop):Prop :=
 match x with
 |some (.ref i o)=>F (.ref i o)
 |some (.iptr l)=>F (.iptr l)
 |some (.elt i ver k o)=>match A7 hp i with
  |some (.row _ _ lQ _)=>H8 (ver=lQ) (F (.elt i ver k o))
  |_=>False
 |_=>False
def HY(P:Program)(T:Nat)(hp:Hp)(x:Option AV)(F:AV→Prop):Prop :=
 match x with
 |some (.sl _ l)=>IJ P T fun _ _=>NN l fun m=>F (.i m)
 |some (.str s)=>EJ P T (F (.i s.length))
 |some (.row r ver len)=>match A7 hp r with
  |some (.row _ _ lQ _)=>H8 (ver=lQ) (IJ P T fun _ _=>F (.i len))
  |_=>False
 |some (.v (.slice none 0 0))=>IJ P T fun _ _=>F (.i 0)
 |_=>False
def Pd(P:Program)(f:Nat)(hp:Hp)(l caps:List AV)(F:AV→Prop):Prop:=cond (M3 l) (Pc P f (l++caps) F) (jK P f hp l caps F)
def ML(P:Program)(T:Nat)(ev:Operand→Option AV)(x:Option AV)(lo hi:Option Operand)(F:AV→Prop):Prop :=
 match x with
 |some (.str s)=>EJ P T (match CF ev 0 lo,CF ev s.length hi with
  |some l,some h=>H8 (0≤l∧l≤h∧h≤s.length) (F (.str ((s.take h.toNat).drop l.toNat)))
  |_,_=>False)
 |some (.sl sz s)=>IJ P T fun _ kw=>cond (Nat.beq sz kw) (match CF ev 0 lo,CF ev s.length hi with
  |some l,some h=>H8 (0≤l∧l≤h∧h≤s.length) (F (.sl sz ((s.take h.toNat).drop l.toNat)))
  |_,_=>False) False
 |_=>False
def NP(P:Program)(T:Nat)(hp:Hp)(ok:Bool)(x y:Option AV)(F:AV→Prop):Prop :=
 match x,y with
 |some (.mp i),some oW=>match A7 hp i,keyOf oW with
  |some (.map m),some k=>VF P T fun t z=>cond (Em t k) (H8 (Co t m) (cond ok (fk (.tup [DD m k z,.b (Dm m k).isSome]) F) (fk (DD m k z) F))) False
  |_,_=>False
 |_,_=>False
def GA(P:Program)(op:Op)(ev:Operand→Option AV)(hp:Hp)(F:AV→Prop):Prop :=
 match op with
 |.move x=>Y5 (ev x) F
 |.assign x=>Y5 (ev x) F
 |.pick c a b=>match ev c with
  |some (.v (.bool t))=>CV t (Y5 (ev a) F) (Y5 (ev b) F)
  |_=>False
 |.binOp op T x y _=>cond (MJ y) (QO P T op (ev x) F) (QP P T op (ev x) (ev y) F)
 |.unOp .not _ x=>match ev x with
  |some (.v (.bool b))=>F (.v (.bool (!b)))
  |_=>False
 |.unOp .neg _ x=>match ev x with
  |some (.v (.int .i64 a))=>H8 (-9223372036854775807≤a∧a≤9223372036854775807) (F (.v (.int .i64 (-a))))
  |some (.v (.int .u64 a))=>F (.v (.int .u64 (IntKind.u64.wrap (-a))))
  |_=>False
 |.unOp .xor _ x=>match ev x with
  |some (.v (.int .u64 a))=>H8 (0≤a∧a≤18446744073709551615) (F (.v (.int .u64 (18446744073709551615-a))))
  |_=>False
 |.load T x=>MK P T hp (ev x) F
 |.fieldAddr S x f=>NO P S f fun off sz=>cond (Nat.blt 0 sz) (QQ hp off (ev x) F) False
 |.indexAddr T x y=>Ij P T hp (ev x) (ev y) F
 |.index T x y=>match ev x,ev y with
  |some (.str s),some (.v (.int _ i))=>EJ P T (S7 s i fun b=>F (.v (.int .u8 b.toNat)))
  |_,_=>False
 |.nilCheck x=>ZO hp (ev x) F
 |.convert S T x=>Y5 (ev x) fun a=>Bu P S T a F
 |.call ⟨.builtin .len,⟨[x]⟩,⟨[T]⟩⟩=>HY P T hp (ev x) F
 |.call ⟨.builtin .min,⟨[x,y]⟩,⟨[_,_]⟩⟩=>match ev x,ev y with
  |some (.v (.int k a)),some (.v (.int k' b))=>cond (decide (k=k')) (F (.v (.int k (min a b)))) False
  |_,_=>False
 |.call ⟨.builtin .max,⟨[x,y]⟩,⟨[_,_]⟩⟩=>match ev x,ev y with
  |some (.v (.int k a)),some (.v (.int k' b))=>cond (decide (k=k')) (F (.v (.int k (max a b)))) False
  |_,_=>False
 |.call ⟨.value (.func f),⟨args⟩,_⟩=>match s9 ev args with
  |some l=>Pd P f hp l [] F
  |none=>False
 |.call ⟨.value (.tmp t),⟨args⟩,_⟩=>match ev (.tmp t),s9 ev args with
  |some (.fn f caps),some l=>Pd P f hp l caps F
  |_,_=>False
 |.build T ⟨parts⟩=>match CM ev parts with
  |some ps=>Ie P T fun zs pl=>ET hp ps (Y5 ((CU pl zs ps).map AV.agg) F)
  |none=>False
 |.buildSlice T len ⟨parts⟩=>match CM ev parts with
  |some ps=>FQ P T fun _ sz _ _=>cond (DC 0 ps && Ae sz (U4 ps) && Nat.beq ps.length len && Nat.blt 0 sz) (H8 (len*sz≤16777216) (ET hp ps (MI (U4 ps) (F (.sl sz (U4 ps)))))) False
  |none=>False
 |.lookup T x y ok=>NP P T hp ok (ev x) (ev y) F
 |.slice T x lo hi none=>ML P T ev (ev x) lo hi F
 |.extract x k=>match ev x with
  |some (.tup l)=>Y5 (l[k]?) F
  |_=>False
 |.makeFunc (.func f) ⟨[]⟩ ⟨xs⟩=>match s9 ev xs with
  |some caps=>cond (M3 caps) (F (.fn f caps)) False
  |none=>False
 |_=>False
section sound
variable {P:Program} {E:Env} {nx:Nat} {hp:Hp} {ev:Operand→Option AV} {ty:TypeId} {x y:Operand} {F:AV→Prop} {T T2:TypeId}
theorem fy{op:BinOp}(h:QP P T op (ev x) (ev y) F):∃av,I2 P E nx hp ev (.binOp op T x y T2) ty av∧F av:=by
 unfold QP at h
 split at h
 ·rename_i hx hy;exact⟨_,cJ hx hy h.h,h.k⟩
 ·rename_i hx hy;exact⟨_,cK hx hy h.h,h.k⟩
 ·rename_i hx hy
  obtain⟨hk,hq⟩:=cond_false h
  clear h
  have hk:=of_decide_eq_true hk
  subst hk
  unfold QN at hq
  split at hq
  ·exact⟨_,ES hx hy (by simp only[Cz,W5 hq.h]),hq.k⟩
  ·exact⟨_,ES hx hy (by simp only[Cz,W5 hq.h]),hq.k⟩
  ·exact⟨_,ES hx hy (by simp only[Cz,W5 hq.h]),hq.k⟩
  ·have ry:=PZ (P:=P) (E:=E) (nx:=nx) (hp:=hp) (ty:=ty) (T:=T) (T2:=T2) hx hy hq.h.1
   rw[W5 hq.h.2]at ry
   exact⟨_,ry,hq.k⟩
  ·exact⟨_,PZ hx hy hq.h,hq.k⟩
  ·exact⟨_,cI hx hy hq.h,hq.k⟩
  ·split at hq
   ·rename_i hr;exact⟨_,ES hx hy hr,hq⟩
   ·exact hq.elim
 ·rename_i s t hx hy
  unfold ZN at h
  split at h
  ·exact⟨_,Wj hx hy h.h,h.k⟩
  ·split at h
   ·rename_i hr;exact⟨_,Wi hx hy hr,h⟩
   ·exact h.elim
 ·rename_i a b hx hy
  unfold VJ at h
  split at h
  ·have:=h.h;exact⟨_,Pa (T:=T) false hx hy,h.k⟩
  ·have:=h.h;exact⟨_,Pa (T:=T) true hx hy,h.k⟩
  ·exact h.elim
 ·rename_i l m hx hy
  unfold HX at h
  split at h
  ·obtain⟨hk,hq⟩:=cond_false h
   obtain⟨rfl,rfl⟩:=of_decide_eq_true hk
   have:=hq.h;exact⟨_,HM (T:=T) false hx hy,hq.k⟩
  ·obtain⟨hk,hq⟩:=cond_false h
   obtain⟨rfl,rfl⟩:=of_decide_eq_true hk
   have:=hq.h;exact⟨_,HM (T:=T) true hx hy,hq.k⟩
  ·obtain⟨hk,hq⟩:=cond_false h
   obtain⟨rfl,rfl,rfl⟩:=of_decide_eq_true hk
   have:=hq.h;exact⟨_,HO (T:=T) false hx hy,hq.k⟩
  ·obtain⟨hk,hq⟩:=cond_false h
   obtain⟨rfl,rfl,rfl⟩:=of_decide_eq_true hk
   have:=hq.h;exact⟨_,HO (T:=T) true hx hy,hq.k⟩
  ·obtain⟨hk,hq⟩:=cond_false h
   obtain rfl:=of_decide_eq_true hk
   have:=hq.h;exact⟨_,Lt (T:=T) false hx hy,hq.k⟩
  ·obtain⟨hk,hq⟩:=cond_false h
   obtain rfl:=of_decide_eq_true hk
   have:=hq.h;exact⟨_,Lt (T:=T) true hx hy,hq.k⟩
  ·exact h.elim
 ·exact h.elim
theorem ZP{op:BinOp}(hy:MJ y=true)(h:QO P T op (ev x) F):∃av,I2 P E nx hp ev (.binOp op T x y T2) ty av∧F av:=by
 obtain rfl:y=.const .nilIface:=by
  unfold MJ at hy
  split at hy
  ·rfl
  ·cases hy
 unfold QO at h
 split at h
 ·rename_i hx;have:=h.h;exact⟨_,Pv (T:=T) false hx,h.k⟩
 ·rename_i hx;have:=h.h;exact⟨_,Pv (T:=T) true hx,h.k⟩
 ·rename_i hx;have:=h.h;exact⟨_,Pw (T:=T) false hx,h.k⟩
 ·rename_i hx;have:=h.h;exact⟨_,Pw (T:=T) true hx,h.k⟩
 ·exact h.elim
theorem dM(h:MK P T hp (ev x) F):∃av,I2 P E nx hp ev (.load T x) ty av∧F av:=by
 unfold MK at h
 split at h
 ·rename_i i off hx
  split at h
  ·rename_i l hb
   obtain⟨⟨ag,sz,tv,h⟩⟩:=h
   cases ag with
   |true =>
    change cond (Nat.beq off 0 && Nat.beq l.length sz) _ _ at h
    cases hc:(Nat.beq off 0 && Nat.beq l.length sz)with
    |true =>
     rw[hc]at h
     simp only[Bool.and_eq_true,Nat.beq_eq]at hc
     obtain⟨rfl,hs⟩:=hc
     exact⟨_,Lp (sz:=sz) hx hb hs,h⟩
    |false =>
     rw[hc]at h
     exact⟨_,Dj (sz:=sz) hx hb rfl h.h,h.k⟩
   |false =>
    obtain⟨av,hl,h⟩:=L2 h
    exact⟨_,Lo (sz:=sz) hx hb hl,h⟩
  ·exact h.elim
 ·rename_i l hx
  obtain⟨⟨ag,sz,tv,h⟩⟩:=h
  cases ag with
  |true =>
   change cond (Nat.beq l.length sz) _ _ at h
   cases hc:Nat.beq l.length sz with
   |true =>
    rw[hc]at h
    exact⟨_,BT (sz:=sz) hx (by rw[←Nat.eq_of_beq_eq_true hc,List.take_length]) (Nat.eq_of_beq_eq_true hc),h⟩
   |false =>
    rw[hc]at h
    exact⟨_,BT (sz:=sz) hx rfl h.h,h.k⟩
  |false =>
   cases l with
   |nil=>exact h.elim
   |cons av r=>exact⟨_,KV (sz:=sz) hx,h⟩
 ·rename_i i ver k off hx
  split at h
  ·rename_i e sz lQ l hb
   obtain⟨rfl,hq⟩:=h
   obtain⟨h0,h1,hk⟩:=hq
   have kj:k<l.length:=by omega
   have ke:l[k]?=some l[k]:=List.getElem?_eq_getElem kj
   obtain⟨⟨ag,szT,tv,h⟩⟩:=hk l[k] (by rw[Int.toNat_natCast];exact ke)
   cases ag with
   |true =>
    obtain⟨hc,h2⟩:=cond_false h
    simp only[Bool.and_eq_true,Nat.beq_eq]at hc
    obtain⟨rfl,hs⟩:=hc
    exact⟨_,NF hx hb ke hs,h2⟩
   |false =>
    obtain⟨av,hl,h⟩:=L2 h
    exact⟨_,Uw (szT:=szT) hx hb ke hl,h⟩
  ·exact h.elim
 ·exact h.elim
theorem ZQ{S f off sz:Nat}[tf:J6 P S f off sz](hz:Nat.blt 0 sz=true)(h:QQ hp off (ev x) F):∃av,I2 P E nx hp ev (.fieldAddr S x f) ty av∧F av:=by
 unfold QQ at h
 split at h
 ·rename_i hx;exact⟨_,KW (off:=off) (sz:=sz) hx hz,h⟩
 ·rename_i hx;exact⟨_,IR (off:=off) (sz:=sz) hx hz,h⟩
 ·rename_i hx
  split at h
  ·rename_i hb
   obtain⟨rfl,h⟩:=h
   exact⟨_,Si (off:=off) (sz:=sz) hx hb hz,h⟩
  ·exact h.elim
 ·exact h.elim
theorem ZR(h:Ij P T hp (ev x) (ev y) F):∃av,I2 P E nx hp ev (.indexAddr T x y) ty av∧F av:=by
 unfold Ij at h
 split at h
 ·rename_i hx hy
  obtain⟨⟨e,kw,ts,h⟩⟩:=h
  obtain⟨hz,hq⟩:=cond_false h
  clear h
  have:=Nat.eq_of_beq_eq_true hz
  subst this
  obtain⟨h0,h1,hk⟩:=hq
  rename_i sz l kk i
  have kj:i.toNat<l.length:=by omega
  have ke:l[i.toNat]?=some l[i.toNat]:=List.getElem?_eq_getElem kj
  exact⟨_,Lq (e:=e) hx hy h0 ke,hk _ ke⟩
 ·rename_i hx hy
  split at h
  ·rename_i hb
   obtain⟨rfl,h⟩:=h
   obtain⟨⟨e,kw,ts,h⟩⟩:=h
   obtain⟨hz,hq⟩:=cond_false h
   clear h
   have:=Nat.eq_of_beq_eq_true hz
   subst this
   exact⟨_,Sj (e:=e) hx hb hy hq.h.1 hq.h.2,hq.k⟩
  ·exact h.elim
 ·rename_i hx hy
  obtain⟨⟨len,e,sz,ta,h⟩⟩:=h
  exact⟨_,Sk (e:=e) (sz:=sz) hx hy h.h.1 h.h.2,h.k⟩
 ·rename_i l kk i hx hy
  obtain⟨⟨len,e,sz,ta,h⟩⟩:=h
  obtain⟨hz,hq⟩:=cond_false h
  rw[Bool.and_eq_true]at hz
  have h1:=Nat.eq_of_beq_eq_true hz.1
  have h2:=Nat.eq_of_beq_eq_true hz.2
  subst h1
  obtain⟨h0,h1,hk⟩:=hq
  have kj:i.toNat<l.length:=by omega
  have ke:l[i.toNat]?=some l[i.toNat]:=List.getElem?_eq_getElem kj
  exact⟨_,Py (e:=e) hx hy h2 h0 ke,hk _ ke⟩
 ·exact h.elim
theorem gA(h:ZO hp (ev x) F):∃av,I2 P E nx hp ev (.nilCheck x) ty av∧F av:=by
 unfold ZO at h
 split at h
 ·rename_i hx;exact⟨_,Wm hx,h⟩
 ·rename_i hx;exact⟨_,Ux hx,h⟩
 ·rename_i hx
  split at h
  ·rename_i hb
   obtain⟨rfl,h⟩:=h
   exact⟨_,Wn hx hb,h⟩
  ·exact h.elim
 ·exact h.elim
theorem gB(h:HY P T hp (ev x) F):∃av,I2 P E nx hp ev (.call ⟨.builtin .len,#[x],#[T]⟩) ty av∧F av:=by
 unfold HY at h
 split at h
 ·rename_i hx
  obtain⟨⟨e,sz,ts,h⟩⟩:=h
  exact⟨_,Px (e:=e) (sz:=sz) hx,h.k⟩
 ·rename_i hx
  obtain⟨ts,h⟩:=h
  exact⟨_,OE hx,h⟩
 ·rename_i hx
  split at h
  ·rename_i hb
   obtain⟨rfl,h⟩:=h
   obtain⟨⟨e,sz,ts,h⟩⟩:=h
   exact⟨_,Wl (e:=e) (sz:=sz) hx hb,h⟩
  ·exact h.elim
 ·rename_i hx
  obtain⟨⟨e,sz,ts,h⟩⟩:=h
  exact⟨_,OG (e:=e) (sz:=sz) hx,h⟩
 ·exact h.elim
theorem ZS{lo hi:Option Operand}(h:ML P T ev (ev x) lo hi F):∃av,I2 P E nx hp ev (.slice T x lo hi none) ty av∧F av:=by
 unfold ML at h
 split at h
 ·rename_i hx
  obtain⟨ts,h⟩:=h
  split at h
  ·rename_i hl hh;exact⟨_,Kd hx hl hh h.h.1 h.h.2.1 h.h.2.2,h.k⟩
  ·exact h.elim
 ·rename_i hx
  obtain⟨⟨e,kw,ts,h⟩⟩:=h
  obtain⟨hz,hq⟩:=cond_false h
  clear h
  have:=Nat.eq_of_beq_eq_true hz
  subst this
  split at hq
  ·rename_i hl hh;exact⟨_,VC (e:=e) hx hl hh hq.h.1 hq.h.2.1 hq.h.2.2,hq.k⟩
  ·exact hq.elim
 ·exact h.elim
theorem Wy{ok:Bool}(h:NP P T hp ok (ev x) (ev y) F):∃av,I2 P E nx hp ev (.lookup T x y ok) ty av∧F av:=by
 unfold NP at h
 split at h
 ·rename_i hx hy
  split at h
  ·rename_i hb hk
   obtain⟨⟨k,e,t,z,tm,h⟩⟩:=h
   obtain⟨wl,hq⟩:=cond_false h
   cases ok with
   |true=>exact⟨_,Sn (T:=T) hx hb hy hk wl hq.h,hq.k.h⟩
   |false=>exact⟨_,ZI (T:=T) hx hb hy hk wl hq.h,hq.k.h⟩
  ·exact h.elim
 ·exact h.elim
theorem cP{op:Op}(h:GA P op ev hp F):∃av,I2 P E nx hp ev op ty av∧F av:=by
 unfold GA at h
 split at h
 ·obtain⟨a,hx,h⟩:=L2 h;exact⟨a,Wh hx,h⟩
 ·obtain⟨a,hx,h⟩:=L2 h;exact⟨a,Ps hx,h⟩
 ·split at h
  ·rename_i t hc
   obtain⟨h1,h2⟩:=h
   cases t with
   |true=>obtain⟨a,hx,h⟩:=L2 (h1 rfl);exact⟨a,Yy hc hx,h⟩
   |false=>obtain⟨a,hx,h⟩:=L2 (h2 rfl);exact⟨a,Yz hc hx,h⟩
  ·exact h.elim
 ·rename_i y _
  cases hn:MJ y with
  |true=>rw[hn]at h;exact ZP hn h
  |false=>rw[hn]at h;exact fy h
 ·split at h
  ·rename_i hx;exact⟨_,cL hx,h⟩
  ·exact h.elim
 ·split at h
  ·rename_i a hx
   have h1:=h.h
   refine⟨_,cM hx,?_⟩
   rw[W5 (by omega)]
   exact h.k
  ·rename_i a hx;exact⟨_,cM hx,h⟩
  ·exact h.elim
 ·split at h
  ·rename_i hx;exact⟨_,cz hx h.h,h.k⟩
  ·exact h.elim
 ·exact dM h
 ·obtain⟨⟨off,sz,tf,h⟩⟩:=h
  obtain⟨hz,h⟩:=cond_false h
  exact ZQ (off:=off) (sz:=sz) hz h
 ·exact ZR h
 ·split at h
  ·rename_i s k i hx hy
   obtain⟨ts,h0,h1,hk⟩:=h
   have kj:i.toNat<s.length:=by omega
   have ke:s[i.toNat]?=some s[i.toNat]:=List.getElem?_eq_getElem kj
   exact⟨_,KX hx hy h0 ke,hk _ ke⟩
  ·exact h.elim
 ·exact gA h
 ·obtain⟨a,hx,h⟩:=L2 h
  obtain⟨⟨r,hr,h⟩⟩:=h
  cases hr with
  |bytes l hl=>rename_i e sz _ _ _;exact⟨_,KZ (e:=e) (sz:=sz) hx hl,h⟩
  |back l=>rename_i e sz _ _ _;exact⟨_,Ka (e:=e) (sz:=sz) hx,h⟩
  |int m=>exact⟨_,Lr hx,h⟩
  |rune m=>exact⟨_,Kb hx,h⟩
 ·exact gB h
 ·split at h
  ·rename_i hx hy
   obtain⟨hk,h2⟩:=cond_false h
   have:=of_decide_eq_true hk
   subst this
   exact⟨_,jF hx hy,h2⟩
  ·exact h.elim
 ·split at h
  ·rename_i hx hy
   obtain⟨hk,h2⟩:=cond_false h
   have:=of_decide_eq_true hk
   subst this
   exact⟨_,cN hx hy,h2⟩
  ·exact h.elim
 ·split at h
  ·rename_i l hl
   unfold Pd at h
   cases hc:M3 l with
   |true =>
    rw[hc]at h
    obtain⟨⟨r,hr,h⟩⟩:=h
    rw[List.append_nil]at hr
    exact⟨_,NG hr hl hc,h⟩
   |false =>
    rw[hc]at h
    obtain⟨⟨is,L,r,hL,ku,hr,mU,h⟩⟩:=h
    exact⟨_,Wu is hr hl hL ku mU fun _ _ _ _=>⟨[],rfl,rfl,fun j x c hx=>by simp at hx⟩,h⟩
  ·exact h.elim
 ·split at h
  ·rename_i f caps l hg hl
   unfold Pd at h
   cases hc:M3 l with
   |true =>
    rw[hc]at h
    obtain⟨⟨r,hr,h⟩⟩:=h
    exact⟨_,ZB hg hr hl hc,h⟩
   |false =>
    rw[hc]at h
    obtain⟨⟨is,L,r,hL,ku,hr,mU,h⟩⟩:=h
    refine⟨_,Wu is hr hl hL ku mU fun θ a w h=>?_,h⟩
    have:=(h.rel hg)
    generalize a.eval _=v at this
    cases this with
    |im hi=>cases hi with|fn f l cs hl hc=>exact⟨cs,rfl,hl,hc⟩
  ·exact h.elim
 ·split at h
  ·rename_i ps pu
   obtain⟨⟨zs,pl,tz,tp,h⟩⟩:=h
   obtain⟨hf,h⟩:=AG h
   obtain⟨a,ha,h⟩:=L2 h
   rw[Option.map_eq_some_iff]at ha
   obtain⟨l,hl,rfl⟩:=ha
   exact⟨_,Tk (T:=_) pu hf hl,h⟩
  ·exact h.elim
 ·split at h
  ·rename_i ps pu
   obtain⟨⟨e,sz,bs,z,ts,tz,tb,hz,h⟩⟩:=h
   obtain⟨hc,h⟩:=cond_false h
   simp only[Bool.and_eq_true,Nat.beq_eq,Nat.blt_eq]at hc
   obtain⟨hs,h⟩:=h
   obtain⟨hf,h⟩:=AG h
   obtain⟨hi,h⟩:=Ep h
   exact⟨_,IY (e:=e) (z:=z) pu hf hc.1.1.1 hc.1.1.2 hc.1.2 hz hs hc.2 hi,h⟩
  ·exact h.elim
 ·exact Wy h
 ·exact ZS h
 ·split at h
  ·rename_i hx
   obtain⟨a,ha,h⟩:=L2 h
   exact⟨a,OK hx ha,h⟩
  ·exact h.elim
 ·split at h
  ·rename_i caps hc
   obtain⟨ku,h⟩:=cond_false h
   exact⟨_,VB hc ku,h⟩
  ·exact h.elim
 ·exact h.elim
end sound
def Rd(a:AV):Prop:=∃U w v,Im U w a v
theorem Rd.sl{sz:Nat}{l:List (List AV)}(h:Rd (.sl sz l)):l.length≤9223372036854775807:=by
 obtain⟨U,w,v,h⟩:=h
 cases h with
 |slnil=>simp
 |sl sz l a cap f lT hm hu hsz hc h=>unfold maxLen at hm;omega
theorem Rd.agg{l:List AV}(h:Rd (.agg l)):∀x∈l,Rd x:=by
 obtain⟨U,w,v,h⟩:=h
 cases h with
 |agg l cs hl h =>
  intro x hx
  obtain⟨j,hj,rfl⟩:=List.getElem_of_mem hx
  have h2:j<cs.length:=by omega
  exact⟨U,w,_,h j _ _ (List.getElem?_eq_getElem hj) (List.getElem?_eq_getElem h2)⟩
theorem Rd.elem{sz:Nat}{l:List (List AV)}(h:Rd (.sl sz l)):∀e∈l,∀x∈e,Rd x:=by
 obtain⟨U,w,v,h⟩:=h
 cases h with
 |slnil=>intro e he;cases he
 |sl sz l a cap f lT hm hu hsz hc h =>
  intro e he x hx
  obtain⟨i,hi,rfl⟩:=List.getElem_of_mem he
  obtain⟨j,hj,rfl⟩:=List.getElem_of_mem hx
  exact⟨U,w,_,h i _ (List.getElem?_eq_getElem hi) j _ (List.getElem?_eq_getElem hj)⟩
def EK:List AV→Nat→List (Nat×AV)
 |[],_=>[]
 |a::r,k=>(k,a)::EK r (k+1)
theorem HZ:∀(l:List AV) (k s:Nat) (x:AV),look (EK l k) s=some x→k≤s∧l[s-k]?=some x
 |[],_,_,_,h=>by cases h
 |a::r,k,s,x,h=>by
  simp only[EK,I1]at h
  by_cases e:k=s
  ·subst e;simp at h;subst h;simp
  ·rw[if_neg e]at h
   obtain⟨h1,h2⟩:=HZ r (k+1) s x h
   refine⟨by omega,?_⟩
   have:s-k=(s-(k+1))+1:=by omega
   rw[this]
   simpa using h2
def Z7(tmps:Array Value):ResultVar→Sem Value
 |.tmp t=>pure (tmps.getD t undef)
 |.cell a t=>do loadVar t (←asAddr (tmps.getD a undef))
theorem LC{P:Program}{w:World}{tmps:Array Value}:∀{rvs:List ResultVar} {vs:List Value},rvs.length=vs.length→(∀(j:Nat) rv v,rvs[j]?=some rv→vs[j]?=some v→(Z7 tmps rv).run P w=.ok v w)→(rvs.mapM (Z7 tmps)).run P w=.ok vs w
 |[],[],_,_=>by simp[Sem.run_pure]
 |rv::r,v::s,hl,h=>by
  have h1:=h 0 rv v rfl rfl
  have h2:=LC (rvs:=r) (vs:=s) (by simpa using hl) (fun j rv v hj hv=>h (j+1) rv v (by simpa using hj) (by simpa using hv))
  simp[List.mapM_cons,Sem.run_bind,h1,h2]
 |[],_::_,hl,_=>by simp at hl
 |_::_,[],hl,_=>by simp at hl
theorem Kf{P:Program}{w:World}{fn:Func}{tmps:Array Value}{rvs:List ResultVar}{vs:List Value}(h:fn.results=rvs.toArray)(hne:rvs.length≠1)(hl:rvs.length=vs.length)(hv:∀(j:Nat) rv v,rvs[j]?=some rv→vs[j]?=some v→(Z7 tmps rv).run P w=.ok v w):
  (results fn tmps).run P w=.ok (.tuple vs.toArray) w:=by
 have hm:=LC (P:=P) (w:=w) (tmps:=tmps) hl hv
 have e:results fn tmps=(do let vs ←fn.results.mapM (Z7 tmps);pure (if h:vs.size=1 then vs[0]else .tuple vs)):=by
  unfold results
  congr
 rw[e,h,List.mapM_toArray]
 simp only[Sem.run_bind,map_eq_pure_bind,hm,Sem.run_pure,Result.andThen_ok]
 rw[dif_neg (by simp;omega)]
theorem QR{P:Program}{w:World}{fn:Func}{tmps:Array Value}{rv:ResultVar}{v:Value}(h:fn.results=[rv].toArray)(hv:(Z7 tmps rv).run P w=.ok v w):
  (results fn tmps).run P w=.ok v w:=by
 have hm:=LC (P:=P) (w:=w) (tmps:=tmps) (rvs:=[rv]) (vs:=[v]) rfl (fun j rv' v' hj mN=>by
  cases j with
  |zero=>simp at hj mN;subst hj mN;exact hv
  |succ j=>simp at hj)
 have e:results fn tmps=(do let vs ←fn.results.mapM (Z7 tmps);pure (if h:vs.size=1 then vs[0]else .tuple vs)):=by
  unfold results
  congr
 rw[e,h,List.mapM_toArray]
 simp only[Sem.run_bind,map_eq_pure_bind,hm,Sem.run_pure,Result.andThen_ok]
 rfl
inductive NL:AV→AV→Prop
 |refl (a:AV):NL a a
 |any (a:AV):NL a .any
 |nil (sz:Nat):NL (.v (.slice none 0 0)) (.sl sz [])
 |agg (l m:List AV) (h:l.length=m.length) (hh:∀(j:Nat) x y,l[j]?=some x→m[j]?=some y→NL x y):NL (.agg l) (.agg m)
 |tup (l m:List AV) (h:l.length=m.length) (hh:∀(j:Nat) x y,l[j]?=some x→m[j]?=some y→NL x y):NL (.tup l) (.tup m)
 |sl (sz:Nat) (l m:List (List AV)) (h:l.length=m.length) (hl:∀(i:Nat) e e',l[i]?=some e→m[i]?=some e'→e.length=e'.length) (hh:∀(i:Nat) e e',l[i]?=some e→m[i]?=some e'→∀(j:Nat) x y,e[j]?=some x→e'[j]?=some y→NL x y):NL (.sl sz l) (.sl sz m)
theorem R9{α β:Type}{l:List α}{m:List β}(h:l.length=m.length){j:Nat}{y:β}(hy:m[j]?=some y):∃x,l[j]?=some x:=by
 have:=(List.getElem?_eq_some_iff.1 hy).1
 exact⟨_,List.getElem?_eq_getElem (by omega)⟩
theorem NL.im{U:Nat→Prop}{w:World}{a b:AV}(h:NL a b):∀{v:Value},Im U w a v→Im U w b v:=by
 induction h with
 |refl a=>intro v h;exact h
 |any a=>intro v h;exact .any v
 |nil sz=>intro v h;cases h;exact .slnil sz
 |agg l m hl hh ih =>
  intro v h
  cases h with
  |agg l cs hc h =>
   refine .agg m cs (by omega) fun j y c hy nH=>?_
   obtain⟨x,hx⟩:=R9 hl hy
   exact ih j x y hx hy (h j x c hx nH)
 |tup l m hl hh ih =>
  intro v h
  cases h with
  |tup l cs hc h =>
   refine .tup m cs (by omega) fun j y c hy nH=>?_
   obtain⟨x,hx⟩:=R9 hl hy
   exact ih j x y hx hy (h j x c hx nH)
 |sl sz l m hl kf hh ih =>
  intro v h
  cases h with
  |slnil =>
   have:m=[]:=List.eq_nil_of_length_eq_zero (by rw[←hl];rfl)
   subst this
   exact .slnil sz
  |sl sz l a cap f lT hm hu hsz hc h =>
   rw[hl]
   refine .sl sz m a cap f (by omega) hm (fun hne=>hu (fun e=>hne (List.eq_nil_of_length_eq_zero (by rw[←hl,e];rfl)))) (fun e he=>?_) (fun i hi=>hc i (by omega)) (fun i e' pY j y hy=>?_)
   ·obtain⟨i,hi,rfl⟩:=List.getElem_of_mem he
    obtain⟨x,hx⟩:=R9 hl (List.getElem?_eq_getElem hi)
    rw[←kf i x _ hx (List.getElem?_eq_getElem hi)]
    exact hsz x (List.mem_of_getElem? hx)
   ·obtain⟨e,he⟩:=R9 hl pY
    obtain⟨x,hx⟩:=R9 (kf i e e' he pY) hy
    exact ih i e e' he pY j x y hx hy (h i e he j x hx)
theorem MM{c:Cx}{a b:AV}(h:NL a b):∀{v:Value},G2 c a v→G2 c b v:=by
 induction h with
 |refl a=>intro v h;exact h
 |any a=>intro v h;exact .any v
 |nil sz=>intro v h;rw[h.val];exact .im (.slnil sz)
 |agg l m hl hh ih =>
  intro v h
  obtain⟨cs,rfl,hc,hr⟩:=FG h
  refine .agg m cs (by omega) fun j y z hy hz=>?_
  obtain⟨x,hx⟩:=R9 hl hy
  exact ih j x y hx hy (hr j x z hx hz)
 |tup l m hl hh ih =>
  intro v h
  have:∃cs:List Value,v=.tuple cs.toArray∧l.length=cs.length∧∀(j:Nat) u z,l[j]?=some u→cs[j]?=some z→G2 c u z:=by
   cases h with
   |im hi=>cases hi with|tup l cs hl hc=>exact⟨cs,rfl,hl,fun j u z hu hz=>.im (hc j u z hu hz)⟩
   |tup l cs hl hc=>exact⟨cs,rfl,hl,hc⟩
  obtain⟨cs,rfl,hc,hr⟩:=this
  refine .tup m cs (by omega) fun j y z hy hz=>?_
  obtain⟨x,hx⟩:=R9 hl hy
  exact ih j x y hx hy (hr j x z hx hz)
 |sl sz l m hl kf hh ih =>
  intro v h
  cases h with
  |im hi=>exact .im ((NL.sl sz l m hl kf hh).im hi)
def VK(P:Program)(σ:St):ResultVar→AV→Prop
 |.tmp t,a=>∃a',(look σ.sl t).map (L8 σ.hp [])=some a'∧NL a' a
 |.cell t T,a=>∃i τ l sz,look σ.sl t=some (.ref i 0)∧A7 σ.hp i=some (.bx τ l)∧K1 P T true sz∧l.length=sz∧NL (.agg (Cp σ.hp [] l)) a
def Ha(P:Program)(σ:St):List ResultVar→List AV→Prop
 |[],[]=>True
 |v::r,a::s=>VK P σ v a∧Ha P σ r s
 |_,_=>False
theorem Ha.get{P:Program}{σ:St}:∀{rvs:List ResultVar} {as:List AV},Ha P σ rvs as→rvs.length=as.length∧∀(j:Nat) rv a,rvs[j]?=some rv→as[j]?=some a→VK P σ rv a
 |[],[],_=>⟨rfl,fun j rv a h=>by simp at h⟩
 |v::r,a::s,h=>by
  obtain⟨h1,h2⟩:=Ha.get h.2
  refine⟨by simp[h1],fun j rv b hj hb=>?_⟩
  cases j with
  |zero=>simp at hj hb;subst hj hb;exact h.1
  |succ j=>exact h2 j rv b (by simpa using hj) (by simpa using hb)
 |[],_::_,h=>h.elim
 |_::_,[],h=>h.elim
def gC(P:Program)(rs:Array ResultVar)(r:AV)(σ:St):Prop :=
 (∃rvs as,rs=rvs.toArray∧rvs.length≠1∧Ha P σ rvs as∧r=.tup as) ∨
 (∃t,rs=#[.tmp t]∧(look σ.sl t).map (L8 σ.hp [])=some r) ∨
 (∃t sz,rs=#[.tmp t]∧look σ.sl t=some (.v (.slice none 0 0))∧r=.sl sz []) ∨
 (∃t u a b,rs=#[.tmp t,.tmp u]∧(look σ.sl t).map (L8 σ.hp [])=some a∧(look σ.sl u).map (L8 σ.hp [])=some b∧r=.tup [a,b]) ∨
 (∃t T i τ l,rs=#[.cell t T]∧look σ.sl t=some (.ref i 0)∧A7 σ.hp i=some (.bx τ l)∧r=.agg (Cp σ.hp [] l))
def E7(P:Program)(rs:Array ResultVar)(r:AV):Exit→St→Prop
 |.ret,σ=>gC P rs r σ
 |.normal,σ=>gC P rs r σ
 |_,_=>False
theorem A3{P:Program}{t:Nat}{r r':AV}{σ:St}(h:(look σ.sl t).map (L8 σ.hp [])=some r')(e:r'=r):E7 P #[.tmp t] r .ret σ:=.inr (.inl ⟨t,rfl,e▸h⟩)
theorem K0{P:Program}{rs:List ResultVar}{vs:List AV}{r:AV}{σ:St}(hn:(Nat.beq rs.length 1)=false)(h:Ha P σ rs vs)(e:.tup vs=r):E7 P rs.toArray r .ret σ:=.inl ⟨rs,vs,rfl,(fun h=>by rw[h]at hn;cases hn),h,e.symm⟩
theorem H0{P:Program}{t T i sz τ:Nat}{l:List AV}{a:AV}{σ:St}[tv:K1 P T true sz](h:look σ.sl t=some (.ref i 0))(hb:A7 σ.hp i=some (.bx τ l))(hl:l.length=sz)(e:NL (.agg (Cp σ.hp [] l)) a):VK P σ (.cell t T) a:=⟨i,τ,l,sz,h,hb,tv,hl,e⟩
theorem Gj{P:Program}{t T i u sz τ:Nat}{l:List AV}{a b b' r:AV}{σ:St}[tv:K1 P T true sz](h:look σ.sl t=some (.ref i 0))(hb:A7 σ.hp i=some (.bx τ l))(hl:Nat.beq l.length sz=true)(na:NL (.agg (Cp σ.hp [] l)) a)(h2:(look σ.sl u).map (L8 σ.hp [])=some b')(nb:NL b' b)(e:.tup [a,b]=r):E7 P #[.cell t T,.tmp u] r .ret σ :=
 K0 (rs:=[.cell t T,.tmp u]) (vs:=[a,b]) rfl ⟨⟨i,τ,l,sz,h,hb,tv,Nat.eq_of_beq_eq_true hl,na⟩,⟨b',h2,nb⟩,trivial⟩ e
theorem O3{P:Program}{t u:Nat}{a b r:AV}{σ:St}(h:(look σ.sl t).map (L8 σ.hp [])=some a)(h2:(look σ.sl u).map (L8 σ.hp [])=some b)(e:.tup [a,b]=r):E7 P #[.tmp t,.tmp u] r .ret σ:=.inr (.inr (.inr (.inl ⟨t,u,a,b,rfl,h,h2,e.symm⟩)))
section rules
variable {P:Program} {E:Env} {n:Nat} {ops:Array Oper} {rest:List Oper} {σ:St} {K:St→Prop} {Q:Exit→St→Prop}
variable {d:Nat} {ty:TypeId} {pos:String} {after:Array Edge} {x y:Operand}
theorem Wz{fn:Func}{r:AV}{X:Nat→Prop}{w w':World}{mL:w7 (fun k=>X k∨(fun _=>False) k) w}{rf:Bool}{θ:Th}{σ':St}{a:Act}(hs:U3 ⟨w,X,fun _=>False,fun _=>undef,0,mL,rf⟩ n θ σ' a w')(tP:a.defers=[])(ku:T9 r)
  (mV:∀t T,fn.results=#[.cell t T]→∃sz,K1 P T true sz∧∀l,r=.agg l→l.length=sz) (rL:gC P fn.results r σ'):bodyPost P fn (fun e rC=>∃v,e=.returned v∧Im X rC r v∧Below w.heap.size w rC) .ret a w':=by
 have pP:Below w.heap.size w w':=⟨hs.fr.os,hs.fr.tape,hs.fr.output,hs.fr.size,fun k hk=>hs.fr.block k hk (fun h=>h)⟩
 have pL:=hs.cv (σ':=⟨BU (L8 σ'.hp []) σ'.sl,σ'.nx,[]⟩) (Nat.zero_le _) (fun s x' hx=>by
  rw[DE,Option.map_eq_some_iff]at hx
  obtain⟨x,h1,h2⟩:=hx
  exact⟨x,h1,h2,.inl (Nat.le_refl _)⟩) (fun i b' hi=>by cases hi) (fun i e sz v l hi=>by cases hi)
 have sT:∀{a:AV} {v:Value},T9 a→G2 (cx ⟨w,X,fun _=>False,fun _=>undef,0,mL,rf⟩ θ ⟨BU (L8 σ'.hp []) σ'.sl,σ'.nx,[]⟩ w') a v→Im X w' a v:=fun hc hi=>(hc.im hi).mono (fun _ _ _=>rfl) fun k _ hu=>.inl hu
 have slot:∀{t:Nat} {r:AV},(look σ'.sl t).map (L8 σ'.hp [])=some r→look (BU (L8 σ'.hp []) σ'.sl) t=some r:=fun h=>by rw[DE];exact h
 rcases rL with ⟨rvs,as,h1,nr,pw,rfl⟩|⟨t,h1,h2⟩|⟨t,sz,h1,h2,rfl⟩|⟨t,u,a1,b1,h1,h2,h3,rfl⟩|⟨t,T,i,τ,l,h1,h2,h3,rfl⟩
 ·obtain⟨kf,mv⟩:=Ha.get pw
  have vC:∀a∈as,T9 a:=by cases ku with|tup hk=>exact hk
  have one:∀(rv:ResultVar) (b:AV),T9 b→VK P σ' rv b→∃v,(Z7 a.tmps rv).run P w'=.ok v w'∧Im X w' b v:=by
   intro rv b hb hv
   cases rv with
   |tmp t =>
    obtain⟨a',h1,h2⟩:=hv
    exact⟨_,by simp[Z7,Sem.run_pure],sT hb (MM h2 (pL.slots t a' (slot h1)))⟩
   |cell t T =>
    obtain⟨i,τ,l,sz,h2,h3,tv,pC,rN⟩:=hv
    obtain⟨b1,hθ,hv,_⟩:=X4 (hs.slots t _ h2)
    obtain⟨b',lL,T',lV,hh,hsz,hr⟩:=(hs.owns i _ h3).2
    have mO:θ i=.pointer (some ⟨b1,0,none⟩):=hθ
    have nE:θ i=.pointer (some ⟨b',0,none⟩):=lV
    rw[mO]at nE
    cases nE
    have rM:w'.heap[b1]?=some (.cells lL T' (0,0)):=hh
    have sub:(cx ⟨w,X,fun _=>False,fun _=>undef,0,mL,rf⟩ θ σ' w').sub (cx ⟨w,X,fun _=>False,fun _=>undef,0,mL,rf⟩ θ ⟨BU (L8 σ'.hp []) σ'.sl,σ'.nx,[]⟩ w'):=⟨rfl,rfl,fun _ h=>h,(fun i b' hi=>by cases hi),hs.apart,fun i b k hi hk=>(hs.mine i b k hi hk).1,fun i b hi=>(hs.owns i b hi).2⟩
    have nM:=V8 (P:=P) (T:=T) (sz:=sz) (w:=w') (a:=⟨b1,0,none⟩) (cs:=lL.toList) (by rw[Array.length_toList,hsz,pC]) (fun j v hj=>by rw[addr_add,P5 rM];simpa using hj)
    refine⟨.agg lL,by simp[Z7,hv,Sem.run_bind,Sem.run_pure,asAddr,nM],sT hb (MM rN (by
     have:=G2.agg (c:=cx ⟨w,X,fun _=>False,fun _=>undef,0,mL,rf⟩ θ ⟨BU (L8 σ'.hp []) σ'.sl,σ'.nx,[]⟩ w') (Cp σ'.hp [] l) lL.toList (by rw[T3];simp[hsz]) (fun j x y hx hy=>by
      rw[T3]at hx
      simp only[List.getElem?_map,Option.map_eq_some_iff]at hx
      obtain⟨u0,mW,rfl⟩:=hx
      exact IZ sub (hr j u0 y mW (by simpa using hy)) (.inl (Nat.le_refl _)))
     simpa using this))⟩
  have all:∀(m:Nat),m≤rvs.length→∃vs:List Value,vs.length=m∧∀(j:Nat) rv v,rvs[j]?=some rv→vs[j]?=some v→(Z7 a.tmps rv).run P w'=.ok v w'∧∀b,as[j]?=some b→Im X w' b v:=by
   intro m
   induction m with
   |zero=>intro _;exact⟨[],rfl,fun j rv v _ h=>by simp at h⟩
   |succ m ih =>
    intro hm
    obtain⟨vs,hl,oS⟩:=ih (by omega)
    have tF:rvs[m]?=some rvs[m]:=List.getElem?_eq_getElem (by omega)
    have wb:as[m]?=some (as[m]'(by omega)):=List.getElem?_eq_getElem (by omega)
    obtain⟨v,nY,oe⟩:=one rvs[m] (as[m]'(by omega)) (vC _ (List.getElem_mem _)) (mv m _ _ tF wb)
    refine⟨vs++[v],by simp[hl],fun j rv u hj hu=>?_⟩
    by_cases e:j<m
    ·rw[List.getElem?_append_left (by omega)]at hu
     exact oS j rv u hj hu
    ·rw[List.getElem?_append_right (by omega),hl]at hu
     have ej:j=m:=by
      have:=(List.getElem?_eq_some_iff.1 hu).1
      simp at this;omega
     subst ej
     simp at hu
     subst hu
     rw[tF]at hj
     cases hj
     exact⟨nY,fun b hb=>by rw[wb]at hb;cases hb;exact oe⟩
  obtain⟨vs,wP,oS⟩:=all rvs.length (Nat.le_refl _)
  refine⟨tP,_,Kf h1 nr wP.symm (fun j rv v hj hv=>(oS j rv v hj hv).1),_,rfl,.tup as vs (by omega) fun j b v hb hv=>?_,pP⟩
  obtain⟨rv,vf⟩:=R9 kf hb
  exact(oS j rv v vf hv).2 b hb
 ·exact⟨tP,_,results_tmp h1 _ _ _,_,rfl,sT ku (pL.slots t r (slot h2)),pP⟩
 ·exact⟨tP,_,results_tmp h1 _ _ _,_,rfl,by rw[(hs.slots t _ h2).val];exact .slnil sz,pP⟩
 ·refine⟨tP,_,results_tmp2 h1 _ _ _,_,rfl,?_,pP⟩
  refine sT ku (.tup [a1,b1] [_,_] rfl fun j x y hx hy=>?_)
  match j,hx,hy with
  |0,hx,hy=>cases hx;cases hy;exact pL.slots t _ (slot h2)
  |1,hx,hy=>cases hx;cases hy;exact pL.slots u _ (slot h3)
 ·obtain⟨b,hθ,hv,_⟩:=X4 (hs.slots t _ h2)
  obtain⟨b',lL,T',lV,hh,hsz,hr⟩:=(hs.owns i _ h3).2
  have mO:θ i=.pointer (some ⟨b,0,none⟩):=hθ
  have nE:θ i=.pointer (some ⟨b',0,none⟩):=lV
  rw[mO]at nE
  cases nE
  obtain⟨sz,tv,kf⟩:=mV t T h1
  have pC:=kf _ rfl
  rw[T3,List.length_map]at pC
  have rM:w'.heap[b]?=some (.cells lL T' (0,0)):=hh
  have sub:(cx ⟨w,X,fun _=>False,fun _=>undef,0,mL,rf⟩ θ σ' w').sub (cx ⟨w,X,fun _=>False,fun _=>undef,0,mL,rf⟩ θ ⟨BU (L8 σ'.hp []) σ'.sl,σ'.nx,[]⟩ w'):=⟨rfl,rfl,fun _ h=>h,(fun i b' hi=>by cases hi),hs.apart,fun i b k hi hk=>(hs.mine i b k hi hk).1,fun i b hi=>(hs.owns i b hi).2⟩
  refine⟨tP,.agg lL,?_,_,rfl,sT ku (by
   have:=G2.agg (c:=cx ⟨w,X,fun _=>False,fun _=>undef,0,mL,rf⟩ θ ⟨BU (L8 σ'.hp []) σ'.sl,σ'.nx,[]⟩ w') (Cp σ'.hp [] l) lL.toList (by rw[T3];simp[hsz]) (fun j x y hx hy=>by
    rw[T3]at hx
    simp only[List.getElem?_map,Option.map_eq_some_iff]at hx
    obtain⟨u0,mW,rfl⟩:=hx
    exact IZ sub (hr j u0 y mW (by simpa using hy)) (.inl (Nat.le_refl _)))
   simpa using this),pP⟩
  have nM:=V8 (P:=P) (T:=T) (sz:=sz) (w:=w') (a:=⟨b,0,none⟩) (cs:=lL.toList) (by rw[Array.length_toList,hsz,pC]) (fun j v hj=>by rw[addr_add,P5 rM];simpa using hj)
  rw[Array.getD_eq_getD_getElem?]at hv
  simp[results,h1,hv,Sem.run_bind,Sem.run_pure,asAddr,nM]
theorem Su {f : Nat} {fn : Func} {code : Code} {args : List AV} {r : AV} {rs : Array ResultVar} (hf : P.funcs[f]? = some fn) (mT : (fn.name == "runtime.NumGoroutine") = false) (hb : fn.body = some code) (hn : fn.ntmps = n) (qF : fn.results = rs)
  (lO:Nat.ble args.length n=true) (ku:O2 r=true) (mV:∀t T,rs=#[.cell t T]→∃sz,K1 P T true sz∧∀l,r=.agg l→l.length=sz)
  (h:(∀a∈args,Rd a)→∀E,E.n0=0→E8 P E n code ⟨EK args 0,0,[]⟩ (E7 P rs r)):A4 P f args r:=by
 subst hn qF
 have ku:=Ad ku
 refine⟨⟨fn,hf,mT,by rw[hb];rfl⟩,fun X w vs hX mQ hl oS=>?_⟩
 have mL:w7 (fun k=>X k∨(fun _=>False) k) w:=mQ.mono (fun k _ h=>h.elim id False.elim) fun _ _ _=>rfl
 have ki:∀a∈args,Rd a:=by
  intro a ha
  obtain⟨j,hj,rfl⟩:=List.getElem_of_mem ha
  have h2:j<vs.length:=by omega
  exact⟨X,w,_,oS j _ _ (List.getElem?_eq_getElem hj) (List.getElem?_eq_getElem h2)⟩
 refine calls_of_wp hf hb ?_
 have nA:args.length≤fn.ntmps:=Nat.ble_eq▸lO
 have start:BS ⟨w,X,fun _=>False,fun _=>undef,0,mL,false⟩ fn.ntmps ⟨EK args 0,0,[]⟩ { tmps:=vs.toArray++Array.replicate (fn.ntmps-vs.toArray.size) undef,defers:=[] } w:=by
  refine⟨⟨fun _=>undef,fun _ _=>none⟩,?_,.nil,⟨rfl,rfl,rfl,Nat.le_refl _,fun _ _ _=>rfl⟩,fun s x hs=>?_,fun i b hi=>?_,fun i j b b' k hi=>?_,fun i b k hi=>?_,hX,⟨Nat.le_refl _,fun i hi=>?_⟩⟩
  ·simp;omega
  ·obtain⟨_,hx⟩:=HZ args 0 s x hs
   rw[Nat.sub_zero]at hx
   have kj:s<vs.length:=by rw[←hl];exact(List.getElem?_eq_some_iff.1 hx).1
   have hv:vs[s]?=some vs[s]:=List.getElem?_eq_getElem kj
   have e:(vs.toArray++Array.replicate (fn.ntmps-vs.toArray.size) undef).getD s undef=vs[s]:=by
    rw[Array.getD_eq_getD_getElem?,Array.getElem?_append]
    simp[kj]
   rw[e]
   refine .im ((oS s x _ hx hv).mono (fun _ _ _=>rfl) fun k _ hu=>?_)
   rcases hu with hu|⟨i,b,hi,_⟩
   ·exact hu
   ·cases hi
  ·cases hi
  ·cases hi
  ·cases hi
  ·exact absurd hi (Nat.not_lt_zero _)
 refine wp_mono (h ki ⟨w,X,fun _=>False,fun _=>undef,0,mL,false⟩ rfl _ w start) ?_
 rintro e a w' ⟨σ',hq,θ,hs⟩
 have fin:=Wz (P:=P) (fn:=fn) (r:=r) hs (hs.defers.1 rfl) ku mV
 cases e with
 |normal=>exact fin hq
 |ret=>exact fin hq
 |exit id=>exact hq.elim
 |goto l=>exact hq.elim
 |panic c=>exact hq.elim
 |outgrown=>exact hq.elim
theorem A4.congr{f:Nat}{args:List AV}{r r':AV}(h:A4 P f args r)(e:r=r'):A4 P f args r':=e▸h
theorem Dp{l:List Oper}{σ':St}(h:St.le E n σ σ')(k:B5 P E n ops l σ' K):B5 P E n ops l σ K:=fun a w hs=>k a w (h a w hs)
theorem Dq{d e sz:Nat}(hd:look σ.sl d=some (.v (.slice none 0 0)))(he:Nat.blt e y6=true:=by rfl):St.le E n σ ((σ.new (.row e sz 0 [])).put d (.row σ.nx 0 0)):=by
 rintro a w ⟨θ,h⟩
 have h2:=h.grow (w':=w) (Below.refl _ _) (.slice none 0 0) (.row e sz 0 []) (fun k hk=>by cases hk) (fun le=>⟨[],⟨by simp,.inl ⟨by simp[cx,G8],rfl⟩⟩,(fun el ke=>by cases ke),(fun k el hk=>by simp at hk),.lt (Nat.blt_eq▸he)⟩) (n9 (Nat.blt_eq▸he))
 refine⟨_,h2.size,h2.defers,h2.fr,fun s x hs=>?_,h2.owns,h2.apart,h2.mine,h2.X,h2.base⟩
 simp only[St.put,I1]at hs
 by_cases ed:d=s
 ·subst ed
  rw[if_pos rfl]at hs
  cases hs
  have hv:=(h.slots d _ hd).val
  rw[hv]
  refine .row _ _ _ _ (by simp[cx,St.new,St.put]) fun e' kw v' l' hl=>?_
  simp only[cx,St.new,St.put,J3,if_pos]at hl
  cases hl
  exact⟨Nat.le_refl _,fun _=>⟨rfl,by simp[cx,G8]⟩⟩
 ·rw[if_neg ed]at hs
  exact h2.slots s x hs
structure n6(P:Program)(E:Env)(n:Nat)(ops:Array Oper)(o:Oper)(rest:List Oper)(l:List AV)(σ:St)(K:St→Prop):Prop where
 h:B5 P E n ops (o::rest) σ K
mutual
def ZT:AV→Option Nat
 |.ref i _|.row i _ _|.elt i _ _ _=>some i
 |.agg l|.tup l|.fo _ l=>ON l
 |_=>none
def ON:List AV→Option Nat
 |[]=>none
 |x::r=>match ZT x with
  |some i=>some i
  |none=>ON r
end
theorem s4{o:Oper}{l:List AV}(i:Nat)(h:B5 P E n ops (o::rest) (σ.frz i) K):n6 P E n ops o rest l σ K:=⟨Dp (Ib i) h⟩
def lits:List Nat:=[0,1,2,3,4,5,6,7,8,9,10,11,12,13,14,15,16,17,18,19,20,21,22,23,24,25,26,27,28,29,30,31,32,33,34,35,36,37,38,39,40,41,42,43,44,45,46,47,48,49,50,51,52,53,54,55,56,57,58,59,60,61,62,63]
def Ik:List Nat→Nat→Option Nat
 |[],_=>none
 |x::_,0=>some x
 |_::r,k+1=>Ik r k
theorem Tn:∀(l:List Nat) (m:Nat),Ik l m=l[m]?
 |[],m=>by simp[Ik]
 |x::r,0=>by simp[Ik]
 |x::r,k+1=>by simp[Ik,Tn r k]
theorem XA{m k:Nat}(h:Ik lits m=some k):k=m:=by
 by_cases hm:m<64
 ·have h2:∀j,j<64→Ik lits j=some j:=by decide
  rw[h2 m hm]at h
  exact(Option.some.inj h).symm
 ·rw[Tn,List.getElem?_eq_none (by simp[lits];omega)]at h
  cases h
def J5(m:Nat)(F:Nat→Prop):Prop :=
 match Ik lits m with
 |some k=>F k
 |none=>F m
theorem F8{m:Nat}{F:Nat→Prop}(h:J5 m F):F m:=by
 unfold J5 at h
 split at h
 ·rename_i hk;rw[XA hk]at h;exact h
 ·exact h
def QT(P:Program)(E:Env)(n:Nat)(ops:Array Oper)(o:Oper)(T:Nat)(x y:Option AV)(rest:List Oper)(σ:St)(K:St→Prop):Prop :=
 match x,y with
 |some (.ref i off),some av=>match A7 σ.hp i with
  |some (.bx τ l)=>Ic P T fun _ sz=>cond (Nat.beq (J8 av).length sz && Nat.ble (off+sz) l.length) (QM σ.hp av (VI σ.hp (J8 av) (B5 P E n ops rest (σ.set i (.bx τ (y4 l off (J8 av)))) K))) False
  |_=>False
 |some (.elt i ver k off),some av=>match A7 σ.hp i with
  |some (.row e sz lQ l)=>H8 (ver=lQ∧off<sz) (Ic P T fun ag szT=>cond (cond ag false (Nat.beq szT 1 && Cy e)) (cond (O2 av) (QL σ.hp av (S7 l (k:Int) fun el=>B5 P E n ops rest (σ.set i (.row e sz ver (l.set k (el.set off av)))) K)) (n6 P E n ops o rest [av] σ K)) False)
  |_=>False
 |_,_=>False
def cQ(P:Program)(E:Env)(n:Nat)(ops:Array Oper)(d T:Nat)(x y:Option AV)(rest:List Oper)(σ:St)(K:St→Prop):Prop :=
 match x,y with
 |some (.v (.int .i64 m)),some (.v (.int .i64 m'))=>FQ P T fun e sz bs z=>cond (Nat.blt e R7) (H8 (m=m'∧0≤m∧bs*m.toNat≤281474976710656∧m≤9223372036854775807) (J5 σ.nx fun nx=>B5 P E n ops rest ((σ.new (.row e sz 0 (List.replicate m.toNat z))).put d (.row nx 0 m.toNat)) K)) False
 |_,_=>False
def To(P:Program)(E:Env)(n:Nat)(ops:Array Oper)(d T:Nat)(x y:Option AV)(rest:List Oper)(σ:St)(K:St→Prop):Prop :=
 match x,y with
 |some (.row i ver len),some (.sl kw m)=>match A7 σ.hp i with
  |some (.row e sz lQ l)=>H8 (ver=lQ) (FQ P T fun e' ol bs _=>cond (Nat.beq e e' && Nat.beq sz ol && Nat.beq sz kw && Nat.blt 0 sz && Nat.blt e Q0) (H8 (∀el∈m,∀u∈el,o0 u) (H8 ((len+m.length)*bs≤140737488355328∧len+m.length≤9223372036854775807)
    (B5 P E n ops rest ((σ.set i (.row e sz (ver+1) (l++m))).put d (.row i (ver+1) (len+m.length))) K))) False)
  |_=>False
 |some (.row i ver len),some (.row j qQ tA)=>match A7 σ.hp i,A7 σ.hp j with
  |some (.row e sz lQ l),some (.row _ kw ver2' m)=>H8 (ver=lQ∧qQ=ver2') (FQ P T fun e' ol bs _=>cond (Nat.beq e e' && Nat.beq sz ol && Nat.beq sz kw && Nat.blt 0 sz && Nat.blt e Q0) (H8 (∀el∈m,∀u∈el,o0 u) (H8 ((len+m.length)*bs≤140737488355328∧len+m.length≤9223372036854775807)
    (B5 P E n ops rest ((σ.set i (.row e sz (ver+1) (l++m))).put d (.row i (ver+1) (len+m.length))) K))) False)
  |_,_=>False
 |some (.v (.slice none 0 0)),some (.sl kw m)=>FQ P T fun e sz bs _=>cond (Nat.beq sz kw && Nat.blt 0 sz && Nat.blt e Q0) (H8 (∀el∈m,∀u∈el,o0 u) (H8 ((0+m.length)*bs≤140737488355328∧0+m.length≤9223372036854775807)
   (J5 σ.nx fun nx=>B5 P E n ops rest (((σ.new (.row e sz 0 [])).set nx (.row e sz 1 ([]++m))).put d (.row nx 1 (0+m.length))) K))) False
 |_,_=>False
def Tp(P:Program)(E:Env)(n:Nat)(ops:Array Oper)(d T T2:Nat)(x:Option AV)(s:List UInt8)(rest:List Oper)(σ:St)(K:St→Prop):Prop :=
 match x with
 |some (.row i ver len)=>match A7 σ.hp i with
  |some (.row e sz lQ l)=>H8 (ver=lQ) (FQ P T fun e' ol bs _=>EJ P T2 (cond (Nat.beq e e' && Nat.beq sz 1 && Nat.beq ol 1 && Nat.beq bs 1 && Nat.blt e Q0) (cO P e (H8 (len+s.length≤140737488355328) (B5 P E n ops rest ((σ.set i (.row e 1 (ver+1) (l++Q9 s))).put d (.row i (ver+1) (len+s.length))) K))) False))
  |_=>False
 |some (.v (.slice none 0 0))=>FQ P T fun e sz bs _=>EJ P T2 (cond (Nat.beq sz 1 && Nat.beq bs 1 && Nat.blt e Q0) (cO P e (H8 (0+s.length≤140737488355328) (J5 σ.nx fun nx=>B5 P E n ops rest (((σ.new (.row e 1 0 [])).set nx (.row e 1 1 ([]++Q9 s))).put d (.row nx 1 (0+s.length))) K))) False)
 |_=>False
def XB(P:Program)(E:Env)(n:Nat)(ops:Array Oper)(T:Nat)(x y z:Option AV)(rest:List Oper)(σ:St)(K:St→Prop):Prop :=
 match x,y,z with
 |some (.mp i),some oW,some av=>match A7 σ.hp i,keyOf oW with
  |some (.map m),some k=>VF P T fun t _=>cond (Em t k && O2 av) (H8 (Co t m) (B5 P E n ops rest (σ.set i (.map (Dn m k av))) K)) False
  |_,_=>False
 |_,_,_=>False
def gD(P:Program)(E:Env)(n:Nat)(ops:Array Oper)(o:Oper)(rest:List Oper)(σ:St)(K:St→Prop):Prop :=
 match o.dst,o.op with
 |some d,.box T x=>cond (Nat.blt d n) (Y5 (H1 σ x) fun av=>QM σ.hp av (J5 σ.nx fun nx=>B5 P E n ops rest ((σ.new (.box (J8 av))).put d (.ref nx 0)) K)) False
 |some d,.alloc T=>cond (Nat.blt d n) (VD P T fun l=>J5 σ.nx fun nx=>B5 P E n ops rest ((σ.new (.box l)).put d (.ref nx 0)) K) False
 |none,.store T x y=>QT P E n ops ⟨o.dst,o.op,o.type,o.pos,o.after,none⟩ T (H1 σ x) (H1 σ y) rest σ K
 |some d,.makeSlice T x y=>cond (Nat.blt d n) (cQ P E n ops d T (H1 σ x) (H1 σ y) rest σ K) False
 |some d,.makeMap T none=>cond (Nat.blt d n) (J5 σ.nx fun nx=>B5 P E n ops rest ((σ.new (.map [])).put d (.mp nx)) K) False
 |none,.mapUpdate T x y z=>XB P E n ops T (H1 σ x) (H1 σ y) (H1 σ z) rest σ K
 |some d,.call ⟨.builtin .append,⟨[x,y]⟩,⟨[T,T']⟩⟩=>match H1 σ y with
  |some (.str s)=>cond (Nat.blt d n) (Tp P E n ops d T T' (H1 σ x) s rest σ K) False
  |_=>cond (Nat.blt d n && Nat.beq T T') (To P E n ops d T (H1 σ x) (H1 σ y) rest σ K) False
 |some d,.call ⟨.builtin .unsafeSliceData,⟨[x]⟩,ts⟩=>n6 P E n ops ⟨o.dst,o.op,o.type,o.pos,o.after,none⟩ rest [] σ K
 |some d,.call ⟨.builtin .unsafeString,⟨[x,y]⟩,ts⟩=>n6 P E n ops ⟨o.dst,o.op,o.type,o.pos,o.after,none⟩ rest [] σ K
 |some d,.call ⟨.value (.func f),⟨args⟩,_⟩=>cond (Nat.blt d n) (match s9 (H1 σ) args with
  |some l=>cond (M3 l) (Pc P f (l++[]) fun av=>B5 P E n ops rest (σ.put d av) K) (n6 P E n ops ⟨o.dst,o.op,o.type,o.pos,o.after,none⟩ rest l σ K)
  |none=>False) False
 |some d,.call ⟨.value (.tmp t),⟨args⟩,ts⟩=>match H1 σ (.tmp t),s9 (H1 σ) args with
  |some (.fo _ caps),some l=>n6 P E n ops ⟨o.dst,o.op,o.type,o.pos,o.after,none⟩ rest (l++caps) σ K
  |_,_=>cond (Nat.blt d n) (GA P (.call ⟨.value (.tmp t),⟨args⟩,ts⟩) (H1 σ) σ.hp fun av=>B5 P E n ops rest (σ.put d av) K) False
 |some d,.buildSlice T len ⟨parts⟩=>match CM (H1 σ) parts with
  |some ps=>cond (ps.all fun p=>O2 p.2) (cond (Nat.blt d n) (GA P (.buildSlice T len ⟨parts⟩) (H1 σ) σ.hp fun av=>B5 P E n ops rest (σ.put d av) K) False) (n6 P E n ops ⟨o.dst,o.op,o.type,o.pos,o.after,none⟩ rest (ps.map (·.2)) σ K)
  |none=>False
 |some d,.slice T x lo hi none=>match H1 σ x with
  |some (.row i v len)=>n6 P E n ops ⟨o.dst,o.op,o.type,o.pos,o.after,none⟩ rest [.row i v len] σ K
  |_=>cond (Nat.blt d n) (GA P (.slice T x lo hi none) (H1 σ) σ.hp fun av=>B5 P E n ops rest (σ.put d av) K) False
 |some d,.makeFunc f ⟨x::xs⟩ ⟨[]⟩=>n6 P E n ops ⟨o.dst,o.op,o.type,o.pos,o.after,none⟩ rest [] σ K
 |some d,.makeFunc f ⟨[]⟩ ⟨xs⟩=>cond (Nat.blt d n) (match s9 (H1 σ) xs with
  |some l=>cond (M3 l) (GA P (.makeFunc f ⟨[]⟩ ⟨xs⟩) (H1 σ) σ.hp fun av=>B5 P E n ops rest (σ.put d av) K) (n6 P E n ops ⟨o.dst,o.op,o.type,o.pos,o.after,none⟩ rest l σ K)
  |none=>False) False
 |some d,op=>cond (Nat.blt d n) (GA P op (H1 σ) σ.hp fun av=>B5 P E n ops rest (σ.put d av) K) False
 |_,_=>False
theorem QU{T:Nat}(h:QT P E n ops ⟨none,.store T x y,ty,pos,after,none⟩ T (H1 σ x) (H1 σ y) rest σ K):B5 P E n ops (⟨none,.store T x y,ty,pos,after,none⟩::rest) σ K:=by
 unfold QT at h
 split at h
 ·rename_i hx hy
  split at h
  ·rename_i hb
   obtain⟨⟨ag,sz,tv,h⟩⟩:=h
   obtain⟨hs,h⟩:=cond_false h
   simp only[Bool.and_eq_true,Nat.beq_eq,Nat.ble_eq]at hs
   obtain⟨hf,h⟩:=Ii h
   obtain⟨ho,h⟩:=MH h
   exact NJ (ag:=ag) (sz:=sz) hx hy hb hf ho hs.1 hs.2 h
  ·exact h.elim
 ·rename_i hx hy
  split at h
  ·rename_i e sz lQ l hb
   obtain⟨⟨rfl,nF⟩,h⟩:=h
   obtain⟨⟨ag,szT,tv,h⟩⟩:=h
   obtain⟨hs,h3⟩:=cond_false h
   clear h
   cases ag with
   |true=>cases hs
   |false =>
    have h4:=h3
    clear h3
    cases ku:O2 _ with
    |false =>
     rw[ku]at h4
     exact h4.h
    |true =>
     rw[ku]at h4
     obtain⟨ho,h⟩:=Ih h4
     obtain⟨h0,h1,hk⟩:=h
     rename_i k _ _ _
     have kj:k<l.length:=by omega
     have ke:l[k]?=some l[k]:=List.getElem?_eq_getElem kj
     have oB:(Nat.beq szT 1 && Cy e)=true:=hs
     rw[Bool.and_eq_true]at oB
     exact NK (szT:=szT) hx hy hb ke nF (Nat.eq_of_beq_eq_true oB.1) ku ho (hk _ (by rw[Int.toNat_natCast];exact ke)) oB.2
  ·exact h.elim
 ·exact h.elim
theorem XC{o:Oper}(hg:o.guard=none)(h:gD P E n ops o rest σ K):B5 P E n ops (o::rest) σ K:=by
 obtain⟨dst,op,ty,pos,after,guard⟩:=o
 simp only at hg
 subst hg
 have quiet:∀{d:Nat} {op:Op},Nat.blt d n=true→GA P op (H1 σ) σ.hp (fun av=>B5 P E n ops rest (σ.put d av) K)→B5 P E n ops (⟨some d,op,ty,pos,after,none⟩::rest) σ K:=by
  intro d op hd h
  obtain⟨av,hq,h⟩:=cP (E:=E) (nx:=σ.nx) (ty:=ty) h
  exact IQ hq hd h
 unfold gD at h
 simp only at h
 split at h
 ·rename_i ho
  obtain⟨hd,h⟩:=cond_false h
  obtain⟨av,hx,h⟩:=L2 h
  obtain⟨hf,h⟩:=Ii h
  exact ZC hx hf hd (F8 h)
 ·obtain⟨hd,h⟩:=cond_false h
  obtain⟨⟨l,tz,h⟩⟩:=h
  exact VA (l:=l) hd (F8 h)
 ·exact QU h
 ·obtain⟨hd,h⟩:=cond_false h
  unfold cQ at h
  split at h
  ·rename_i hx hy
   obtain⟨⟨e,sz,bs,z,ts,tz,tb,hz,h⟩⟩:=h
   obtain⟨nT,hq⟩:=cond_false h
   clear h
   obtain⟨⟨rfl,h0,h1,h2⟩,hq⟩:=hq
   exact Ws (e:=e) (z:=z) (by_:=bs) hx hy h0 h1 h2 hz (Nat.blt_eq▸nT) hd (F8 hq)
  ·exact h.elim
 ·obtain⟨hd,h⟩:=cond_false h
  exact QG hd (F8 h)
 ·unfold XB at h
  split at h
  ·rename_i hx hy hz
   split at h
   ·rename_i hb hk
    obtain⟨⟨k,e,t,z,tm,h⟩⟩:=h
    obtain⟨hc,h⟩:=cond_false h
    simp only[Bool.and_eq_true]at hc
    exact NM (T:=_) hx hb hy hk hc.1 h.h hz hc.2 h.k
   ·exact h.elim
  ·exact h.elim
 ·split at h
  ·rename_i uZ
   obtain⟨hd,h3⟩:=cond_false h
   clear h
   unfold Tp at h3
   split at h3
   ·rename_i hx
    split at h3
    ·rename_i hb
     obtain⟨rfl,h⟩:=h3
     obtain⟨⟨e,sz,bs,z,ts,tz,tb,hz,h⟩⟩:=h
     obtain⟨tu,h⟩:=h
     obtain⟨hc,h5⟩:=cond_false h
     clear h
     simp only[Bool.and_eq_true,Nat.beq_eq,Nat.blt_eq]at hc
     obtain⟨⟨⟨⟨rfl,rfl⟩,rfl⟩,rfl⟩,lb⟩:=hc
     obtain⟨⟨kf,h⟩⟩:=h5
     exact Lv hx hb uZ lb kf hd h
    ·exact h3.elim
   ·rename_i hx
    obtain⟨⟨e,sz,bs,z,ts,tz,tb,hz,h⟩⟩:=h3
    obtain⟨tu,h⟩:=h
    obtain⟨hc,h5⟩:=cond_false h
    clear h
    simp only[Bool.and_eq_true,Nat.beq_eq,Nat.blt_eq]at hc
    obtain⟨⟨rfl,rfl⟩,lb⟩:=hc
    obtain⟨⟨kf,h⟩⟩:=h5
    exact IX hx uZ lb kf hd (F8 h)
   ·exact h3.elim
  rename_i uZ
  clear uZ
  obtain⟨hd,h3⟩:=cond_false h
  clear h
  have h:=h3
  clear h3
  simp only[Bool.and_eq_true,Nat.beq_eq]at hd
  obtain⟨hd,rfl⟩:=hd
  unfold To at h
  split at h
  ·rename_i hx hy
   split at h
   ·rename_i hb
    obtain⟨rfl,h⟩:=h
    obtain⟨⟨e,sz,bs,z,ts,tz,tb,hz,h⟩⟩:=h
    obtain⟨hc,h3⟩:=cond_false h
    clear h
    simp only[Bool.and_eq_true,Nat.beq_eq,Nat.blt_eq]at hc
    obtain⟨⟨⟨⟨rfl,rfl⟩,rfl⟩,kq⟩,lb⟩:=hc
    obtain⟨ly,h⟩:=h3
    obtain⟨kf,h⟩:=h
    exact Lw (z:=z) (by_:=bs) hx hb hy ly hz kq lb kf.1 kf.2 hd h
   ·exact h.elim
  ·rename_i hx hy
   split at h
   ·rename_i hb ll
    obtain⟨⟨rfl,rfl⟩,h⟩:=h
    obtain⟨⟨e,sz,bs,z,ts,tz,tb,hz,h⟩⟩:=h
    obtain⟨hc,h3⟩:=cond_false h
    clear h
    simp only[Bool.and_eq_true,Nat.beq_eq,Nat.blt_eq]at hc
    obtain⟨⟨⟨⟨rfl,rfl⟩,rfl⟩,kq⟩,lb⟩:=hc
    obtain⟨ly,h⟩:=h3
    obtain⟨kf,h⟩:=h
    exact LA (z:=z) (by_:=bs) hx hb hy ll ly hz kq lb kf.1 kf.2 hd h
   ·exact h.elim
  ·rename_i hx hy
   obtain⟨⟨e,sz,bs,z,ts,tz,tb,hz,h⟩⟩:=h
   obtain⟨hc,h3⟩:=cond_false h
   clear h
   simp only[Bool.and_eq_true,Nat.beq_eq,Nat.blt_eq]at hc
   obtain⟨⟨rfl,kq⟩,lb⟩:=hc
   obtain⟨ly,h⟩:=h3
   obtain⟨kf,h⟩:=h
   exact Lx (z:=z) (by_:=bs) hx hy ly hz kq lb kf.1 kf.2 hd (F8 h)
  ·exact h.elim
 ·exact h.h
 ·exact h.h
 ·obtain⟨hd,h⟩:=cond_false h
  split at h
  ·rename_i l hl
   cases hc:M3 l with
   |true =>
    rw[hc]at h
    obtain⟨⟨r,hr,h⟩⟩:=h
    rw[List.append_nil]at hr
    exact IQ (NG hr hl hc) hd h
   |false =>
    rw[hc]at h
    exact h.h
  ·exact h.elim
 ·split at h
  ·exact h.h
  ·obtain⟨hd,h⟩:=cond_false h
   exact quiet hd h
 ·split at h
  ·rename_i ps pu
   cases hc:ps.all fun p=>O2 p.2 with
   |true =>
    rw[hc]at h
    obtain⟨hd,h⟩:=cond_false h
    exact quiet hd h
   |false =>
    rw[hc]at h
    exact h.h
  ·exact h.elim
 ·split at h
  ·exact h.h
  ·obtain⟨hd,h⟩:=cond_false h
   exact quiet hd h
 ·exact h.h
 ·obtain⟨hd,h⟩:=cond_false h
  split at h
  ·rename_i l hl
   cases hc:M3 l with
   |true =>
    rw[hc]at h
    exact quiet hd h
   |false =>
    rw[hc]at h
    exact h.h
  ·exact h.elim
 ·obtain⟨hd,h⟩:=cond_false h
  exact quiet hd h
 ·exact h.elim
structure S3(b g:Bool)(A B:Prop):Prop where
 t:b=g→A
 f:b=(!g)→B
theorem ZU{A B:Prop}(k:A):S3 true true A B:=⟨fun _=>k,fun h=>by cases h⟩
theorem ZV{A B:Prop}(k:A):S3 false false A B:=⟨fun _=>k,fun h=>by cases h⟩
theorem ZW{A B:Prop}(k:B):S3 true false A B:=⟨(fun h=>by cases h),fun _=>k⟩
theorem ZX{A B:Prop}(k:B):S3 false true A B:=⟨(fun h=>by cases h),fun _=>k⟩
theorem ZY{p A B:Prop}[Decidable p](h1:p→A)(h2:¬p→B):S3 (decide p) true A B:=⟨fun h=>h1 (of_decide_eq_true h),fun h=>h2 (of_decide_eq_false h)⟩
theorem ZZ{p A B:Prop}[Decidable p](h1:¬p→A)(h2:p→B):S3 (decide p) false A B:=⟨fun h=>h1 (of_decide_eq_false h),fun h=>h2 (of_decide_eq_true h)⟩
theorem Za{b:Bool}{A B:Prop}(h1:b=true→A)(h2:b=false→B):S3 b true A B:=⟨h1,h2⟩
theorem Zb{b:Bool}{A B:Prop}(h1:b=false→A)(h2:b=true→B):S3 b false A B:=⟨h1,h2⟩
theorem XD{p A B:Prop}[Decidable p](h1:¬p→A)(h2:p→B):S3 (!decide p) true A B:=⟨fun h=>h1 (by simpa using h),fun h=>h2 (by simpa using h)⟩
theorem XE{p A B:Prop}[Decidable p](h1:p→A)(h2:¬p→B):S3 (!decide p) false A B:=⟨fun h=>h1 (by simpa using h),fun h=>h2 (by simpa using h)⟩
theorem XF{b:Bool}{A B:Prop}(h1:b=false→A)(h2:b=true→B):S3 (!b) true A B:=⟨fun h=>h1 (by simpa using h),fun h=>h2 (by simpa using h)⟩
theorem XG{b:Bool}{A B:Prop}(h1:b=true→A)(h2:b=false→B):S3 (!b) false A B:=⟨fun h=>h1 (by simpa using h),fun h=>h2 (by simpa using h)⟩
def gE(P:Program)(E:Env)(n:Nat)(ops:Array Oper)(l:List Oper)(σ:St)(K:St→Prop):Prop :=
 match l with
 |[]=>K σ
 |⟨dst,op,ty,pos,after,none⟩::rest=>gD P E n ops ⟨dst,op,ty,pos,after,none⟩ rest σ K
 |⟨some dd,op,ty,pos,after,some (j,g)⟩::rest=>match (ops[j]?).bind (·.dst)with
  |some dj=>cond (Nat.blt dd n) (match look σ.sl dj with
   |some (.v (.bool b))=>S3 b g (B5 P E n ops (⟨some dd,op,ty,pos,after,none⟩::rest) (σ.put dj (.v (.bool g))) K)
     (B5 P E n ops rest ((σ.put dj (.v (.bool !g))).put dd (.v undef)) K)
   |some (.v (.tuple t))=>B5 P E n ops rest (σ.put dd (.v undef)) K
   |_=>False) False
  |none=>False
 |⟨none,_,_,_,_,some _⟩::_=>False
theorem Gk{l:List Oper}(h:gE P E n ops l σ K):B5 P E n ops l σ K:=by
 unfold gE at h
 split at h
 ·exact Yt h
 ·exact XC rfl h
 ·split at h
  ·rename_i dj hj
   obtain⟨ov,h⟩:=cond_false h
   split at h
   ·rename_i b hb
    exact Pp hj hb ov h.t h.f
   ·rename_i t hb
    exact IG hj hb rfl ov h
   ·exact h.elim
  ·exact h.elim
 ·exact h.elim
structure MN(P:Program)(E:Env)(n:Nat)(c:Code)(σ:St)(Q:Exit→St→Prop):Prop where
 h:E8 P E n (.loop c) σ Q
structure EL(P:Program)(E:Env)(n:Nat)(id:Nat)(ops:Array Oper)(σ:St)(Q:Exit→St→Prop):Prop where
 h:E8 P E n (.region id ops true) σ Q
def VL(P:Program)(E:Env)(n:Nat)(c:Code)(σ:St)(Q:Exit→St→Prop):Prop :=
 match c with
 |.seq a b=>E8 P E n a σ (PX (fun σ'=>E8 P E n b σ' Q) Q)
 |.region _ ops false=>B5 P E n ops ops.toList σ (fun σ'=>Q .normal σ')
 |.region id ops true=>EL P E n id ops σ Q
 |.skip=>Q .normal σ
 |.ret=>Q .ret σ
 |.exit i=>Q (.exit i) σ
 |.block id c=>E8 P E n c σ (Lj id Q)
 |.cond (.tmp t) a b=>match look σ.sl t with
  |some (.v (.bool c))=>CV c (E8 P E n a (σ.put t (.v (.bool true))) Q) (E8 P E n b (σ.put t (.v (.bool false))) Q)
  |_=>False
 |.cond (.const (.bool true)) a b=>E8 P E n a σ Q
 |.cond (.const (.bool false)) a b=>E8 P E n b σ Q
 |.loop c=>MN P E n c σ Q
 |_=>False
theorem XH{c:Code}(h:VL P E n c σ Q):E8 P E n c σ Q:=by
 unfold VL at h
 split at h
 ·exact cu h
 ·exact Uq rfl h
 ·exact h.h
 ·exact Yu h
 ·exact cy h
 ·exact Yv h
 ·exact We h
 ·split at h
  ·rename_i hc;exact Ut hc h.t h.f
  ·exact h.elim
 ·exact Ur rfl h
 ·exact Us rfl h
 ·exact h.h
 ·exact h.elim
theorem D5{ι:Type}{c:Code}(S:ι→St)(I:ι→Prop)(m:ι→Nat)(x0:ι)(hI:I x0)(h0:St.le E n σ (S x0))
  (h:∀x,I x→E8 P E n c (S x) (PX (fun σ'=>∃y,I y∧m y<m x∧St.le E n σ' (S y)) Q)):MN P E n c σ Q:=⟨Yw S I m x0 hI h0 h⟩
end rules
end Go.Av
