/- Maps, tuples, closures, parts of strings and of rows. States that say less; freezing; what a function does. One rule for every operation: what is left to prove is reckoned by unfolding. The walk: operations that make or write memory, code, and what a function does. -/
import Derived.Test.YtiphlhoclaogjaaGreatDoorSE1
set_option linter.unusedSimpArgs false
set_option linter.unusedVariables false
set_option linter.unnecessarySimpa false
set_option maxHeartbeats 64000000
namespace Go.Av
open Go Go.RowKit
class EQ(P:Program)(T:Nat)(k e:outParam Nat)(t:outParam TypeDesc)(z:outParam Value):Prop where
 out:P.underlying T=some (.map k e)∧P.underlying k=some t∧(P.info? e).bind (·.zero)=some z
section rules
variable {P:Program} {E:Env} {n nx:Nat} {hp:Hp} {ev:Operand→Option AV} {ops:Array Oper} {rest:List Oper} {σ:St} {K:St→Prop} {Q:Exit→St→Prop}
variable {d:Nat} {ty:TypeId} {pos:String} {after:Array Edge} {x y z:Operand}
def s9(t:TypeDesc)(m:List (Key×AV)):Prop:=∀p∈m,Dp t p.1=true
theorem y9.map{θ:Th}{a:Act}{w:World}(h:y9 E θ nx hp ev a w){i:Nat}{m:List (Key×AV)}(hb:A5 hp i=some (.map m)):
  ∃r es clock,θ i=.map (some r)∧w.heap[r]?=some (.map es clock)∧es.size=m.length ∧
   ∀(j:Nat) (q:Key×AV) e,m[j]?=some q→es[j]?=some e→e.key=q.1.val∧Im (kx E θ nx hp w).U w q.2 e.val:=(h.owns i _ hb).2
theorem run_findKey{kt:TypeId}{t:TypeDesc}{k:Key}(ht:P.underlying kt=some t){es:List MapEntry}{q:Option (Nat×Value)}(hq:Instr.findNow t k.val es 0=some q)(w:World):(Instr.findKey kt k.val es).run P w=.ok q w:=by
 simp[Instr.findKey,Sem.run_bind,run_underlying ht,hq,Sem.run_pure]
def AD(m:List (Key×AV))(k:Key)(d:AV):AV:=match o7 m k with
 |some v=>v
 |none=>d
theorem Mk{T kt e:Nat}{t:TypeDesc}{zv:Value}[tm:EQ P T kt e t zv]{θ:Th}{a:Act}{w:World}(h:y9 E θ nx hp ev a w){i:Nat}{m:List (Key×AV)}{po:AV}{k:Key}(hx:ev x=some (.mp i))(hb:A5 hp i=some (.map m))(hy:ev y=some po)(hk:keyOf po=some k)(nH:Dp t k=true)(hm:s9 t m)(ok:Bool):
  ∃v,(Instr.lookup T (a.eval x) (a.eval y) ok).run P w=.ok (if ok then .tuple #[v,.bool (o7 m k).isSome]else v) w∧D7 (kx E θ nx hp w) (AD m k (b6 zv)) v:=by
 obtain⟨hu,ht,hz⟩:=tm.out
 obtain⟨r,es,clock,hθ,hr,hsz,si⟩:=h.map hb
 obtain⟨hv,mE⟩:=ZK (h.rel hx)
 have mj:a.eval x=.map (some r):=by rw[hv];exact hθ
 have tE:=PY hk (h.rel hy)
 have np:=EP nH
 obtain⟨q,hq,nq⟩:=findNow_spec (t:=t) np m es.toList 0 (by simpa using hsz) (fun p hp=>EP (hm p hp)) (fun j p e hj he=>(si j p e hj (by simpa using he)).1)
 have mh:=bc (m:=m) (k:=k)
 simp only[Instr.lookup,Sem.run_bind,run_underlying hu,Result.andThen_ok,mj,tE,MapKept.run_getObj_map hr,Sem.run_pure,CH ht np,run_findKey ht hq]
 cases hf:m.findIdx? (fun p=>decide (p.1=k))with
 |none =>
  rw[hf]at nq mh
  subst nq
  simp only at mh
  cases hi:P.info? e with
  |none=>rw[hi]at hz;simp at hz
  |some inf =>
   rw[hi]at hz
   simp only[Sem.run_bind,k9 hi (by simpa using hz),Result.andThen_ok,Sem.run_pure,mh]
   refine⟨zv,by cases ok<;>rfl,?_⟩
   simp only[AD,mh]
   exact .im (Ig zv)
 |some j =>
  rw[hf]at nq mh
  obtain⟨e,he,rfl⟩:=nq
  obtain⟨p,hp1,hp2,zF⟩:=mh
  simp only[Sem.run_pure,Result.andThen_ok,zF]
  refine⟨e.val,by cases ok<;>rfl,?_⟩
  simp only[AD,zF]
  exact .im (si j p e hp1 (by simpa using he)).2
theorem bf{T kt e:Nat}{t:TypeDesc}{zv:Value}[tm:EQ P T kt e t zv]{i:Nat}{m:List (Key×AV)}{po:AV}{k:Key}(hx:ev x=some (.mp i))(hb:A5 hp i=some (.map m))(hy:ev y=some po)(hk:keyOf po=some k)(nH:Dp t k=true)(hm:s9 t m):
  G7 P E nx hp ev (.lookup T x y false) ty (AD m k (b6 zv)) :=
 E3 fun _ _ _ θ a w h=>by
  obtain⟨v,h1,h2⟩:=Mk (P:=P) (T:=T) h hx hb hy hk nH hm false
  exact⟨v,by simp only[execOp,Sem.run_bind,h1,Result.andThen_ok,Sem.run_pure];rfl,h2⟩
theorem Ue{T kt e:Nat}{t:TypeDesc}{zv:Value}[tm:EQ P T kt e t zv]{i:Nat}{m:List (Key×AV)}{po:AV}{k:Key}(hx:ev x=some (.mp i))(hb:A5 hp i=some (.map m))(hy:ev y=some po)(hk:keyOf po=some k)(nH:Dp t k=true)(hm:s9 t m):
  G7 P E nx hp ev (.lookup T x y true) ty (.tup [AD m k (b6 zv),.b (o7 m k).isSome]) :=
 E3 fun _ _ _ θ a w h=>by
  obtain⟨v,h1,h2⟩:=Mk (P:=P) (T:=T) h hx hb hy hk nH hm true
  refine⟨.tuple #[v,.bool (o7 m k).isSome],by simp only[execOp,Sem.run_bind,h1,Result.andThen_ok,Sem.run_pure];rfl,?_⟩
  exact .tup [_,_] [v,.bool (o7 m k).isSome] rfl fun j u z hu hz=>by
   match j,hu,hz with
   |0,hu,hz=>cases hu;cases hz;exact h2
   |1,hu,hz=>cases hu;cases hz;exact .im (.v _)
theorem Rr(k:Key)(m:Nat):Instr.sameBits m k.val k.val=true:=by
 cases k with
 |s l =>
  simp only[Key.val,Instr.sameBits]
  show (l.toArray == l.toArray)=true
  simp
 |i k n=>simp[Key.val,Instr.sameBits]
theorem PZ{k:Key}{v:AV}:∀(m:List (Key×AV)),(match m.findIdx? (fun p=>decide (p.1=k))with
   |none=>Y7 m k v=m++[(k,v)]
   |some j=>Y7 m k v=m.set j (k,v))
 |[]=>rfl
 |(k',v')::r=>by
  rw[List.findIdx?_cons]
  by_cases e:k'=k
  ·simp only[e,decide_true,if_true]
   simp[Y7]
  ·simp only[e,decide_false]
   have ih:=PZ (k:=k) (v:=v) r
   cases hf:r.findIdx? (fun p=>decide (p.1=k))with
   |none=>rw[hf]at ih;simp[Y7,e];exact ih
   |some j=>rw[hf]at ih;simp[Y7,e];exact ih
theorem OT{T kt e:Nat}{t:TypeDesc}{zv:Value}[tm:EQ P T kt e t zv]{i:Nat}{m:List (Key×AV)}{po av:AV}{k:Key}(hx:F3 σ x=some (.mp i))(hb:A5 σ.hp i=some (.map m))(hy:F3 σ y=some po)(hk:keyOf po=some k)(nH:Dp t k=true)(hm:s9 t m)(hz:F3 σ z=some av)(ly:J2 av=true)
  (kk:B2 P E n ops rest (σ.set i (.map (Y7 m k av))) K):B2 P E n ops (⟨none,.mapUpdate T x y z,ty,pos,after,none⟩::rest) σ K :=
 Ip hb (fun θ a w h=>by
  obtain⟨hu,ht,_⟩:=tm.out
  obtain⟨r,es,clock,hθ,hr,hsz,si⟩:=h.map hb
  obtain⟨hv,mE⟩:=ZK (h.rel hx)
  have mj:a.eval x=.map (some r):=by rw[hv];exact hθ
  have tE:=PY hk (h.rel hy)
  have np:=EP nH
  obtain⟨q,hq,nq⟩:=findNow_spec (t:=t) np m es.toList 0 (by simpa using hsz) (fun p hp=>EP (hm p hp)) (fun j p e hj he=>(si j p e hj (by simpa using he)).1)
  have mc:=PZ (k:=k) (v:=av) m
  have lY:r<w.heap.size:=(Array.getElem?_eq_some_iff.1 hr).1
  have lr:∃uO pD,(Instr.mapUpdate T (a.eval x) (a.eval y) (a.eval z)).run P w=.ok () { w with heap:=w.heap.setIfInBounds r (.map uO pD) }∧uO.size=(Y7 m k av).length ∧
    ∀(j:Nat) (q:Key×AV) e,(Y7 m k av)[j]?=some q→uO[j]?=some e→e.key=q.1.val∧Im (kx E θ σ.nx σ.hp w).U w q.2 e.val:=by
   have un:=(S4 ly).im (h.rel hz)
   cases hf:m.findIdx? (fun p=>decide (p.1=k))with
   |none =>
    rw[hf]at nq mc
    subst nq
    refine⟨es.push { key:=k.val,val:=a.eval z,born:=clock },clock+1,?_,by simp only[mc];simp[hsz],fun j q e hj he=>?_⟩
    ·simp only[Instr.mapUpdate,Sem.run_bind,run_underlying hu,Result.andThen_ok,mj,tE,MapKept.run_getObj_map hr,Sem.run_pure,CH ht np,run_findKey ht hq,MapKept.run_setObj_map _ hr]
    ·simp only[mc]at hj
     rw[Array.getElem?_push]at he
     rw[List.getElem?_append]at hj
     split at hj
     ·rename_i oq
      rw[if_neg (by omega)]at he
      exact si j q e hj he
     ·rename_i oM
      have:j=m.length:=by
       rcases Nat.lt_or_ge m.length j with h1|h1
       ·rw[List.getElem?_eq_none (by simp;omega)]at hj;cases hj
       ·omega
      subst this
      rw[if_pos (by omega)]at he
      cases he
      simp at hj
      subst hj
      exact⟨rfl,un⟩
   |some j0 =>
    rw[hf]at nq mc
    obtain⟨e0,vK,rfl⟩:=nq
    have nu:j0<m.length:=by
     have:=(List.getElem?_eq_some_iff.1 vK).1
     simp at this
     omega
    have hmj:m[j0]?=some m[j0]:=List.getElem?_eq_getElem nu
    have uC:m[j0].1=k:=by
     have:=List.findIdx?_eq_some_iff_getElem.1 hf
     exact of_decide_eq_true this.2.1
    have ob:e0.key=k.val:=by rw[(si j0 _ e0 hmj (by simpa using vK)).1,uC]
    refine⟨es.modify j0 fun e=>{ e with key:=k.val,val:=a.eval z },clock,?_,by simp only[mc];simp[hsz],fun j q e hj he=>?_⟩
    ·have wk:es[j0]?=some e0:=by simpa using vK
     simp only[Instr.mapUpdate,Sem.run_bind,run_underlying hu,Result.andThen_ok,mj,tE,MapKept.run_getObj_map hr,Sem.run_pure,CH ht np,run_findKey ht hq,Nat.zero_add,wk,Option.map_some,Option.getD_some,Instr.keyThatStays,ob,Rr,if_true,MapKept.run_setObj_map _ hr]
    ·simp only[mc]at hj
     rw[Array.getElem?_modify]at he
     rw[List.getElem?_set]at hj
     by_cases ej:j0=j
     ·subst ej
      rw[if_pos rfl]at he hj
      rw[if_pos nu]at hj
      cases hj
      cases hh:es[j0]? with
      |none=>rw[hh]at he;simp at he
      |some e1=>rw[hh]at he;simp at he;subst he;exact⟨rfl,un⟩
     ·rw[if_neg ej]at he hj
      exact si j q e hj he
  obtain⟨uO,pD,mH,yA,uu⟩:=lr
  refine⟨{ w with heap:=w.heap.setIfInBounds r (.map uO pD) },by simp only[execOp,Sem.run_bind,mH,Result.andThen_ok,Sem.run_pure],rfl,rfl,rfl,by simp,fun k hk=>?_,rfl,fun le=>?_⟩
  ·have:k≠r:=by intro e;subst e;exact hk (by rw[hθ];rfl)
   simp[Array.getElem?_setIfInBounds_ne (Ne.symm this)]
  ·refine⟨r,uO,pD,by simp[cx,E8,hθ],by simp[cx,lY],yA,fun j q e hj he=>⟨(uu j q e hj he).1,((uu j q e hj he).2.mono le.heap le.U)⟩⟩) kk
theorem Pa{l:List AV}{av:AV}{k:Nat}(hx:ev x=some (.tup l))(hk:l[k]?=some av):G7 P E nx hp ev (.extract x k) ty av :=
 E3 fun _ _ _ θ a w h=>by
  have:∃cs:List Value,a.eval x=.tuple cs.toArray∧l.length=cs.length∧∀(j:Nat) u z,l[j]?=some u→cs[j]?=some z→D7 (kx E θ nx hp w) u z:=by
   have r:=h.rel hx
   generalize a.eval x=v at r
   cases r with
   |im hi=>cases hi with|tup l cs hl hc=>exact⟨cs,rfl,hl,fun j u z hu hz=>.im (hc j u z hu hz)⟩
   |tup l cs hl hc=>exact⟨cs,rfl,hl,hc⟩
  obtain⟨cs,hv,hl,hr⟩:=this
  have lY:k<cs.length:=by rw[←hl];exact(List.getElem?_eq_some_iff.1 hk).1
  have hc:cs[k]?=some cs[k]:=List.getElem?_eq_getElem lY
  refine⟨cs[k],?_,hr k av _ hk hc⟩
  simp only[execOp,hv,Instr.extract]
  simp[hc,Sem.run_bind,Sem.run_pure]
theorem Rs{f:Nat}{xs:List Operand}{caps:List AV}(ha:l8 ev xs=some caps)(hf:f<HA):G7 P E nx hp ev (.makeFunc (.func f) #[] xs.toArray) ty (.fo f caps) :=
 E3 fun _ _ _ θ a w h=>by
  obtain⟨hl,hr⟩:=CF h xs caps ha
  exact⟨.func (.func f) #[] (xs.map a.eval).toArray,by simp[execOp,Instr.makeFunc,Sem.run_bind,Sem.run_pure],by
   have:=D7.fo (c:=kx E θ nx hp w) f caps (xs.map a.eval) (by simp[hl]) fun j u z hu hz=>hr j u z hu hz
   unfold RU at this
   rwa[if_pos hf]at this⟩
theorem Wv{f:Nat}{xs:List Operand}{caps:List AV}(ha:l8 ev xs=some caps)(ly:I8 caps=true):G7 P E nx hp ev (.makeFunc (.func f) #[] xs.toArray) ty (.fn f caps) :=
 E3 fun _ _ _ θ a w h=>by
  obtain⟨hl,hr⟩:=CF h xs caps ha
  refine⟨.func (.func f) #[] (xs.map a.eval).toArray,by simp[execOp,Instr.makeFunc,Sem.run_bind,Sem.run_pure],.im (.fn f caps _ (by simp[hl]) fun j u z hu hz=>?_)⟩
  exact(U0 ly u (List.mem_of_getElem? hu)).im (hr j u z hu hz)
theorem Uf(l:List UInt8)(i j:Nat):((⟨l.toArray⟩:ByteArray).extract i j)=⟨((l.take j).drop i).toArray⟩:=by
 apply ByteArray.ext
 simp[ByteArray.data_extract]
 rw[List.drop_take]
def Ar(ev:Operand→Option AV)(xE:Nat):Option Operand→Option Int
 |none=>some xE
 |some x=>match ev x with
  |some (.v (.int _ i))=>some i
  |_=>none
theorem Fc{k:IntKind}{i:Int}{m:Nat}(h0:0≤i)(h1:i≤m)(c:BoundsCode)(w:World):(Instr.sliceBound (.int k i) m c).run P w=.ok i.toNat w:=by
 simp[Instr.sliceBound,asIntOf,Sem.run_bind,Sem.run_pure,h0,h1]
theorem Ck{isS:Bool}{len cap:Nat}{lo hi:Option Operand}{l h:Int}{θ:Th}{a:Act}{w:World}(ns:y9 E θ nx hp ev a w)(hl:Ar ev 0 lo=some l)(hh:Ar ev len hi=some h)(h0:0≤l)(h1:l≤h)(h2:h≤cap):
  (Instr.sliceBounds isS len cap (lo.map a.eval) (hi.map a.eval) none).run P w=.ok (l.toNat,h.toNat,cap) w:=by
 have hb:∀(o:Option Operand) (df:Nat) (i:Int),Ar ev df o=some i→(o=none∧i=df)∨∃y k,o=some y∧a.eval y=.int k i:=by
  intro o df i ho
  cases o with
  |none=>exact .inl ⟨rfl,by simp[Ar]at ho;exact ho.symm⟩
  |some y =>
   simp only[Ar]at ho
   split at ho
   ·rename_i k j hj
    cases ho
    exact .inr ⟨y,k,rfl,(ns.rel hj).val⟩
   ·cases ho
 have h3:0≤h:=by omega
 rcases hb lo 0 l hl with ⟨rfl,rfl⟩|⟨yl,kl,rfl,yY⟩<;>rcases hb hi len h hh with ⟨rfl,rfl⟩|⟨yh,kh,rfl,yV⟩
 ·simp[Instr.sliceBounds,Sem.run_bind,Sem.run_pure]
 ·simp only[Instr.sliceBounds,Option.map_none,Option.map_some,Sem.run_bind,Sem.run_pure,Result.andThen_ok,yV,Fc h3 h2]
  rfl
 ·simp only[Instr.sliceBounds,Option.map_none,Option.map_some,Sem.run_bind,Sem.run_pure,Result.andThen_ok,yY,Fc h0 h1]
  rfl
 ·have h4:l≤(h.toNat:Int):=by omega
  simp only[Instr.sliceBounds,Option.map_some,Sem.run_bind,Sem.run_pure,Result.andThen_ok,yY,yV,Fc h3 h2,Fc h0 h4]
theorem Ko{T:Nat}[ts:j8 P T]{s:List UInt8}{lo hi:Option Operand}{l h:Int}(hx:ev x=some (.str s))(hl:Ar ev 0 lo=some l)(hh:Ar ev s.length hi=some h)(h0:0≤l)(h1:l≤h)(h2:h≤s.length):
  G7 P E nx hp ev (.slice T x lo hi none) ty (.str ((s.take h.toNat).drop l.toNat)) :=
 E3 fun _ _ _ θ a w hs=>by
  have hv:=(hs.rel hx).sval
  refine⟨.string ⟨((s.take h.toNat).drop l.toNat).toArray⟩,?_,.im (.str _)⟩
  have hb:=Ck (P:=P) (isS:=false) (cap:=s.length) hs hl hh h0 h1 h2
  have hsz:(ByteArray.mk s.toArray).size=s.length:=rfl
  simp only[execOp,hv,Instr.sliceAt,Instr.slice,Sem.run_bind,run_underlying ts.out,Result.andThen_ok,Option.isSome_none,Option.map_none,hsz,Bool.false_eq_true,if_false,hb,Uf,Sem.run_pure]
theorem Ww{T e sz:Nat}[ts:L8 P T e sz]{s:List (List AV)}{lo hi:Option Operand}{l h:Int}(hx:ev x=some (.sl sz s))(hl:Ar ev 0 lo=some l)(hh:Ar ev s.length hi=some h)(h0:0≤l)(h1:l≤h)(h2:h≤s.length):
  G7 P E nx hp ev (.slice T x lo hi none) ty (.sl sz ((s.take h.toNat).drop l.toNat)) :=
 E3 fun _ _ _ θ a w hs=>by
  obtain⟨hu,inf,mr,hsz⟩:=ts.out
  have lX:((s.take h.toNat).drop l.toNat).length=h.toNat-l.toNat:=by rw[List.length_drop,List.length_take];omega
  rcases Es (hs.rel hx)with ⟨hv,e⟩|⟨p,cap,f,hv,h3,h4,h5,h6,h7,h8⟩
  ·subst e
   have hb:=Ck (P:=P) (isS:=true) (cap:=0) hs hl hh h0 h1 (by simpa using h2)
   have e1:h=0:=by simp at h2;omega
   have e2:l=0:=by omega
   subst e1;subst e2
   refine⟨.slice none 0 0,?_,.im (.slnil sz)⟩
   simp only[List.length_nil]at hb
   simp only[execOp,hv,Instr.sliceAt,Instr.slice,Sem.run_bind,run_underlying hu,Result.andThen_ok,Option.map_none,hb,Sem.run_pure,sizeOf,typeInfo,program,Sem.run,mr]
   rfl
  ·have hb:=Ck (P:=P) (isS:=true) (cap:=cap) hs hl hh h0 h1 (by omega)
   refine⟨.slice (some (if cap=l.toNat then p else p.add (l.toNat*sz))) (h.toNat-l.toNat) (cap-l.toNat),?_,?_⟩
   ·simp only[execOp,hv,Instr.sliceAt,Instr.slice,Sem.run_bind,run_underlying hu,Result.andThen_ok,Option.map_none,hb,Sem.run_pure,sizeOf,typeInfo,program,Sem.run,mr,hsz]
    split<;>rfl
   ·rw[←lX]
    have nM:∀(i:Nat) el,((s.take h.toNat).drop l.toNat)[i]?=some el→s[l.toNat+i]?=some el∧l.toNat+i<s.length∧l.toNat≠cap:=by
     intro i el hi
     rw[List.getElem?_drop,List.getElem?_take]at hi
     split at hi
     ·have:=(List.getElem?_eq_some_iff.1 hi).1
      exact⟨hi,this,by omega⟩
     ·cases hi
    refine .im (.sl sz _ _ _ (fun i j=>f (l.toNat+i) j) (by rw[lX];omega) (by omega) (fun hne pT=>?_) (fun el lU=>?_) (fun i hi j hj=>?_) (fun i el hi j u hu=>?_))
    ·have:s≠[]:=by intro e;subst e;simp at hne
     split
     ·exact h5 this pT
     ·rw[l7];exact h5 this pT
    ·exact h6 el (List.mem_of_mem_take (List.mem_of_mem_drop lU))
    ·have hg:=nM i _ (List.getElem?_eq_getElem hi)
     rw[if_neg (fun e=>hg.2.2 e.symm),DW]
     have:=h7 (l.toNat+i) hg.2.1 j hj
     rw[Nat.add_mul,Nat.add_assoc]at this
     exact this
    ·have hg:=nM i _ hi
     exact h8 _ _ hg.1 j u hu
end rules
def KD(h h':Hp)(i v len:Nat):AV :=
 match A5 h i with
 |some (.row _ sz v1 l)=>cond (Nat.beq v v1) (match A5 h' i with
  |some (.row _ _ v2 _)=>.row i v2 len
  |_=>.sl sz l) .any
 |_=>.any
def KE(h h':Hp)(i v k off:Nat):AV :=
 match A5 h i with
 |some (.row _ sz v1 l)=>cond (Nat.beq v v1) (match A5 h' i with
  |some (.row _ _ v2 _)=>.elt i v2 k off
  |_=>match l[k]? with
   |some el=>.iptr (el.drop off)
   |none=>.any) .any
 |_=>.any
def KF(h h':Hp)(i v lo len:Nat):AV :=
 match A5 h i with
 |some (.row _ sz v1 l)=>cond (Nat.beq v v1) (match A5 h' i with
  |some (.row _ _ v2 _)=>.sub i v2 lo len
  |_=>.sl sz ((l.take (lo+len)).drop lo)) .any
 |_=>.any
def Ml(h h':Hp)(i off:Nat):AV :=
 match A5 h i with
 |some (.bx _ l)=>match A5 h' i with
  |some _=>.ref i off
  |none=>cond (I8 l) (.iptr (l.drop off)) (.ref i off)
 |_=>.ref i off
mutual
def J0(h h':Hp):AV→AV
 |.row i v len=>KD h h' i v len
 |.elt i v k off=>KE h h' i v k off
 |.sub i v lo len=>KF h h' i v lo len
 |.ref i off=>Ml h h' i off
 |.agg l=>.agg (Cm h h' l)
 |.tup l=>.tup (Cm h h' l)
 |.fo f l=>.fo f (Cm h h' l)
 |x=>x
def Cm(h h':Hp):List AV→List AV
 |[]=>[]
 |x::r=>J0 h h' x::Cm h h' r
end
theorem P5(h h':Hp):∀l,Cm h h' l=l.map (J0 h h')
 |[]=>by simp[Cm]
 |x::r=>by simp[Cm,P5 h h' r]
def Fe(h h':Hp):C6→C6→Prop
 |.bx τ l,b=>b=.bx τ (Cm h h' l)
 |.row e sz _ l,b=>∃v,b=.row e sz v l
 |.map m,b=>b=.map m
 |.it s p,b=>b=.it s p
mutual
def V6(m:Nat):AV→Bool
 |.ref i _=>Nat.blt i m
 |.row i _ _=>Nat.blt i m
 |.mp i=>Nat.blt i m
 |.elt i _ _ _=>Nat.blt i m
 |.sub i _ _ _=>Nat.blt i m
 |.agg l=>U4 m l
 |.tup l=>U4 m l
 |.fo _ l=>U4 m l
 |_=>true
def U4(m:Nat):List AV→Bool
 |[]=>true
 |x::r=>V6 m x && U4 m r
end
theorem Ax{m:Nat}:∀{l:List AV},U4 m l=true→∀x∈l,V6 m x=true
 |[],_,x,hx=>by cases hx
 |y::r,h,x,hx=>by
  simp only[U4,Bool.and_eq_true]at h
  rcases List.mem_cons.1 hx with rfl|hx
  ·exact h.1
  ·exact Ax h.2 x hx
structure Cx.sub(c c':Cx):Prop where
 θ:c'.θ=c.θ
 w:c'.w=c.w
 X:∀k,c'.X k→c.X k
 blk:∀i b',A5 c'.hp i=some b'→∃b,A5 c.hp i=some b∧Fe c.hp c'.hp b b'
 apart:∀i j b b' k,A5 c.hp i=some b→A5 c.hp j=some b'→FP c.θ i b k→FP c.θ j b' k→i=j
 fresh:∀i b k,A5 c.hp i=some b→FP c.θ i b k→¬c.X k
 owns:∀i b,A5 c.hp i=some b→L6 c i b
theorem bg{h h':Hp}{b b':C6}(e:Fe h h' b b'):U9 b'=U9 b:=by
 cases b with
 |bx τ l=>simp only[Fe]at e;subst e;rfl
 |row e1 sz v l=>obtain⟨v2,rfl⟩:=e;rfl
 |map m=>simp only[Fe]at e;subst e;rfl
 |it s p=>simp only[Fe]at e;subst e;rfl
theorem FP.cv{θ:Th}{i k:Nat}{h h':Hp}{b b':C6}(e:Fe h h' b b')(f:FP θ i b' k):FP θ i b k:=by
 unfold FP at f ⊢
 rwa[bg e]at f
theorem Cx.sub.U{c c':Cx}(h:c.sub c'):∀k,c'.U k→c.U k:=by
 rintro k (hk|⟨i,b,hi,hk⟩)
 ·exact .inl (h.X k hk)
 ·obtain⟨b0,nF,sF⟩:=h.blk i b hi
  exact .inr ⟨i,b0,nF,FP.cv sF (by rw[←h.θ];exact hk)⟩
theorem Cx.sub.notU{c c':Cx}(h:c.sub c'){i:Nat}{b:C6}(hi:A5 c.hp i=some b)(hn:A5 c'.hp i=none){k:Nat}(hk:FP c.θ i b k):¬c'.U k:=by
 rintro (hx|⟨j,b',hj,mQ⟩)
 ·exact h.fresh i b k hi hk (h.X k hx)
 ·obtain⟨b0,nF,sF⟩:=h.blk j b' hj
  have:=h.apart i j b b0 k hi nF hk (FP.cv sF (by rw[←h.θ];exact mQ))
  subst this
  rw[hn]at hj
  cases hj
theorem Cx.sub.im{c c':Cx}(h:c.sub c'){a:AV}{x:Value}(hi:Im c.U c.w a x):Im c'.U c'.w a x:=hi.mono (fun k _ _=>by rw[h.w]) fun k _ hu=>h.U k hu
theorem HK{c c':Cx}(h:c.sub c'){i e sz v:Nat}{l:List (List AV)}(hi:A5 c.hp i=some (.row e sz v l))(hn:A5 c'.hp i=none):Im c'.U c'.w (.sl sz l) (c.θ i):=by
 obtain⟨xs,la,hsz,hr,_⟩:=h.owns i _ hi
 rcases la.2 with ⟨hv,rl⟩|⟨g,cap,lc,hv,_,hg,hc,hm,lX,hx⟩
 ·have:l=[]:=List.eq_nil_of_length_eq_zero rl
  subst this
  rw[hv]
  exact .slnil sz
 ·have mI:=la
  rw[hv]at mI
  rw[hv]
  have vA:¬c'.U g:=h.notU hi hn (.inl (by rw[hv];rfl))
  have nM:∀i,i<l.length→∀j,j<sz→∃y,xs[i*sz+j]?=some y:=by
   intro i hi j hj
   have h1:(i+1)*sz≤l.length*sz:=Nat.mul_le_mul_right _ hi
   rw[Nat.add_mul,Nat.one_mul]at h1
   have h2:i*sz+j<xs.length:=by rw[la.1];omega
   exact⟨_,List.getElem?_eq_getElem h2⟩
  refine .sl sz l ⟨g,0,none⟩ cap (fun i j=>xs.getD (i*sz+j) undef) hc hm (fun _ _=>vA) hsz (fun i hi j hj=>?_) (fun k el hk j x hx=>?_)
  ·obtain⟨y,hy⟩:=nM i hi j hj
   have:=mI.cells (g:=g) rfl _ _ hy
   rw[H3,h.w]
   have e:xs.getD (i*sz+j) undef=y:=by rw[List.getD,hy];rfl
   rw[e]
   simpa [H3]using this
  ·obtain⟨y,hy,mY⟩:=hr k el hk j x hx
   have e:xs.getD (k*sz+j) undef=y:=by rw[List.getD,hy];rfl
   rw[e]
   exact h.im mY
theorem iQ{U:Nat→Prop}{w:World}{sz lo len:Nat}{l:List (List AV)}{v x:Value}(h:Im U w (.sl sz l) v)(hs:RS v sz lo len x)(hl:lo+len≤l.length):Im U w (.sl sz ((l.take (lo+len)).drop lo)) x:=by
 have lX:((l.take (lo+len)).drop lo).length=len:=by rw[List.length_drop,List.length_take];omega
 rcases hs with ⟨rfl,rfl,rfl,rfl⟩|⟨g,n,cap,rfl,rfl⟩
 ·have:(l.take (0+0)).drop 0=[]:=by simp
  rw[this];exact .slnil sz
 ·cases h with
  |sl sz l a cap f mV hm hu hsz hc h =>
   have nM:∀(i:Nat) el,((l.take (lo+len)).drop lo)[i]?=some el→l[lo+i]?=some el∧lo+i<l.length∧cap≠lo:=by
    intro i el hi
    rw[List.getElem?_drop,List.getElem?_take]at hi
    split at hi
    ·have:=(List.getElem?_eq_some_iff.1 hi).1
     exact⟨hi,this,by omega⟩
    ·cases hi
   have key:∀p:Addr,p=(if cap=lo then ⟨g,0,none⟩else ⟨g,lo*sz,none⟩)→Im U w (.sl sz ((l.take (lo+len)).drop lo)) (.slice (some p) ((l.take (lo+len)).drop lo).length (cap-lo)):=fun p hp=>by
    refine .sl sz _ p _ (fun i j=>f (lo+i) j) (by rw[lX];omega) (by omega) (fun hne pT=>?_) (fun el lU=>?_) (fun i hi j hj=>?_) (fun i el hi j u hu=>?_)
    ·have:l≠[]:=by intro e;subst e;simp at hne
     have h5:=hu this pT
     rw[hp];split<;>exact h5
    ·exact hsz el (List.mem_of_mem_take (List.mem_of_mem_drop lU))
    ·have hg:=nM i _ (List.getElem?_eq_getElem hi)
     rw[hp,if_neg hg.2.2,H3]
     have:=hc (lo+i) hg.2.1 j hj
     rw[H3,Nat.zero_add,Nat.add_mul,Nat.add_assoc]at this
     exact this
    ·have hg:=nM i _ hi
     exact h _ _ hg.1 j u hu
   have:=key _ rfl
   rwa[lX]at this
theorem kA{c c':Cx}(h:c.sub c'){a:AV}{x:Value}(hi:Im c.U c.w a x):J0 c.hp c'.hp a=a∨D7 c' (J0 c.hp c'.hp a) x:=by
 induction hi with
 |v x=>exact .inl rfl
 |str l=>exact .inl rfl
 |fn f l cs hl hc ih=>exact .inl rfl
 |iptr l a f hu hc hh ih=>exact .inl rfl
 |err t p=>exact .inl rfl
 |any x=>exact .inl rfl
 |own e sz l x=>exact .inl rfl
 |slnil sz=>exact .inl rfl
 |sl sz l a cap f mV hm hu hsz hc hh ih=>exact .inl rfl
 |agg l cs hl hc ih =>
  refine .inr ?_
  simp only[J0,P5]
  refine .agg _ cs (by simp[hl]) fun j u z hu hz=>?_
  simp only[List.getElem?_map,Option.map_eq_some_iff]at hu
  obtain⟨u0,nd,rfl⟩:=hu
  rcases ih j u0 z nd hz with e|e
  ·rw[e];exact .im (h.im (hc j u0 z nd hz))
  ·exact e
 |tup l cs hl hc ih =>
  refine .inr ?_
  simp only[J0,P5]
  refine .tup _ cs (by simp[hl]) fun j u z hu hz=>?_
  simp only[List.getElem?_map,Option.map_eq_some_iff]at hu
  obtain⟨u0,nd,rfl⟩:=hu
  rcases ih j u0 z nd hz with e|e
  ·rw[e];exact .im (h.im (hc j u0 z nd hz))
  ·exact e
theorem Iu{c c':Cx}(h:c.sub c'){a:AV}{x:Value}(r:D7 c a x):c.nx≤c'.nx∨V6 c'.nx (J0 c.hp c'.hp a)=true→D7 c' (J0 c.hp c'.hp a) x:=by
 induction r with
 |any x=>intro _;exact .any x
 |im hi =>
  intro _
  rcases kA h hi with e|e
  ·rw[e];exact .im (h.im hi)
  ·exact e
 |agg l cs hl _ ih =>
  intro lY
  simp only[J0,P5]at lY ⊢
  refine .agg _ cs (by simp[hl]) fun j u z hu hz=>?_
  have mN:=List.mem_of_getElem? hu
  simp only[List.getElem?_map,Option.map_eq_some_iff]at hu
  obtain⟨u0,nd,rfl⟩:=hu
  exact ih j u0 z nd hz (lY.imp id fun h=>Ax (by simpa only[V6]using h) _ mN)
 |tup l cs hl _ ih =>
  intro lY
  simp only[J0,P5]at lY ⊢
  refine .tup _ cs (by simp[hl]) fun j u z hu hz=>?_
  have mN:=List.mem_of_getElem? hu
  simp only[List.getElem?_map,Option.map_eq_some_iff]at hu
  obtain⟨u0,nd,rfl⟩:=hu
  exact ih j u0 z nd hz (lY.imp id fun h=>Ax (by simpa only[V6]using h) _ mN)
 |fo f l cs hl _ ih =>
  intro lY
  simp only[J0,P5]at lY ⊢
  refine .fo f _ cs (by simp[hl]) fun j u z hu hz=>?_
  have mN:=List.mem_of_getElem? hu
  simp only[List.getElem?_map,Option.map_eq_some_iff]at hu
  obtain⟨u0,nd,rfl⟩:=hu
  exact ih j u0 z nd hz (lY.imp id fun h=>Ax (by simpa only[V6]using h) _ mN)
 |ref i off b hi hθ =>
  intro lY
  simp only[J0,Ml]at lY ⊢
  have mi:(c.nx≤c'.nx∨V6 c'.nx (.ref i off)=true)→D7 c' (.ref i off) (.pointer (some ⟨b,off,none⟩)):=fun lY=>by
   refine .ref i off b ?_ (by rw[h.θ];exact hθ)
   rcases lY with h1|h1
   ·omega
   ·simpa only[V6,Nat.blt_eq]using h1
  split at lY
  ·rename_i l hb
   split at lY
   ·exact mi lY
   ·rename_i hn
    cases ly:I8 l with
    |false=>rw[ly]at lY;exact mi lY
    |true =>
     obtain⟨b',mG,T,mv,hh,hsz,hr⟩:=h.owns i _ hb
     have e:b'=b:=by rw[hθ]at mv;injection mv with e;injection e with e;injection e with e;exact e.symm
     subst e
     have vA:¬c'.U b':=h.notU hb hn (.inl (by rw[hθ];rfl))
     refine .im (.iptr _ _ (fun j=>mG.getD (off+j) undef) (fun _=>vA) (fun j hj=>?_) (fun j u hu=>?_))
     ·have uD:off+j<mG.size:=by rw[List.length_drop]at hj;omega
      rw[H3,h.w,J8 hh]
      simp[Array.getD,uD]
     ·rw[List.getElem?_drop]at hu
      have uD:off+j<mG.size:=by have:=(List.getElem?_eq_some_iff.1 hu).1;omega
      have nM:mG[off+j]?=some (mG.getD (off+j) undef):=by simp[Array.getD,uD]
      have:=hr _ u _ hu nM
      exact h.im ((U0 ly u (List.mem_of_getElem? hu)).im this)
  ·exact mi lY
 |row i ver len x hi hr =>
  intro lY
  simp only[J0,KD]
  split
  ·rename_i e sz v1 l hb
   cases hv:Nat.beq ver v1 with
   |false=>exact .any x
   |true =>
    have mj:=Nat.eq_of_beq_eq_true hv
    subst mj
    obtain⟨_,px⟩:=hr e sz ver l hb
    obtain⟨lX,hx⟩:=px rfl
    simp only[cond_true]
    split
    ·rename_i e2 nI v2 l2 mC
     have mE:i<c'.nx:=by
      simp only[J0,KD,hb,hv,cond_true,mC,V6,Nat.blt_eq]at lY
      omega
     refine .row i v2 len x mE fun e3 zI v3 l3 pi=>?_
     rw[mC]at pi
     cases pi
     refine⟨Nat.le_refl _,fun _=>?_⟩
     obtain⟨b,nh,lu⟩:=h.blk i _ mC
     rw[hb]at nh
     cases nh
     obtain⟨v,lu⟩:=lu
     cases lu
     exact⟨lX,by rw[h.θ];exact hx⟩
    ·rename_i mC
     rw[hx]
     refine .im (HK h hb ?_)
     cases hq:A5 c'.hp i with
     |none=>rfl
     |some b' =>
      obtain⟨b,nh,lu⟩:=h.blk i _ hq
      rw[hb]at nh
      cases nh
      obtain⟨v,rfl⟩:=lu
      exact absurd hq (mC _ _ _ _)
  ·exact .any x
 |mp i r hi hθ =>
  intro lY
  refine .mp i r ?_ (by rw[h.θ];exact hθ)
  simp only[J0,V6,Nat.blt_eq]at lY
  omega
 |sub i ver lo len x hi hr =>
  intro lY
  simp only[J0,KF]
  split
  ·rename_i e sz v1 l hb
   cases hv:Nat.beq ver v1 with
   |false=>exact .any x
   |true =>
    have mj:=Nat.eq_of_beq_eq_true hv
    subst mj
    obtain⟨_,px⟩:=hr e sz ver l hb
    obtain⟨lX,hx⟩:=px rfl
    simp only[cond_true]
    split
    ·rename_i e2 nI v2 l2 mC
     have mE:i<c'.nx:=by
      simp only[J0,KF,hb,hv,cond_true,mC,V6,Nat.blt_eq]at lY
      omega
     refine .sub i v2 lo len x mE fun e3 zI v3 l3 pi=>?_
     rw[mC]at pi
     cases pi
     refine⟨Nat.le_refl _,fun _=>?_⟩
     obtain⟨b,nh,lu⟩:=h.blk i _ mC
     rw[hb]at nh
     cases nh
     obtain⟨v,lu⟩:=lu
     cases lu
     exact⟨lX,by rw[h.θ];exact hx⟩
    ·rename_i mC
     refine .im (iQ (HK h hb ?_) hx lX)
     cases hq:A5 c'.hp i with
     |none=>rfl
     |some b' =>
      obtain⟨b,nh,lu⟩:=h.blk i _ hq
      rw[hb]at nh
      cases nh
      obtain⟨v,rfl⟩:=lu
      exact absurd hq (mC _ _ _ _)
  ·exact .any x
 |elt i ver k off x hi hr =>
  intro lY
  simp only[J0,KE]
  split
  ·rename_i e sz v1 l hb
   cases hv:Nat.beq ver v1 with
   |false=>exact .any x
   |true =>
    have mj:=Nat.eq_of_beq_eq_true hv
    subst mj
    obtain⟨_,px⟩:=hr e sz ver l hb
    obtain⟨g,m,cap,hθ,hx⟩:=px rfl
    simp only[cond_true]
    split
    ·rename_i e2 nI v2 l2 mC
     have mE:i<c'.nx:=by
      simp only[J0,KE,hb,hv,cond_true,mC,V6,Nat.blt_eq]at lY
      omega
     refine .elt i v2 k off x mE fun e3 zI v3 l3 pi=>?_
     rw[mC]at pi
     cases pi
     refine⟨Nat.le_refl _,fun _=>?_⟩
     obtain⟨b,nh,lu⟩:=h.blk i _ mC
     rw[hb]at nh
     cases nh
     obtain⟨v,lu⟩:=lu
     cases lu
     exact⟨g,m,cap,by rw[h.θ];exact hθ,hx⟩
    ·rename_i mC
     split
     ·rename_i el lU
      have hn:A5 c'.hp i=none:=by
       cases hq:A5 c'.hp i with
       |none=>rfl
       |some b' =>
        obtain⟨b,nh,lu⟩:=h.blk i _ hq
        rw[hb]at nh
        cases nh
        obtain⟨v,rfl⟩:=lu
        exact absurd hq (mC _ _ _ _)
      have mY:=HK h hb hn
      rw[hθ]at mY
      cases mY with
      |sl sz l a mn f mV hm hu hsz hc hh =>
       have oq:k<l.length:=(List.getElem?_eq_some_iff.1 lU).1
       have si:=hsz el (List.mem_of_getElem? lU)
       rw[hx]
       refine .im (.iptr _ _ (fun j=>f k (off+j)) (fun hne=>?_) (fun j hj=>?_) (fun j u oo=>?_))
       ·have h1:=List.length_pos_iff.2 hne
        rw[List.length_drop]at h1
        exact hu (by intro e;subst e;simp at oq) (by omega)
       ·rw[List.length_drop]at hj
        have:=hc k oq (off+j) (by omega)
        rw[H3]at this ⊢
        rw[←this]
        congr 2
        omega
       ·rw[List.getElem?_drop]at oo
        exact hh k el lU (off+j) u oo
     ·exact .any x
  ·exact .any x
theorem J5.cv{E:Env}{n:Nat}{θ:Th}{σ σ':St}{a:Act}{w:World}(h:J5 E n θ σ a w)(h0:E.n0≤σ'.nx)
  (hs:∀s x',look σ'.sl s=some x'→∃x,look σ.sl s=some x∧J0 σ.hp σ'.hp x=x'∧(σ.nx≤σ'.nx∨V6 σ'.nx x'=true))
  (hb:∀i b',A5 σ'.hp i=some b'→(σ.nx≤σ'.nx∨i<σ'.nx)∧∃b,A5 σ.hp i=some b∧Fe σ.hp σ'.hp b b'∧(σ.nx≤σ'.nx∨∀τ l,b'=.bx τ l→U4 σ'.nx l=true)):J5 E n θ σ' a w:=by
 have sub:(cx E θ σ w).sub (cx E θ σ' w):=⟨rfl,rfl,fun _ h=>h,fun i b' hi=>by
  obtain⟨_,b,h1,h2,_⟩:=hb i b' hi
  exact⟨b,h1,h2⟩,h.apart,fun i b k hi hk=>(h.mine i b k hi hk).1,fun i b hi=>(h.owns i b hi).2⟩
 refine⟨h.size,h.defers,h.fr,fun s x' hx=>?_,fun i b' hi=>?_,fun i j b1 b2 k hi hj=>?_,fun i b' k hi=>?_,h.X,⟨h0,fun i hi=>(h.base.2 i hi).imp id fun ⟨h1,h2⟩=>⟨h1,fun ⟨e',sz,v,l,hl,hk⟩=>h2 (by
  obtain⟨_,b,g1,g2,_⟩:=hb i _ hl
  cases b with
  |bx _ _=>cases g2
  |map _=>cases g2
  |it _ _=>cases g2
  |row e1 sz1 v1 l1 =>
   obtain⟨v2,g3⟩:=g2
   cases g3
   exact⟨_,_,_,_,g1,hk⟩)⟩⟩⟩
 ·obtain⟨x,h1,rfl,h2⟩:=hs s x' hx
  exact Iu sub (h.slots s x h1) h2
 ·obtain⟨h0,b,h1,h2,h3⟩:=hb i b' hi
  obtain⟨h4,h5⟩:=h.owns i b h1
  refine⟨h0.elim (fun h=>by omega) id,?_⟩
  cases b with
  |bx τ l =>
   simp only[Fe]at h2
   subst h2
   obtain⟨b',mG,T,e1,e2,e3,e4⟩:=h5
   refine⟨b',mG,T,e1,e2,by rw[P5,List.length_map];exact e3,fun j u z hu hz=>?_⟩
   rw[P5]at hu h3
   have mN:=List.mem_of_getElem? hu
   simp only[List.getElem?_map,Option.map_eq_some_iff]at hu
   obtain⟨u0,nd,rfl⟩:=hu
   exact Iu sub (e4 j u0 z nd hz) (h3.imp id fun h=>Ax (h _ _ rfl) _ mN)
  |row e sz v l =>
   obtain⟨v2,rfl⟩:=h2
   obtain⟨xs,e1,e2,e3,e4⟩:=h5
   exact⟨xs,e1,e2,(fun k el hk j x hx=>by
    obtain⟨y,hy,hi⟩:=e3 k el hk j x hx
    exact⟨y,hy,sub.im hi⟩),fun hne=>⟨(e4 hne).1,fun k el hk j e' lb l' hj=>by
    obtain⟨g,m,cap,y,ys,q1,q2,q3,q4,q5,q6,q7⟩:=(e4 hne).2 k el hk j e' lb l' hj
    exact⟨g,m,cap,y,ys,q1,q2,q3,q4,q5,fun q mx hq j' x hx=>by
     obtain⟨z,hz,hi⟩:=q6 q mx hq j' x hx
     exact⟨z,hz,sub.im hi⟩,q7⟩⟩⟩
  |map m =>
   simp only[Fe]at h2
   subst h2
   obtain⟨r,es,clock,e1,e2,e3,e4⟩:=h5
   exact⟨r,es,clock,e1,e2,e3,fun j q e hj he=>⟨(e4 j q e hj he).1,sub.im (e4 j q e hj he).2⟩⟩
  |it t p =>
   simp only[Fe]at h2
   subst h2
   exact h5
 ·intro nr lg
  obtain⟨_,b1',h1,g1,_⟩:=hb i b1 hi
  obtain⟨_,b2',h2,g2,_⟩:=hb j b2 hj
  exact h.apart i j _ _ k h1 h2 (FP.cv g1 nr) (FP.cv g2 lg)
 ·intro hk
  obtain⟨_,b1',h1,g1,_⟩:=hb i b' hi
  exact h.mine i _ k h1 (FP.cv g1 hk)
def Rt(m:Nat):List (Nat×AV)→Bool
 |[]=>true
 |(_,x)::r=>V6 m x && Rt m r
def K9(m:Nat):Hp→Bool
 |[]=>true
 |(i,some (.bx _ l))::r=>Nat.blt i m && U4 m l && K9 m r
 |(i,_)::r=>Nat.blt i m && K9 m r
theorem Pb{m:Nat}:∀{l:List (Nat×AV)} {s:Nat} {x:AV},Rt m l=true→look l s=some x→V6 m x=true
 |[],s,x,_,h=>by cases h
 |(s0,x0)::r,s,x,hs,h=>by
  simp only[Rt,Bool.and_eq_true]at hs
  rw[E6]at h
  by_cases e:s0=s
  ·subst e;rw[if_pos rfl]at h;cases h;exact hs.1
  ·rw[if_neg e]at h;exact Pb hs.2 h
theorem CW{m:Nat}:∀{l:Hp} {i:Nat} {b:C6},K9 m l=true→A5 l i=some b→i<m∧∀τ c,b=.bx τ c→U4 m c=true
 |[],i,b,_,h=>by cases h
 |(i0,b0)::r,i,b,hs,h=>by
  rw[G4]at h
  have mg:Nat.blt i0 m=true∧(∀τ c,b0=some (.bx τ c)→U4 m c=true)∧K9 m r=true:=by
   match b0,hs with
   |some (.bx τ c),hs=>simp only[K9,Bool.and_eq_true]at hs;exact⟨hs.1.1,(fun _ c' e=>by cases e;exact hs.1.2),hs.2⟩
   |some (.row ..),hs=>simp only[K9,Bool.and_eq_true]at hs;exact⟨hs.1,(fun _ c' e=>by cases e),hs.2⟩
   |some (.map ..),hs=>simp only[K9,Bool.and_eq_true]at hs;exact⟨hs.1,(fun _ c' e=>by cases e),hs.2⟩
   |some (.it ..),hs=>simp only[K9,Bool.and_eq_true]at hs;exact⟨hs.1,(fun _ c' e=>by cases e),hs.2⟩
   |none,hs=>simp only[K9,Bool.and_eq_true]at hs;exact⟨hs.1,(fun _ c' e=>by cases e),hs.2⟩
  by_cases e:i0=i
  ·subst e
   rw[if_pos rfl]at h
   subst h
   exact⟨Nat.blt_eq▸mg.1,fun τ c hc=>mg.2.1 τ c (by rw[hc])⟩
  ·rw[if_neg e]at h;exact CW mg.2.2 h
def HL(σ:St)(h':Hp):List (Nat×AV)→Prop
 |[]=>True
 |(s,x)::r=>(look σ.sl s).map (J0 σ.hp h')=some x∧HL σ h' r
def ER(σ:St)(h':Hp):Hp→Prop
 |[]=>True
 |(_,none)::r=>ER σ h' r
 |(i,some b)::r=>(match A5 σ.hp i with
  |some b0=>Fe σ.hp h' b0 b
  |none=>False)∧ER σ h' r
theorem HL.look{σ:St}{h':Hp}:∀{l:List (Nat×AV)} {s:Nat} {x:AV},HL σ h' l→look l s=some x→(look σ.sl s).map (J0 σ.hp h')=some x
 |[],s,x,_,h=>by cases h
 |(s0,x0)::r,s,x,hs,h=>by
  rw[E6]at h
  by_cases e:s0=s
  ·subst e;rw[if_pos rfl]at h;cases h;exact hs.1
  ·rw[if_neg e]at h;exact HL.look hs.2 h
theorem ER.look{σ:St}{h':Hp}:∀{l:Hp} {i:Nat} {b:C6},ER σ h' l→A5 l i=some b→∃b0,A5 σ.hp i=some b0∧Fe σ.hp h' b0 b
 |[],i,b,_,h=>by cases h
 |(i0,none)::r,i,b,hs,h=>by
  rw[G4]at h
  by_cases e:i0=i
  ·subst e;rw[if_pos rfl]at h;cases h
  ·rw[if_neg e]at h;exact ER.look (l:=r) hs h
 |(i0,some b0)::r,i,b,hs,h=>by
  rw[G4]at h
  by_cases e:i0=i
  ·subst e
   rw[if_pos rfl]at h
   cases h
   have h1:=hs.1
   split at h1
   ·rename_i b1 nD;exact⟨b1,nD,h1⟩
   ·exact h1.elim
  ·rw[if_neg e]at h;exact ER.look hs.2 h
theorem A9{E:Env}{n m:Nat}{σ σ':St}(h0:E.n0=m)(hm:Nat.ble m σ'.nx=true)(hs:HL σ σ'.hp σ'.sl)(hh:ER σ σ'.hp σ'.hp)(hn:Nat.ble σ'.nx σ.nx=true)(hl:Rt σ'.nx σ'.sl=true)(hb:K9 σ'.nx σ'.hp=true):St.le E n σ σ':=by
 rintro a w ⟨θ,h⟩
 refine⟨θ,h.cv (h0▸Nat.ble_eq▸hm) (fun s x' hx=>?_) (fun i b' hi=>?_)⟩
 ·have:=HL.look hs hx
  rw[Option.map_eq_some_iff]at this
  obtain⟨x,h1,h2⟩:=this
  exact⟨x,h1,h2,.inr (Pb hl hx)⟩
 ·obtain⟨b0,h1,h2⟩:=ER.look hh hi
  obtain⟨h3,h4⟩:=CW hb hi
  exact⟨.inr h3,b0,h1,h2,.inr h4⟩
def As(f:AV→AV):List (Nat×AV)→List (Nat×AV)
 |[]=>[]
 |(s,x)::r=>(s,f x)::As f r
def Ay(i:Nat):Hp→Hp
 |[]=>[]
 |(k,b)::r=>cond (Nat.beq k i) (Ay i r) ((k,b)::Ay i r)
def Ff(f:AV→AV):Hp→Hp
 |[]=>[]
 |(k,some (.bx τ l))::r=>(k,some (.bx τ (l.map f)))::Ff f r
 |(k,b)::r=>(k,b)::Ff f r
theorem Cn(f:AV→AV):∀(l:List (Nat×AV)) (s:Nat),look (As f l) s=(look l s).map f
 |[],s=>rfl
 |(k,x)::r,s=>by
  simp only[As,E6]
  by_cases e:k=s
  ·simp[e]
  ·simp[e,Cn f r s]
theorem Co(i:Nat):∀(l:Hp) (j:Nat),A5 (Ay i l) j=if i=j then none else A5 l j
 |[],j=>by simp[Ay,A5,look]
 |(k,b)::r,j=>by
  simp only[Ay]
  cases h:Nat.beq k i with
  |true =>
   have:=Nat.eq_of_beq_eq_true h
   subst this
   rw[cond_true,Co k r j,G4]
   by_cases e:k=j<;>simp[e]
  |false =>
   have hne:k≠i:=by intro e;subst e;simp at h
   rw[cond_false,G4,G4,Co i r j]
   by_cases e:k=j
   ·subst e;simp[Ne.symm hne]
   ·simp[e]
def EI(f:AV→AV):C6→C6
 |.bx τ l=>.bx τ (l.map f)
 |b=>b
theorem GN(f:AV→AV):∀(l:Hp) (j:Nat),A5 (Ff f l) j=(A5 l j).map (EI f)
 |[],j=>by simp[Ff,A5,look]
 |(k,b)::r,j=>by
  have:Ff f ((k,b)::r)=(k,b.map (EI f))::Ff f r:=by
   cases b with
   |none=>rfl
   |some b=>cases b<;>rfl
  rw[this,G4,G4,GN f r j]
  by_cases e:k=j<;>simp[e]
def St.frz(σ:St)(i:Nat):St :=
 let h':=Ay i σ.hp
 { sl:=As (J0 σ.hp h') σ.sl,nx:=σ.nx,hp:=Ff (J0 σ.hp h') h' }
theorem Ug{h h1 h2:Hp}(e:∀j,(A5 h2 j)=(A5 h1 j).map (EI (J0 h h1)))(i v len:Nat):KD h h2 i v len=KD h h1 i v len:=by
 unfold KD
 rw[e i]
 cases A5 h1 i with
 |none=>rfl
 |some b=>cases b<;>rfl
theorem Uh{h h1 h2:Hp}(e:∀j,(A5 h2 j)=(A5 h1 j).map (EI (J0 h h1)))(i v k off:Nat):KE h h2 i v k off=KE h h1 i v k off:=by
 unfold KE
 rw[e i]
 cases A5 h1 i with
 |none=>rfl
 |some b=>cases b<;>rfl
theorem Ui{h h1 h2:Hp}(e:∀j,(A5 h2 j)=(A5 h1 j).map (EI (J0 h h1)))(i v k off:Nat):KF h h2 i v k off=KF h h1 i v k off:=by
 unfold KF
 rw[e i]
 cases A5 h1 i with
 |none=>rfl
 |some b=>cases b<;>rfl
theorem Uj{h h1 h2:Hp}(e:∀j,(A5 h2 j)=(A5 h1 j).map (EI (J0 h h1)))(i off:Nat):Ml h h2 i off=Ml h h1 i off:=by
 unfold Ml
 rw[e i]
 cases A5 h1 i with
 |none=>rfl
 |some b=>cases b<;>rfl
mutual
theorem Iv{h h1 h2:Hp}(e:∀j,(A5 h2 j)=(A5 h1 j).map (EI (J0 h h1))):∀a,J0 h h2 a=J0 h h1 a
 |.row i v len=>by simp only[J0];exact Ug e i v len
 |.elt i v k off=>by simp only[J0];exact Uh e i v k off
 |.sub i v k off=>by simp only[J0];exact Ui e i v k off
 |.ref i off=>by simp only[J0];exact Uj e i off
 |.agg l=>by simp only[J0];rw[CX e l]
 |.tup l=>by simp only[J0];rw[CX e l]
 |.fo f l=>by simp only[J0];rw[CX e l]
 |.any=>rfl
 |.v _=>rfl
 |.str _=>rfl
 |.iptr _=>rfl
 |.sl _ _=>rfl
 |.mp _=>rfl
 |.fn _ _=>rfl
 |.err=>rfl
 |.own _ _ _=>rfl
theorem CX{h h1 h2:Hp}(e:∀j,(A5 h2 j)=(A5 h1 j).map (EI (J0 h h1))):∀l,Cm h h2 l=Cm h h1 l
 |[]=>rfl
 |x::r=>by simp only[Cm];rw[Iv e x,CX e r]
end
theorem Gg{E:Env}{n:Nat}{σ:St}(i:Nat):St.le E n σ (σ.frz i):=by
 rintro a w ⟨θ,h⟩
 have e:∀j,A5 (σ.frz i).hp j=(A5 (Ay i σ.hp) j).map (EI (J0 σ.hp (Ay i σ.hp))):=fun j=>GN _ _ _
 refine⟨θ,h.cv h.base.1 (fun s x' hx=>?_) (fun j b' hj=>?_)⟩
 ·have oE:(look σ.sl s).map (J0 σ.hp (Ay i σ.hp))=some x':=by rw[←Cn];exact hx
  rw[Option.map_eq_some_iff]at oE
  obtain⟨x,h1,h2⟩:=oE
  exact⟨x,h1,by rw[Iv e];exact h2,.inl (Nat.le_refl _)⟩
 ·refine⟨.inl (Nat.le_refl _),?_⟩
  rw[e j,Option.map_eq_some_iff]at hj
  obtain⟨b,hb,rfl⟩:=hj
  rw[Co]at hb
  split at hb
  ·cases hb
  ·refine⟨b,hb,?_,.inl (Nat.le_refl _)⟩
   cases b with
   |bx τ l=>simp only[Fe,EI,CX e,P5]
   |row e sz v l=>exact⟨v,rfl⟩
   |map m=>rfl
   |it _ _=>rfl
def Cp:List Nat→Hp→Hp
 |[],h=>h
 |i::r,h=>Cp r (Ay i h)
theorem Kp:∀(is:List Nat) (h:Hp) (j:Nat),A5 (Cp is h) j=none∨A5 (Cp is h) j=A5 h j
 |[],h,j=>.inr rfl
 |i::r,h,j=>by
  rcases Kp r (Ay i h) j with e|e
  ·exact .inl e
  ·rw[Cp,e,Co]
   by_cases sE:i=j
   ·exact .inl (by rw[if_pos sE])
   ·exact .inr (by rw[if_neg sE])
mutual
def Fg:AV→Bool
 |.v _|.str _|.err=>true
 |.agg l|.tup l=>Mm l
 |.sl _ []=>true
 |_=>false
def Mm:List AV→Bool
 |[]=>true
 |x::r=>Fg x && Mm r
end
theorem HM:∀{l:List AV},Mm l=true→∀x∈l,Fg x=true
 |[],_,x,hx=>by cases hx
 |y::r,h,x,hx=>by
  simp only[Mm,Bool.and_eq_true]at h
  rcases List.mem_cons.1 hx with rfl|hx
  ·exact h.1
  ·exact HM h.2 x hx
theorem fB{U U':Nat→Prop}{w:World}{a:AV}{v:Value}(h:Im U w a v):Fg a=true→Im U' w a v:=by
 induction h with
 |v x=>intro _;exact .v x
 |str l=>intro _;exact .str l
 |agg l cs hl h ih=>intro hf;exact .agg l cs hl fun j x c hx hc=>ih j x c hx hc (HM (by simpa [Fg]using hf) x (List.mem_of_getElem? hx))
 |tup l cs hl h ih=>intro hf;exact .tup l cs hl fun j x c hx hc=>ih j x c hx hc (HM (by simpa [Fg]using hf) x (List.mem_of_getElem? hx))
 |fn f l cs hl h ih=>intro hf;cases hf
 |iptr l a f hu hc h ih=>intro hf;cases hf
 |err t p=>intro _;exact .err t p
 |any x=>intro _;exact .any x
 |own e sz l x=>intro _;exact .own e sz l x
 |slnil sz=>intro _;exact .slnil sz
 |sl sz l a cap f mV hm hu hsz hc h ih =>
  intro hf
  cases l with
  |nil=>exact .sl sz [] a cap f mV hm (fun h=>absurd rfl h) hsz hc (fun i e he=>by simp at he)
  |cons x r=>cases hf
theorem Ru{P:Program}{E:Env}{nx:Nat}{hp:Hp}{ev:Operand→Option AV}{ty:TypeId}{f:Nat}{xs:List Operand}{args caps L:List AV}{r:AV}{ts:Array TypeId}{g:Operand}(is:List Nat)(hc:A3 P f (L++caps) r)(ha:l8 ev xs=some args)
  (hL:Cm hp (Cp is hp) args=L) (ly:I8 L=true) (nB:Fg r=true)
  (hg:∀θ a w,y9 E θ nx hp ev a w→∃cs:List Value,a.eval g=.func (.func f) #[] cs.toArray∧caps.length=cs.length∧∀(j:Nat) x c,caps[j]?=some x→cs[j]?=some c→Im (kx E θ nx hp w).U w x c) :
  G7 P E nx hp ev (.call ⟨.value g,xs.toArray,ts⟩) ty r:=by
 intro d pos after θ a w K hs hk
 obtain⟨hl,hr⟩:=CF hs xs args ha
 obtain⟨cs,oM,pC,nA⟩:=hg θ a w hs
 unfold Ii
 rw[Rh hc.1 oM]
 let h':=Cp is hp
 let H:=Ff (J0 hp h') h'
 have e:∀j,A5 H j=(A5 h' j).map (EI (J0 hp h')):=fun j=>GN _ _ _
 have sub:(kx E θ nx hp w).sub (kx E θ nx H w):=⟨rfl,rfl,fun _ h=>h,fun j b' hj=>by
  have lw:A5 H j=some b':=hj
  rw[e j,Option.map_eq_some_iff]at lw
  obtain⟨b,hb,rfl⟩:=lw
  rcases Kp is hp j with h|h
  ·have nh:A5 (Cp is hp) j=some b:=hb
   rw[h]at nh;cases nh
  ·have nh:A5 (Cp is hp) j=some b:=hb
   rw[h]at nh
   refine⟨b,nh,?_⟩
   cases b with
   |bx τ l=>simp only[Fe,EI,kx,CX e,P5]
   |row e sz v l=>exact⟨v,rfl⟩
   |map m=>rfl
   |it _ _=>rfl,hs.apart,hs.fresh,fun i b hi=>(hs.owns i b hi).2⟩
 have hX:=hc.2 (kx E θ nx H w).U w (xs.map a.eval++cs) (fun k hk=>hs.Ult k (sub.U k hk)) (hs.tab.mono (fun k _ hk=>sub.U k hk) fun _ _ _=>rfl) (by simp only[List.length_append,←hL,P5,List.length_map,hl,pC]) fun j av v hj hv=>by
  have xv:L.length=xs.length:=by rw[←hL,P5,List.length_map,hl]
  rw[List.getElem?_append]at hj hv
  have e1:(xs.map a.eval).length=L.length:=by simp[xv]
  rw[e1]at hv
  split at hj
  ·rename_i lY
   rw[if_pos lY]at hv
   have sF:=U0 ly av (List.mem_of_getElem? hj)
   rw[←hL,P5,List.getElem?_map,Option.map_eq_some_iff]at hj
   obtain⟨a0,yL,rfl⟩:=hj
   have h1:=Iu sub (hr j a0 v yL hv) (.inl (Nat.le_refl _))
   have h2:J0 (kx E θ nx hp w).hp (kx E θ nx H w).hp a0=J0 hp (Cp is hp) a0:=Iv (h:=hp) (h1:=h') (h2:=H) e a0
   rw[h2]at h1
   exact sF.im h1
  ·rename_i lY
   rw[if_neg lY]at hv
   exact sub.im (nA _ av v hj hv)
 rw[←List.append_toArray]at hX
 refine Calls.mono hX ?_
 rintro e w' ⟨v,rfl,hv,hb⟩
 exact⟨v,rfl,hk v w' hb (.im (fB hv nB))⟩
structure G5(p A:Prop):Prop where
 h:p
 k:A
structure P2{α:Type}(l:List α)(i:Int)(F:α→Prop):Prop where
 h0:0≤i
 h:i<l.length
 k:∀el,l[i.toNat]?=some el→F el
structure iR(a:AV)(F:AV→Prop):Prop where
 h:F a
theorem RE{a b:AV}{F:AV→Prop}(e:a=b)(h:F b):iR a F:=⟨e▸h⟩
structure OU{α:Type}(l:List α)(F:Nat→Prop):Prop where
 k:F l.length
structure Bx(b:Bool)(A B:Prop):Prop where
 t:b=true→A
 f:b=false→B
structure RF(P:Program)(f:Nat)(args:List AV)(F:AV→Prop):Prop where
 h:∃r,A3 P f args r∧F r
structure kB(P:Program)(f:Nat)(hp:Hp)(l caps:List AV)(F:AV→Prop):Prop where
 h:∃(is:List Nat) (L:List AV) (r:AV),Cm hp (Cp is hp) l=L∧I8 L=true∧A3 P f (L++caps) r∧Fg r=true∧F r
structure Ld(P:Program)(T:Nat)(F:Bool→Nat→Prop):Prop where
 h:∃ag sz,G6 P T ag sz∧F ag sz
structure Wx(P:Program)(T:Nat)(F:List AV→Prop):Prop where
 h:∃l,I2 P T l∧F (l.map b6)
structure OV(P:Program)(S f:Nat)(F:Nat→Nat→Prop):Prop where
 h:∃off sz,D9 P S f off sz∧F off sz
structure IX(P:Program)(T:Nat)(F:Nat→Nat→Prop):Prop where
 h:∃e sz,L8 P T e sz∧F e sz
structure bh(P:Program)(T:Nat)(F:Nat→Nat→Prop):Prop where
 h:∃len e sz,LZ P T len e sz∧F len sz
structure eQ(P:Program)(T:Nat)(A:Prop):Prop where
 [h:Yu P T]
 k:A
structure Dq(P:Program)(T:Nat)(A:Prop):Prop where
 h:j8 P T
 k:A
structure Gh(P:Program)(T:Nat)(A:Prop):Prop where
 h:Ep P T
 k:A
structure Mn(P:Program)(T:Nat)(k1 k2:IntKind)(A:Prop):Prop where
 h:HF P T k1 k2
 k:A
structure HN(P:Program)(T:Nat)(k:IntKind)(A:Prop):Prop where
 h:Ek P T k
 k:A
structure Mo(P:Program)(T:Nat)(k1 k2 k3:IntKind)(A:Prop):Prop where
 h:KC P T k1 k2 k3
 k:A
structure Mp(P:Program)(T:Nat)(A:Prop):Prop where
 h:KB P T
 k:A
structure Iw(P:Program)(T:Nat)(F:List AV→List (Nat×Nat)→Prop):Prop where
 h:∃zs pl,I2 P T zs∧L4 P T pl∧F (zs.map b6) pl
structure Ey(P:Program)(T:Nat)(F:Nat→Nat→Nat→List AV→Prop):Prop where
 h:∃e sz bs z,L8 P T e sz∧I2 P e z∧O3 P e bs∧z.length=sz∧F e sz bs (z.map b6)
structure Wy(P:Program)(T:Nat)(F:TypeDesc→AV→Prop):Prop where
 h:∃k e t z,EQ P T k e t z∧F t (b6 z)
inductive Mq (P:Program) (S T:Nat):AV→AV→Prop
 |bytes {e sz:Nat} (l:List UInt8) [j8 P S] [L8 P T e sz] [R9 P e .u8] (h:l.length≤9223372036854775807):Mq P S T (.str l) (.sl 1 (l.map fun b=>[.v (.int .u8 b.toNat)]))
 |back {e sz:Nat} (l:List UInt8) [L8 P S e sz] [R9 P e .u8] [j8 P T]:Mq P S T (.sl 1 (l.map fun b=>[.v (.int .u8 b.toNat)])) (.str l)
 |int {k k':IntKind} (m:Int) [R9 P T k] [R9 P S k']:Mq P S T (.v (.int k' m)) (.v (.int k (k.wrap m)))
 |rune {k:IntKind} (m:Int) [R9 P S k] [j8 P T]:Mq P S T (.v (.int k m)) (.str (Utf8.encode m).data.toList)
structure BS(P:Program)(S T:Nat)(a:AV)(F:AV→Prop):Prop where
 h:∃r,Mq P S T a r∧F r
theorem I4{p A:Prop}(h:p)(k:A):G5 p A:=⟨h,k⟩
theorem Az{α β:Type}{l:List β}{f:β→α}{k:Nat}{F:α→Prop}(h:k<l.length)(kk:∀x,l[k]?=some x→F (f x)):P2 (l.map f) (k:Int) F :=
 ⟨by omega,by simpa using h,fun el lU=>by
  simp at lU
  obtain⟨u,hu,rfl⟩:=lU
  exact kk u hu⟩
theorem o8{α β:Type}{l:List β}{f:β→α}{i:Int}{F:α→Prop}(h0:0≤i)(h:i<l.length)(kk:∀x,l[i.toNat]?=some x→F (f x)):P2 (l.map f) i F :=
 ⟨h0,by simpa using h,fun el lU=>by
  simp at lU
  obtain⟨u,hu,rfl⟩:=lU
  exact kk u hu⟩
theorem ZL{α:Type}{l:List α}{i:Int}{F:α→Prop}(h0:0≤i)(h:i<l.length)(kk:∀x,l[i.toNat]?=some x→F x):P2 l i F:=⟨h0,h,kk⟩
theorem ES{α:Type}{l:List α}{i:Int}{x:α}{F:α→Prop}(h:l[i.toNat]?=some x)(h0:0≤i)(kk:F x):P2 l i F:=by
 have h1:=(List.getElem?_eq_some_iff.1 h).1
 exact⟨h0,by omega,fun el lU=>by rw[h]at lU;cases lU;exact kk⟩
theorem A2{α β:Type}{l:List β}{f:β→α}{i:Int}{x:β}{F:α→Prop}(h:l[i.toNat]?=some x)(h0:0≤i)(kk:F (f x)):P2 (l.map f) i F :=
 ES (by simp[h]) h0 kk
theorem fC{α:Type}{l:List α}{i:Int}{x:α}{F:α→Prop}(h:l[i.toNat]?=some x)(h0:decide (0≤i)=true)(kk:F x):P2 l i F:=by
 have h1:=(List.getElem?_eq_some_iff.1 h).1
 have h2:=of_decide_eq_true h0
 exact⟨h2,by omega,fun el lU=>by rw[h]at lU;cases lU;exact kk⟩
theorem fD{α β:Type}{l:List β}{f:β→α}{F:Nat→Prop}(k:F l.length):OU (l.map f) F:=⟨by rw[List.length_map];exact k⟩
theorem kC{α:Type}{l:List α}{F:Nat→Prop}(k:F l.length):OU l F:=⟨k⟩
theorem iS{A B:Prop}(k:A):Bx true A B:=⟨fun _=>k,fun h=>by cases h⟩
theorem iT{A B:Prop}(k:B):Bx false A B:=⟨(fun h=>by cases h),fun _=>k⟩
theorem iU{p A B:Prop}[Decidable p](h1:p→A)(h2:¬p→B):Bx (decide p) A B:=⟨fun h=>h1 (of_decide_eq_true h),fun h=>h2 (of_decide_eq_false h)⟩
theorem fE{p A B:Prop}[Decidable p](h1:¬p→A)(h2:p→B):Bx (!decide p) A B:=⟨fun h=>h1 (by simpa using h),fun h=>h2 (by simpa using h)⟩
theorem iV{b:Bool}{A B:Prop}(h1:b=true→A)(h2:b=false→B):Bx b A B:=⟨h1,h2⟩
theorem fF{b:Bool}{A B:Prop}(h1:b=false→A)(h2:b=true→B):Bx (!b) A B:=⟨(fun h=>h1 (by simpa using h)),fun h=>h2 (by simpa using h)⟩
theorem A1{P:Program}{f:Nat}{args:List AV}{r:AV}{F:AV→Prop}(h:A3 P f args r)(k:F r):RF P f args F:=⟨⟨r,h,k⟩⟩
theorem kD{P:Program}{T:Nat}{ag:Bool}{sz:Nat}{F:Bool→Nat→Prop}[h:G6 P T ag sz](k:F ag sz):Ld P T F:=⟨⟨ag,sz,h,k⟩⟩
theorem iW{P:Program}{T:Nat}{l:List Value}{F:List AV→Prop}[h:I2 P T l](k:F (l.map b6)):Wx P T F:=⟨⟨l,h,k⟩⟩
theorem kE{P:Program}{S f off sz:Nat}{F:Nat→Nat→Prop}[h:D9 P S f off sz](k:F off sz):OV P S f F:=⟨⟨off,sz,h,k⟩⟩
theorem ko{P:Program}{T e sz:Nat}{F:Nat→Nat→Prop}[h:L8 P T e sz](k:F e sz):IX P T F:=⟨⟨e,sz,h,k⟩⟩
theorem kF{P:Program}{T len e sz:Nat}{F:Nat→Nat→Prop}[h:LZ P T len e sz](k:F len sz):bh P T F:=⟨⟨len,e,sz,h,k⟩⟩
theorem kp{P:Program}{T:Nat}{A:Prop}[h:Yu P T](k:A):eQ P T A:=⟨k⟩
theorem iX{P:Program}{T:Nat}{A:Prop}[h:j8 P T](k:A):Dq P T A:=⟨h,k⟩
theorem fG{P:Program}{T:Nat}{A:Prop}[h:Ep P T](k:A):Gh P T A:=⟨h,k⟩
theorem kG{P:Program}{T:Nat}{k:IntKind}{A:Prop}[h:Ek P T k](kk:A):HN P T k A:=⟨h,kk⟩
theorem fH{P:Program}{T:Nat}{k1 k2 k3:IntKind}{A:Prop}[h:KC P T k1 k2 k3](k:A):Mo P T k1 k2 k3 A:=⟨h,k⟩
theorem fI{P:Program}{T:Nat}{k1 k2:IntKind}{A:Prop}[h:HF P T k1 k2](k:A):Mn P T k1 k2 A:=⟨h,k⟩
theorem fJ{P:Program}{T:Nat}{A:Prop}[h:KB P T](k:A):Mp P T A:=⟨h,k⟩
theorem fK{P:Program}{T:Nat}{zs:List Value}{pl:List (Nat×Nat)}{F:List AV→List (Nat×Nat)→Prop}[h:I2 P T zs][h2:L4 P T pl](k:F (zs.map b6) pl):Iw P T F:=⟨⟨zs,pl,h,h2,k⟩⟩
theorem kH{P:Program}{T e sz bs:Nat}{z:List Value}{F:Nat→Nat→Nat→List AV→Prop}[h:L8 P T e sz][h2:I2 P e z][h3:O3 P e bs](hz:z.length=sz)(k:F e sz bs (z.map b6)):Ey P T F:=⟨⟨e,sz,bs,z,h,h2,h3,hz,k⟩⟩
theorem kI{P:Program}{T k e:Nat}{t:TypeDesc}{z:Value}{F:TypeDesc→AV→Prop}[h:EQ P T k e t z](kk:F t (b6 z)):Wy P T F:=⟨⟨k,e,t,z,h,kk⟩⟩
theorem Wz{P:Program}{S T e sz:Nat}{l:List UInt8}{F:AV→Prop}[j8 P S][L8 P T e sz][R9 P e .u8](h:l.length≤9223372036854775807)(k:F (.sl 1 (l.map fun b=>[.v (.int .u8 b.toNat)]))):BS P S T (.str l) F:=⟨⟨_,.bytes (e:=e) (sz:=sz) l h,k⟩⟩
theorem ZM{P:Program}{S T e sz:Nat}{l:List UInt8}{F:AV→Prop}[L8 P S e sz][R9 P e .u8][j8 P T](k:F (.str l)):BS P S T (.sl 1 (l.map fun b=>[.v (.int .u8 b.toNat)])) F:=⟨_,.back (e:=e) (sz:=sz) l,k⟩
theorem fL{P:Program}{S T:Nat}{k k':IntKind}{m:Int}{F:AV→Prop}[R9 P T k][R9 P S k'](h:k.wrap m=m)(kk:F (.v (.int k m))):BS P S T (.v (.int k' m)) F:=⟨⟨_,.int (k:=k) m,by rw[h];exact kk⟩⟩
theorem bi{P:Program}{S T:Nat}{k k':IntKind}{m:Int}{F:AV→Prop}[R9 P T k][R9 P S k'](kk:F (.v (.int k (k.wrap m)))):BS P S T (.v (.int k' m)) F:=⟨⟨_,.int (k:=k) m,kk⟩⟩
theorem ZN{P:Program}{S T:Nat}{k:IntKind}{m:Int}{F:AV→Prop}[R9 P S k][j8 P T](kk:F (.str (Utf8.encode m).data.toList)):BS P S T (.v (.int k m)) F:=⟨⟨_,.rune (k:=k) m,kk⟩⟩
theorem cond_false{c:Bool}{A:Prop}(h:cond c A False):c=true∧A:=by
 cases c
 ·exact h.elim
 ·exact⟨rfl,h⟩
def XA:Value→Bool
 |.agg _|.tuple _=>false
 |_=>true
theorem Ix{v:Value}(h:XA v=true):v.oneCell'=true:=by cases v<;>first|rfl|cases h
def Rv(hp:Hp)(a:AV)(A:Prop):Prop :=
 match a with
 |.v x=>cond (XA x) A False
 |.str _|.sl _ _|.iptr _|.ref _ _|.mp _|.fn _ _|.fo _ _=>A
 |.row i ver _=>match A5 hp i with
  |some (.row _ _ v' _)=>G5 (ver=v') A
  |_=>False
 |_=>False
theorem Iy{hp:Hp}{a:AV}{A:Prop}(h:Rv hp a A):One hp a∧A:=by
 unfold Rv at h
 split at h
 ·rename_i x
  obtain⟨h1,h2⟩:=cond_false h
  exact⟨One.v (Ix h1),h2⟩
 ·exact⟨.str _,h⟩
 ·exact⟨.sl _ _,h⟩
 ·exact⟨.iptr _,h⟩
 ·exact⟨.ref _ _,h⟩
 ·exact⟨.mp _,h⟩
 ·exact⟨.fn _ _,h⟩
 ·exact⟨.fo _ _,h⟩
 ·split at h
  ·rename_i hl
   obtain⟨rfl,h⟩:=h
   exact⟨.row hl,h⟩
  ·exact h.elim
 ·exact h.elim
def XB(hp:Hp):List AV→Prop→Prop
 |[],A=>A
 |x::r,A=>Rv hp x (XB hp r A)
theorem Mr{hp:Hp}:∀{l:List AV} {A:Prop},XB hp l A→Ev hp l∧A
 |[],A,h=>⟨trivial,h⟩
 |x::r,A,h=>by
  obtain⟨h1,h2⟩:=Iy h
  obtain⟨h3,h4⟩:=Mr h2
  exact⟨⟨h1,h3⟩,h4⟩
def Rw(hp:Hp)(a:AV)(A:Prop):Prop :=
 match a with
 |.agg _=>A
 |a=>Rv hp a A
theorem Iz{hp:Hp}{a:AV}{A:Prop}(h:Rw hp a A):Fits hp a∧A:=by
 unfold Rw at h
 split at h
 ·exact⟨trivial,h⟩
 ·rename_i hn
  obtain⟨h1,h2⟩:=Iy h
  refine⟨?_,h2⟩
  cases a<;>first|exact h1|exact trivial
def EA(hp:Hp):List (Nat×AV)→Prop→Prop
 |[],A=>A
 |(_,a)::r,A=>Rw hp a (EA hp r A)
theorem o9{hp:Hp}:∀{l:List (Nat×AV)} {A:Prop},EA hp l A→Do hp l∧A
 |[],A,h=>⟨trivial,h⟩
 |(_,x)::r,A,h=>by
  obtain⟨h1,h2⟩:=Iz h
  obtain⟨h3,h4⟩:=o9 h2
  exact⟨⟨h1,h3⟩,h4⟩
def iY(a:AV)(A:Prop):Prop :=
 match a with
 |.v x=>cond (XA x) A False
 |.str _|.sl _ _|.iptr _|.fn _ _=>A
 |_=>False
theorem bk{a:AV}{A:Prop}(h:iY a A):Y6 a∧A:=by
 unfold iY at h
 split at h
 ·obtain⟨h1,h2⟩:=cond_false h
  exact⟨Ix h1,h2⟩
 ·exact⟨trivial,h⟩
 ·exact⟨trivial,h⟩
 ·exact⟨trivial,h⟩
 ·exact⟨trivial,h⟩
 ·exact h.elim
def bm:List AV→Prop→Prop
 |[],A=>A
 |x::r,A=>iY x (bm r A)
def Ms:List (List AV)→Prop→Prop
 |[],A=>A
 |x::r,A=>bm x (Ms r A)
theorem Pc:∀{l:List AV} {A:Prop},bm l A→(∀u∈l,Y6 u)∧A
 |[],A,h=>⟨fun u hu=>by (cases hu),h⟩
 |x::r,A,h=>by
  obtain⟨h1,h2⟩:=bk h
  obtain⟨h3,h4⟩:=Pc h2
  refine⟨fun u hu=>?_,h4⟩
  rcases List.mem_cons.1 hu with rfl|hu
  ·exact h1
  ·exact h3 u hu
theorem ET:∀{l:List (List AV)} {A:Prop},Ms l A→CG l∧A
 |[],A,h=>⟨trivial,h⟩
 |x::r,A,h=>by
  obtain⟨h1,h2⟩:=Pc h
  obtain⟨h3,h4⟩:=ET h2
  exact⟨⟨h1,h3⟩,h4⟩
def W4(x:Option AV)(F:AV→Prop):Prop :=
 match x with
 |some a=>F a
 |none=>False
theorem J6{x:Option AV}{F:AV→Prop}(h:W4 x F):∃a,x=some a∧F a:=by
 unfold W4 at h
 split at h
 ·exact⟨_,rfl,h⟩
 ·exact h.elim
def Rx(op:BinOp)(k:IntKind)(a b:Int)(F:AV→Prop):Prop :=
 match op,k with
 |.add,.i64=>G5 (-9223372036854775808≤a+b∧a+b≤9223372036854775807) (F (.v (.int .i64 (a+b))))
 |.sub,.i64=>G5 (-9223372036854775808≤a-b∧a-b≤9223372036854775807) (F (.v (.int .i64 (a-b))))
 |.mul,.i64=>G5 (-9223372036854775808≤a*b∧a*b≤9223372036854775807) (F (.v (.int .i64 (a*b))))
 |.quo,.i64=>G5 (b≠0∧-9223372036854775808≤a.tdiv b∧a.tdiv b≤9223372036854775807) (F (.v (.int .i64 (a.tdiv b))))
 |.quo,k=>G5 (b≠0) (F (.v (.int k (k.wrap (a.tdiv b)))))
 |.rem,k=>G5 (b≠0) (F (.v (.int k (a.tmod b))))
 |op,k=>match Ci op k a b with
  |some r=>F (.v r)
  |none=>False
def bn(op:BinOp)(a b:List UInt8)(F:AV→Prop):Prop :=
 match op with
 |.add=>G5 (a.length+b.length≤9223372036854775807) (F (.str (a++b)))
 |op=>match Wp op a b with
  |some r=>F (.v r)
  |none=>False
def XC(P:Program)(T:Nat)(op:BinOp)(a b:Bool)(F:AV→Prop):Prop :=
 match op with
 |.eql=>Mp P T (F (.v (.bool (decide (a=b)))))
 |.neq=>Mp P T (F (.v (.bool (decide (a≠b)))))
 |_=>False
def Cq(P:Program)(T:Nat)(op:BinOp)(l m:List AV)(F:AV→Prop):Prop :=
 match op,l,m with
 |.eql,[.v (.int k1 a1),.v (.int k2 a2)],[.v (.int k3 b1),.v (.int k4 b2)]=>cond (decide (k1=k3∧k2=k4)) (Mn P T k1 k2 (F (.v (.bool (decide (a1=b1∧a2=b2)))))) False
 |.neq,[.v (.int k1 a1),.v (.int k2 a2)],[.v (.int k3 b1),.v (.int k4 b2)]=>cond (decide (k1=k3∧k2=k4)) (Mn P T k1 k2 (F (.v (.bool (!decide (a1=b1∧a2=b2)))))) False
 |.eql,[.v (.int k1 a1),.v (.int k2 a2),.v (.int k3 a3)],[.v (.int l1 b1),.v (.int l2 b2),.v (.int l3 b3)]=>cond (decide (k1=l1∧k2=l2∧k3=l3)) (Mo P T k1 k2 k3 (F (.v (.bool (decide (a1=b1∧a2=b2∧a3=b3)))))) False
 |.neq,[.v (.int k1 a1),.v (.int k2 a2),.v (.int k3 a3)],[.v (.int l1 b1),.v (.int l2 b2),.v (.int l3 b3)]=>cond (decide (k1=l1∧k2=l2∧k3=l3)) (Mo P T k1 k2 k3 (F (.v (.bool (!decide (a1=b1∧a2=b2∧a3=b3)))))) False
 |.eql,[.str a1,.v (.int k2 a2)],[.str b1,.v (.int k4 b2)]=>cond (decide (k2=k4)) (HN P T k2 (F (.v (.bool (decide (a1=b1∧a2=b2)))))) False
 |.neq,[.str a1,.v (.int k2 a2)],[.str b1,.v (.int k4 b2)]=>cond (decide (k2=k4)) (HN P T k2 (F (.v (.bool (!decide (a1=b1∧a2=b2)))))) False
 |_,_,_=>False
def Mt:Operand→Bool
 |.const .nilIface=>true
 |_=>false
def Ry(P:Program)(T:Nat)(op:BinOp)(x:Option AV)(F:AV→Prop):Prop :=
 match op,x with
 |.eql,some .err=>Gh P T (F (.v (.bool false)))
 |.neq,some .err=>Gh P T (F (.v (.bool true)))
 |.eql,some (.v .nilIface)=>Gh P T (F (.v (.bool true)))
 |.neq,some (.v .nilIface)=>Gh P T (F (.v (.bool false)))
 |_,_=>False
def Rz(P:Program)(T:Nat)(op:BinOp)(x y:Option AV)(F:AV→Prop):Prop :=
 match op,x,y with
 |.shl,some (.v (.int k a)),some (.v (.int _ b))=>G5 (0≤b) (F (.v (.int k (k.wrap (a*2 ^ (min b.toNat k.bits))))))
 |.shr,some (.v (.int k a)),some (.v (.int _ b))=>G5 (0≤b) (F (.v (.int k (a.fdiv (2 ^ (min b.toNat k.bits))))))
 |op,some (.v (.int k a)),some (.v (.int k' b))=>cond (decide (k=k')) (Rx op k a b F) False
 |op,some (.str s),some (.str t)=>bn op s t F
 |op,some (.v (.bool a)),some (.v (.bool b))=>XC P T op a b F
 |op,some (.agg l),some (.agg m)=>Cq P T op l m F
 |_,_,_=>False
def Mu(P:Program)(T:Nat)(hp:Hp)(x:Option AV)(F:AV→Prop):Prop :=
 match x with
 |some (.ref i off)=>match A5 hp i with
  |some (.bx τ l)=>Ld P T fun ag sz=>cond ag
    (cond (Nat.beq off 0 && Nat.beq l.length sz) (F (.agg l)) (G5 (((l.drop off).take sz).length=sz) (F (.agg ((l.drop off).take sz)))))
    (W4 (l[off]?) F)
  |_=>False
 |some (.iptr l)=>Ld P T fun ag sz=>cond ag
   (cond (Nat.beq l.length sz) (F (.agg l)) (G5 ((l.take sz).length=sz) (F (.agg (l.take sz)))))
   (match l with|av::_=>F av|[]=>False)
 |some (.elt i ver k off)=>match A5 hp i with
  |some (.row _ sz mK l)=>G5 (ver=mK) (P2 l (k:Int) fun el=>Ld P T fun ag szT=>cond ag
    (cond (Nat.beq off 0 && Nat.beq szT sz) (F (.agg el)) False) (W4 (el[off]?) F))
  |_=>False
 |_=>False
def SA(hp:Hp)(off:Nat)(x:Option AV)(F:AV→Prop):Prop :=
 match x with
 |some (.ref i o)=>F (.ref i (o+off))
 |some (.iptr l)=>F (.iptr (l.drop off))
 |some (.elt i ver k o)=>match A5 hp i with
  |some (.row _ _ mK _)=>G5 (ver=mK) (F (.elt i ver k (o+off)))
  |_=>False
 |_=>False
def JA(P:Program)(T:Nat)(hp:Hp)(x y:Option AV)(F:AV→Prop):Prop :=
 match x,y with
 |some (.sl sz l),some (.v (.int _ i))=>IX P T fun _ lb=>cond (Nat.beq sz lb) (P2 l i fun el=>F (.iptr el)) False
 |some (.row r ver len),some (.v (.int _ i))=>match A5 hp r with
  |some (.row _ sz mK _)=>G5 (ver=mK) (IX P T fun _ lb=>cond (Nat.beq sz lb) (G5 (0≤i∧i<len) (F (.elt r ver i.toNat 0))) False)
  |_=>False
 |some (.ref r o),some (.v (.int _ i))=>bh P T fun len sz=>G5 (0≤i∧i<len) (F (.ref r (o+i.toNat*sz)))
 |_,_=>False
def bo(hp:Hp)(x:Option AV)(F:AV→Prop):Prop :=
 match x with
 |some (.ref i o)=>F (.ref i o)
 |some (.iptr l)=>F (.iptr l)
 |some (.elt i ver k o)=>match A5 hp i with
  |some (.row _ _ mK _)=>G5 (ver=mK) (F (.elt i ver k o))
  |_=>False
 |_=>False
def HO(P:Program)(T:Nat)(hp:Hp)(x:Option AV)(F:AV→Prop):Prop :=
 match x with
 |some (.sl _ l)=>IX P T fun _ _=>OU l fun m=>F (.i m)
 |some (.str s)=>Dq P T (F (.i s.length))
 |some (.row r ver len)=>match A5 hp r with
  |some (.row _ _ mK _)=>G5 (ver=mK) (IX P T fun _ _=>F (.i len))
  |_=>False
 |some (.v (.slice none 0 0))=>IX P T fun _ _=>F (.i 0)
 |_=>False
def RG(P:Program)(f:Nat)(hp:Hp)(l caps:List AV)(F:AV→Prop):Prop:=cond (I8 l) (RF P f (l++caps) F) (kB P f hp l caps F)
def Mv(P:Program)(T:Nat)(ev:Operand→Option AV)(x:Option AV)(lo hi:Option Operand)(F:AV→Prop):Prop :=
 match x with
 |some (.str s)=>Dq P T (match Ar ev 0 lo,Ar ev s.length hi with
  |some l,some h=>G5 (0≤l∧l≤h∧h≤s.length) (F (.str ((s.take h.toNat).drop l.toNat)))
  |_,_=>False)
 |some (.sl sz s)=>IX P T fun _ lb=>cond (Nat.beq sz lb) (match Ar ev 0 lo,Ar ev s.length hi with
  |some l,some h=>G5 (0≤l∧l≤h∧h≤s.length) (F (.sl sz ((s.take h.toNat).drop l.toNat)))
  |_,_=>False) False
 |_=>False
def OW(P:Program)(T:Nat)(hp:Hp)(ok:Bool)(x y:Option AV)(F:AV→Prop):Prop :=
 match x,y with
 |some (.mp i),some po=>match A5 hp i,keyOf po with
  |some (.map m),some k=>Wy P T fun t z=>cond (Dp t k) (G5 (s9 t m) (cond ok (iR (.tup [AD m k z,.b (o7 m k).isSome]) F) (iR (AD m k z) F))) False
  |_,_=>False
 |_,_=>False
def Fh(P:Program)(op:Op)(ev:Operand→Option AV)(hp:Hp)(F:AV→Prop):Prop :=
 match op with
 |.move x=>W4 (ev x) F
 |.assign x=>W4 (ev x) F
 |.pick c a b=>match ev c with
  |some (.v (.bool t))=>Bx t (W4 (ev a) F) (W4 (ev b) F)
  |_=>False
 |.binOp op T x y _=>cond (Mt y) (Ry P T op (ev x) F) (Rz P T op (ev x) (ev y) F)
 |.unOp .not _ x=>match ev x with
  |some (.v (.bool b))=>F (.v (.bool (!b)))
  |_=>False
 |.unOp .neg _ x=>match ev x with
  |some (.v (.int .i64 a))=>G5 (-9223372036854775807≤a∧a≤9223372036854775807) (F (.v (.int .i64 (-a))))
  |_=>False
 |.load T x=>Mu P T hp (ev x) F
 |.fieldAddr S x f=>OV P S f fun off sz=>cond (Nat.blt 0 sz) (SA hp off (ev x) F) False
 |.indexAddr T x y=>JA P T hp (ev x) (ev y) F
 |.index T x y=>match ev x,ev y with
  |some (.str s),some (.v (.int _ i))=>Dq P T (P2 s i fun b=>F (.v (.int .u8 b.toNat)))
  |_,_=>False
 |.nilCheck x=>bo hp (ev x) F
 |.convert S T x=>W4 (ev x) fun a=>BS P S T a F
 |.call ⟨.builtin .len,⟨[x]⟩,⟨[T]⟩⟩=>HO P T hp (ev x) F
 |.call ⟨.builtin .min,⟨[x,y]⟩,⟨[_,_]⟩⟩=>match ev x,ev y with
  |some (.v (.int k a)),some (.v (.int k' b))=>cond (decide (k=k')) (F (.v (.int k (min a b)))) False
  |_,_=>False
 |.call ⟨.builtin .max,⟨[x,y]⟩,⟨[_,_]⟩⟩=>match ev x,ev y with
  |some (.v (.int k a)),some (.v (.int k' b))=>cond (decide (k=k')) (F (.v (.int k (max a b)))) False
  |_,_=>False
 |.call ⟨.value (.func f),⟨args⟩,_⟩=>match l8 ev args with
  |some l=>RG P f hp l [] F
  |none=>False
 |.call ⟨.value (.tmp t),⟨args⟩,_⟩=>match ev (.tmp t),l8 ev args with
  |some (.fn f caps),some l=>RG P f hp l caps F
  |_,_=>False
 |.build T ⟨parts⟩=>match Bo ev parts with
  |some ps=>Iw P T fun zs pl=>EA hp ps (W4 ((Bw pl zs ps).map AV.agg) F)
  |none=>False
 |.buildSlice T len ⟨parts⟩=>match Bo ev parts with
  |some ps=>Ey P T fun _ sz _ _=>cond (Cj 0 ps && s8 sz (L9 ps) && Nat.beq ps.length len && Nat.blt 0 sz) (G5 (len*sz≤16777216) (EA hp ps (Ms (L9 ps) (F (.sl sz (L9 ps)))))) False
  |none=>False
 |.lookup T x y ok=>OW P T hp ok (ev x) (ev y) F
 |.slice T x lo hi none=>Mv P T ev (ev x) lo hi F
 |.extract x k=>match ev x with
  |some (.tup l)=>W4 (l[k]?) F
  |_=>False
 |.makeFunc (.func f) ⟨[]⟩ ⟨xs⟩=>match l8 ev xs with
  |some caps=>cond (I8 caps) (F (.fn f caps)) False
  |none=>False
 |_=>False
section sound
variable {P:Program} {E:Env} {nx:Nat} {hp:Hp} {ev:Operand→Option AV} {ty:TypeId} {x y:Operand} {F:AV→Prop} {T T2:TypeId}
theorem iZ{op:BinOp}(h:Rz P T op (ev x) (ev y) F):∃av,G7 P E nx hp ev (.binOp op T x y T2) ty av∧F av:=by
 unfold Rz at h
 split at h
 ·rename_i hx hy;exact⟨_,eN hx hy h.h,h.k⟩
 ·rename_i hx hy;exact⟨_,eO hx hy h.h,h.k⟩
 ·rename_i hx hy
  obtain⟨hk,hq⟩:=cond_false h
  clear h
  have hk:=of_decide_eq_true hk
  subst hk
  unfold Rx at hq
  split at hq
  ·exact⟨_,Dz hx hy (by simp only[Ci,P1 hq.h]),hq.k⟩
  ·exact⟨_,Dz hx hy (by simp only[Ci,P1 hq.h]),hq.k⟩
  ·exact⟨_,Dz hx hy (by simp only[Ci,P1 hq.h]),hq.k⟩
  ·have nC:=RC (P:=P) (E:=E) (nx:=nx) (hp:=hp) (ty:=ty) (T:=T) (T2:=T2) hx hy hq.h.1
   rw[P1 hq.h.2]at nC
   exact⟨_,nC,hq.k⟩
  ·exact⟨_,RC hx hy hq.h,hq.k⟩
  ·exact⟨_,eM hx hy hq.h,hq.k⟩
  ·split at hq
   ·rename_i hr;exact⟨_,Dz hx hy hr,hq⟩
   ·exact hq.elim
 ·rename_i s t hx hy
  unfold bn at h
  split at h
  ·exact⟨_,Yz hx hy h.h,h.k⟩
  ·split at h
   ·rename_i hr;exact⟨_,Yy hx hy hr,h⟩
   ·exact h.elim
 ·rename_i a b hx hy
  unfold XC at h
  split at h
  ·have:=h.h;exact⟨_,RD (T:=T) false hx hy,h.k⟩
  ·have:=h.h;exact⟨_,RD (T:=T) true hx hy,h.k⟩
  ·exact h.elim
 ·rename_i l m hx hy
  unfold Cq at h
  split at h
  ·obtain⟨hk,hq⟩:=cond_false h
   obtain⟨rfl,rfl⟩:=of_decide_eq_true hk
   have:=hq.h;exact⟨_,HH (T:=T) false hx hy,hq.k⟩
  ·obtain⟨hk,hq⟩:=cond_false h
   obtain⟨rfl,rfl⟩:=of_decide_eq_true hk
   have:=hq.h;exact⟨_,HH (T:=T) true hx hy,hq.k⟩
  ·obtain⟨hk,hq⟩:=cond_false h
   obtain⟨rfl,rfl,rfl⟩:=of_decide_eq_true hk
   have:=hq.h;exact⟨_,HJ (T:=T) false hx hy,hq.k⟩
  ·obtain⟨hk,hq⟩:=cond_false h
   obtain⟨rfl,rfl,rfl⟩:=of_decide_eq_true hk
   have:=hq.h;exact⟨_,HJ (T:=T) true hx hy,hq.k⟩
  ·obtain⟨hk,hq⟩:=cond_false h
   obtain rfl:=of_decide_eq_true hk
   have:=hq.h;exact⟨_,Md (T:=T) false hx hy,hq.k⟩
  ·obtain⟨hk,hq⟩:=cond_false h
   obtain rfl:=of_decide_eq_true hk
   have:=hq.h;exact⟨_,Md (T:=T) true hx hy,hq.k⟩
  ·exact h.elim
 ·exact h.elim
theorem bp{op:BinOp}(hy:Mt y=true)(h:Ry P T op (ev x) F):∃av,G7 P E nx hp ev (.binOp op T x y T2) ty av∧F av:=by
 obtain rfl:y=.const .nilIface:=by
  unfold Mt at hy
  split at hy
  ·rfl
  ·cases hy
 unfold Ry at h
 split at h
 ·rename_i hx;have:=h.h;exact⟨_,Re (T:=T) false hx,h.k⟩
 ·rename_i hx;have:=h.h;exact⟨_,Re (T:=T) true hx,h.k⟩
 ·rename_i hx;have:=h.h;exact⟨_,Rf (T:=T) false hx,h.k⟩
 ·rename_i hx;have:=h.h;exact⟨_,Rf (T:=T) true hx,h.k⟩
 ·exact h.elim
theorem fM(h:Mu P T hp (ev x) F):∃av,G7 P E nx hp ev (.load T x) ty av∧F av:=by
 unfold Mu at h
 split at h
 ·rename_i i off hx
  split at h
  ·rename_i l hb
   obtain⟨⟨ag,sz,tv,h⟩⟩:=h
   cases ag with
   |true =>
    change cond (Nat.beq off 0 && Nat.beq l.length sz) _ _ at h
    cases hc:(Nat.beq off 0 && Nat.beq l.length sz)with
    |true =>
     rw[hc]at h
     simp only[Bool.and_eq_true,Nat.beq_eq]at hc
     obtain⟨rfl,hs⟩:=hc
     exact⟨_,Wr (sz:=sz) hx hb hs,h⟩
    |false =>
     rw[hc]at h
     exact⟨_,Gf (sz:=sz) hx hb rfl h.h,h.k⟩
   |false =>
    obtain⟨av,hl,h⟩:=J6 h
    exact⟨_,Wq (sz:=sz) hx hb hl,h⟩
  ·exact h.elim
 ·rename_i l hx
  obtain⟨⟨ag,sz,tv,h⟩⟩:=h
  cases ag with
  |true =>
   change cond (Nat.beq l.length sz) _ _ at h
   cases hc:Nat.beq l.length sz with
   |true =>
    rw[hc]at h
    exact⟨_,Aq (sz:=sz) hx (by rw[←Nat.eq_of_beq_eq_true hc,List.take_length]) (Nat.eq_of_beq_eq_true hc),h⟩
   |false =>
    rw[hc]at h
    exact⟨_,Aq (sz:=sz) hx rfl h.h,h.k⟩
  |false =>
   cases l with
   |nil=>exact h.elim
   |cons av r=>exact⟨_,Kh (sz:=sz) hx,h⟩
 ·rename_i i ver k off hx
  split at h
  ·rename_i e sz mK l hb
   obtain⟨rfl,hq⟩:=h
   obtain⟨h0,h1,hk⟩:=hq
   have lY:k<l.length:=by omega
   have lU:l[k]?=some l[k]:=List.getElem?_eq_getElem lY
   obtain⟨⟨ag,szT,tv,h⟩⟩:=hk l[k] (by rw[Int.toNat_natCast];exact lU)
   cases ag with
   |true =>
    obtain⟨hc,h2⟩:=cond_false h
    simp only[Bool.and_eq_true,Nat.beq_eq]at hc
    obtain⟨rfl,hs⟩:=hc
    exact⟨_,ON hx hb lU hs,h2⟩
   |false =>
    obtain⟨av,hl,h⟩:=J6 h
    exact⟨_,Ws (szT:=szT) hx hb lU hl,h⟩
  ·exact h.elim
 ·exact h.elim
theorem bq{S f off sz:Nat}[tf:D9 P S f off sz](hz:Nat.blt 0 sz=true)(h:SA hp off (ev x) F):∃av,G7 P E nx hp ev (.fieldAddr S x f) ty av∧F av:=by
 unfold SA at h
 split at h
 ·rename_i hx;exact⟨_,Ki (off:=off) (sz:=sz) hx hz,h⟩
 ·rename_i hx;exact⟨_,Ik (off:=off) (sz:=sz) hx hz,h⟩
 ·rename_i hx
  split at h
  ·rename_i hb
   obtain⟨rfl,h⟩:=h
   exact⟨_,UZ (off:=off) (sz:=sz) hx hb hz,h⟩
  ·exact h.elim
 ·exact h.elim
theorem br(h:JA P T hp (ev x) (ev y) F):∃av,G7 P E nx hp ev (.indexAddr T x y) ty av∧F av:=by
 unfold JA at h
 split at h
 ·rename_i hx hy
  obtain⟨⟨e,lb,ts,h⟩⟩:=h
  obtain⟨hz,hq⟩:=cond_false h
  clear h
  have:=Nat.eq_of_beq_eq_true hz
  subst this
  obtain⟨h0,h1,hk⟩:=hq
  rename_i sz l kk i
  have lY:i.toNat<l.length:=by omega
  have lU:l[i.toNat]?=some l[i.toNat]:=List.getElem?_eq_getElem lY
  exact⟨_,MZ (e:=e) hx hy h0 lU,hk _ lU⟩
 ·rename_i hx hy
  split at h
  ·rename_i hb
   obtain⟨rfl,h⟩:=h
   obtain⟨⟨e,lb,ts,h⟩⟩:=h
   obtain⟨hz,hq⟩:=cond_false h
   clear h
   have:=Nat.eq_of_beq_eq_true hz
   subst this
   exact⟨_,Ua (e:=e) hx hb hy hq.h.1 hq.h.2,hq.k⟩
  ·exact h.elim
 ·rename_i hx hy
  obtain⟨⟨len,e,sz,ta,h⟩⟩:=h
  exact⟨_,Ub (e:=e) (sz:=sz) hx hy h.h.1 h.h.2,h.k⟩
 ·exact h.elim
theorem ia(h:bo hp (ev x) F):∃av,G7 P E nx hp ev (.nilCheck x) ty av∧F av:=by
 unfold bo at h
 split at h
 ·rename_i hx;exact⟨_,ZD hx,h⟩
 ·rename_i hx;exact⟨_,Wt hx,h⟩
 ·rename_i hx
  split at h
  ·rename_i hb
   obtain⟨rfl,h⟩:=h
   exact⟨_,ZE hx hb,h⟩
  ·exact h.elim
 ·exact h.elim
theorem ib(h:HO P T hp (ev x) F):∃av,G7 P E nx hp ev (.call ⟨.builtin .len,#[x],#[T]⟩) ty av∧F av:=by
 unfold HO at h
 split at h
 ·rename_i hx
  obtain⟨⟨e,sz,ts,h⟩⟩:=h
  exact⟨_,Rg (e:=e) (sz:=sz) hx,h.k⟩
 ·rename_i hx
  obtain⟨ts,h⟩:=h
  exact⟨_,PU hx,h⟩
 ·rename_i hx
  split at h
  ·rename_i hb
   obtain⟨rfl,h⟩:=h
   obtain⟨⟨e,sz,ts,h⟩⟩:=h
   exact⟨_,ZB (e:=e) (sz:=sz) hx hb,h⟩
  ·exact h.elim
 ·rename_i hx
  obtain⟨⟨e,sz,ts,h⟩⟩:=h
  exact⟨_,PX (e:=e) (sz:=sz) hx,h⟩
 ·exact h.elim
theorem bu{lo hi:Option Operand}(h:Mv P T ev (ev x) lo hi F):∃av,G7 P E nx hp ev (.slice T x lo hi none) ty av∧F av:=by
 unfold Mv at h
 split at h
 ·rename_i hx
  obtain⟨ts,h⟩:=h
  split at h
  ·rename_i hl hh;exact⟨_,Ko hx hl hh h.h.1 h.h.2.1 h.h.2.2,h.k⟩
  ·exact h.elim
 ·rename_i hx
  obtain⟨⟨e,lb,ts,h⟩⟩:=h
  obtain⟨hz,hq⟩:=cond_false h
  clear h
  have:=Nat.eq_of_beq_eq_true hz
  subst this
  split at hq
  ·rename_i hl hh;exact⟨_,Ww (e:=e) hx hl hh hq.h.1 hq.h.2.1 hq.h.2.2,hq.k⟩
  ·exact hq.elim
 ·exact h.elim
theorem ZO{ok:Bool}(h:OW P T hp ok (ev x) (ev y) F):∃av,G7 P E nx hp ev (.lookup T x y ok) ty av∧F av:=by
 unfold OW at h
 split at h
 ·rename_i hx hy
  split at h
  ·rename_i hb hk
   obtain⟨⟨k,e,t,z,tm,h⟩⟩:=h
   obtain⟨zQ,hq⟩:=cond_false h
   cases ok with
   |true=>exact⟨_,Ue (T:=T) hx hb hy hk zQ hq.h,hq.k.h⟩
   |false=>exact⟨_,bf (T:=T) hx hb hy hk zQ hq.h,hq.k.h⟩
  ·exact h.elim
 ·exact h.elim
theorem eR{op:Op}(h:Fh P op ev hp F):∃av,G7 P E nx hp ev op ty av∧F av:=by
 unfold Fh at h
 split at h
 ·obtain⟨a,hx,h⟩:=J6 h;exact⟨a,Yx hx,h⟩
 ·obtain⟨a,hx,h⟩:=J6 h;exact⟨a,Ra hx,h⟩
 ·split at h
  ·rename_i t hc
   obtain⟨h1,h2⟩:=h
   cases t with
   |true=>obtain⟨a,hx,h⟩:=J6 (h1 rfl);exact⟨a,bU hc hx,h⟩
   |false=>obtain⟨a,hx,h⟩:=J6 (h2 rfl);exact⟨a,bV hc hx,h⟩
  ·exact h.elim
 ·rename_i y _
  cases hn:Mt y with
  |true=>rw[hn]at h;exact bp hn h
  |false=>rw[hn]at h;exact iZ h
 ·split at h
  ·rename_i hx;exact⟨_,eP hx,h⟩
  ·exact h.elim
 ·split at h
  ·rename_i a hx
   have h1:=h.h
   refine⟨_,jw hx,?_⟩
   rw[P1 (by omega)]
   exact h.k
  ·exact h.elim
 ·exact fM h
 ·obtain⟨⟨off,sz,tf,h⟩⟩:=h
  obtain⟨hz,h⟩:=cond_false h
  exact bq (off:=off) (sz:=sz) hz h
 ·exact br h
 ·split at h
  ·rename_i s k i hx hy
   obtain⟨ts,h0,h1,hk⟩:=h
   have lY:i.toNat<s.length:=by omega
   have lU:s[i.toNat]?=some s[i.toNat]:=List.getElem?_eq_getElem lY
   exact⟨_,Kj hx hy h0 lU,hk _ lU⟩
  ·exact h.elim
 ·exact ia h
 ·obtain⟨a,hx,h⟩:=J6 h
  obtain⟨⟨r,hr,h⟩⟩:=h
  cases hr with
  |bytes l hl=>rename_i e sz _ _ _;exact⟨_,Kk (e:=e) (sz:=sz) hx hl,h⟩
  |back l=>rename_i e sz _ _ _;exact⟨_,Kl (e:=e) (sz:=sz) hx,h⟩
  |int m=>exact⟨_,Mb hx,h⟩
  |rune m=>exact⟨_,Km hx,h⟩
 ·exact ib h
 ·split at h
  ·rename_i hx hy
   obtain⟨hk,h2⟩:=cond_false h
   have:=of_decide_eq_true hk
   subst this
   exact⟨_,jx hx hy,h2⟩
  ·exact h.elim
 ·split at h
  ·rename_i hx hy
   obtain⟨hk,h2⟩:=cond_false h
   have:=of_decide_eq_true hk
   subst this
   exact⟨_,jy hx hy,h2⟩
  ·exact h.elim
 ·split at h
  ·rename_i l hl
   unfold RG at h
   cases hc:I8 l with
   |true =>
    rw[hc]at h
    obtain⟨⟨r,hr,h⟩⟩:=h
    rw[List.append_nil]at hr
    exact⟨_,Ri hr hl hc,h⟩
   |false =>
    rw[hc]at h
    obtain⟨⟨is,L,r,hL,ly,hr,nB,h⟩⟩:=h
    exact⟨_,Ru is hr hl hL ly nB fun _ _ _ _=>⟨[],rfl,rfl,fun j x c hx=>by simp at hx⟩,h⟩
  ·exact h.elim
 ·split at h
  ·rename_i f caps l hg hl
   unfold RG at h
   cases hc:I8 l with
   |true =>
    rw[hc]at h
    obtain⟨⟨r,hr,h⟩⟩:=h
    exact⟨_,fA hg hr hl hc,h⟩
   |false =>
    rw[hc]at h
    obtain⟨⟨is,L,r,hL,ly,hr,nB,h⟩⟩:=h
    refine⟨_,Ru is hr hl hL ly nB fun θ a w h=>?_,h⟩
    have:=(h.rel hg)
    generalize a.eval _=v at this
    cases this with
    |im hi=>cases hi with|fn f l cs hl hc=>exact⟨cs,rfl,hl,hc⟩
  ·exact h.elim
 ·split at h
  ·rename_i ps pn
   obtain⟨⟨zs,pl,tz,tp,h⟩⟩:=h
   obtain⟨hf,h⟩:=o9 h
   obtain⟨a,ha,h⟩:=J6 h
   rw[Option.map_eq_some_iff]at ha
   obtain⟨l,hl,rfl⟩:=ha
   exact⟨_,Vh (T:=_) pn hf hl,h⟩
  ·exact h.elim
 ·split at h
  ·rename_i ps pn
   obtain⟨⟨e,sz,bs,z,ts,tz,tb,hz,h⟩⟩:=h
   obtain⟨hc,h⟩:=cond_false h
   simp only[Bool.and_eq_true,Nat.beq_eq,Nat.blt_eq]at hc
   obtain⟨hs,h⟩:=h
   obtain⟨hf,h⟩:=o9 h
   obtain⟨hi,h⟩:=ET h
   exact⟨_,It (e:=e) (z:=z) pn hf hc.1.1.1 hc.1.1.2 hc.1.2 hz hs hc.2 hi,h⟩
  ·exact h.elim
 ·exact ZO h
 ·exact bu h
 ·split at h
  ·rename_i hx
   obtain⟨a,ha,h⟩:=J6 h
   exact⟨a,Pa hx ha,h⟩
  ·exact h.elim
 ·split at h
  ·rename_i caps hc
   obtain⟨ly,h⟩:=cond_false h
   exact⟨_,Wv hc ly,h⟩
  ·exact h.elim
 ·exact h.elim
end sound
def Rd(a:AV):Prop:=∃U w v,Im U w a v
theorem Rd.sl{sz:Nat}{l:List (List AV)}(h:Rd (.sl sz l)):l.length≤9223372036854775807:=by
 obtain⟨U,w,v,h⟩:=h
 cases h with
 |slnil=>simp
 |sl sz l a cap f mV hm hu hsz hc h=>unfold maxLen at hm;omega
theorem Rd.agg{l:List AV}(h:Rd (.agg l)):∀x∈l,Rd x:=by
 obtain⟨U,w,v,h⟩:=h
 cases h with
 |agg l cs hl h =>
  intro x hx
  obtain⟨j,hj,rfl⟩:=List.getElem_of_mem hx
  have h2:j<cs.length:=by omega
  exact⟨U,w,_,h j _ _ (List.getElem?_eq_getElem hj) (List.getElem?_eq_getElem h2)⟩
theorem Rd.elem{sz:Nat}{l:List (List AV)}(h:Rd (.sl sz l)):∀e∈l,∀x∈e,Rd x:=by
 obtain⟨U,w,v,h⟩:=h
 cases h with
 |slnil=>intro e he;cases he
 |sl sz l a cap f mV hm hu hsz hc h =>
  intro e he x hx
  obtain⟨i,hi,rfl⟩:=List.getElem_of_mem he
  obtain⟨j,hj,rfl⟩:=List.getElem_of_mem hx
  exact⟨U,w,_,h i _ (List.getElem?_eq_getElem hi) j _ (List.getElem?_eq_getElem hj)⟩
def BT:List AV→Nat→List (Nat×AV)
 |[],_=>[]
 |a::r,k=>(k,a)::BT r (k+1)
theorem EU:∀(l:List AV) (k s:Nat) (x:AV),look (BT l k) s=some x→k≤s∧l[s-k]?=some x
 |[],_,_,_,h=>by cases h
 |a::r,k,s,x,h=>by
  simp only[BT,E6]at h
  by_cases e:k=s
  ·subst e;simp at h;subst h;simp
  ·rw[if_neg e]at h
   obtain⟨h1,h2⟩:=EU r (k+1) s x h
   refine⟨by omega,?_⟩
   have:s-k=(s-(k+1))+1:=by omega
   rw[this]
   simpa using h2
def V7(tmps:Array Value):ResultVar→Sem Value
 |.tmp t=>pure (tmps.getD t undef)
 |.cell a t=>do loadVar t (←asAddr (tmps.getD a undef))
theorem Le{P:Program}{w:World}{tmps:Array Value}:∀{rvs:List ResultVar} {vs:List Value},rvs.length=vs.length→(∀(j:Nat) rv v,rvs[j]?=some rv→vs[j]?=some v→(V7 tmps rv).run P w=.ok v w)→(rvs.mapM (V7 tmps)).run P w=.ok vs w
 |[],[],_,_=>by simp[Sem.run_pure]
 |rv::r,v::s,hl,h=>by
  have h1:=h 0 rv v rfl rfl
  have h2:=Le (rvs:=r) (vs:=s) (by simpa using hl) (fun j rv v hj hv=>h (j+1) rv v (by simpa using hj) (by simpa using hv))
  simp[List.mapM_cons,Sem.run_bind,h1,h2]
 |[],_::_,hl,_=>by simp at hl
 |_::_,[],hl,_=>by simp at hl
theorem Kq{P:Program}{w:World}{fn:Func}{tmps:Array Value}{rvs:List ResultVar}{vs:List Value}(h:fn.results=rvs.toArray)(hne:rvs.length≠1)(hl:rvs.length=vs.length)(hv:∀(j:Nat) rv v,rvs[j]?=some rv→vs[j]?=some v→(V7 tmps rv).run P w=.ok v w):
  (results fn tmps).run P w=.ok (.tuple vs.toArray) w:=by
 have hm:=Le (P:=P) (w:=w) (tmps:=tmps) hl hv
 have e:results fn tmps=(do let vs ←fn.results.mapM (V7 tmps);pure (if h:vs.size=1 then vs[0]else .tuple vs)):=by
  unfold results
  congr
 rw[e,h,List.mapM_toArray]
 simp only[Sem.run_bind,map_eq_pure_bind,hm,Sem.run_pure,Result.andThen_ok]
 rw[dif_neg (by simp;omega)]
theorem SB{P:Program}{w:World}{fn:Func}{tmps:Array Value}{rv:ResultVar}{v:Value}(h:fn.results=[rv].toArray)(hv:(V7 tmps rv).run P w=.ok v w):
  (results fn tmps).run P w=.ok v w:=by
 have hm:=Le (P:=P) (w:=w) (tmps:=tmps) (rvs:=[rv]) (vs:=[v]) rfl (fun j rv' v' hj mj=>by
  cases j with
  |zero=>simp at hj mj;subst hj mj;exact hv
  |succ j=>simp at hj)
 have e:results fn tmps=(do let vs ←fn.results.mapM (V7 tmps);pure (if h:vs.size=1 then vs[0]else .tuple vs)):=by
  unfold results
  congr
 rw[e,h,List.mapM_toArray]
 simp only[Sem.run_bind,map_eq_pure_bind,hm,Sem.run_pure,Result.andThen_ok]
 rfl
inductive NL:AV→AV→Prop
 |refl (a:AV):NL a a
 |any (a:AV):NL a .any
 |nil (sz:Nat):NL (.v (.slice none 0 0)) (.sl sz [])
 |agg (l m:List AV) (h:l.length=m.length) (hh:∀(j:Nat) x y,l[j]?=some x→m[j]?=some y→NL x y):NL (.agg l) (.agg m)
 |tup (l m:List AV) (h:l.length=m.length) (hh:∀(j:Nat) x y,l[j]?=some x→m[j]?=some y→NL x y):NL (.tup l) (.tup m)
 |sl (sz:Nat) (l m:List (List AV)) (h:l.length=m.length) (hl:∀(i:Nat) e e',l[i]?=some e→m[i]?=some e'→e.length=e'.length) (hh:∀(i:Nat) e e',l[i]?=some e→m[i]?=some e'→∀(j:Nat) x y,e[j]?=some x→e'[j]?=some y→NL x y):NL (.sl sz l) (.sl sz m)
theorem O5{α β:Type}{l:List α}{m:List β}(h:l.length=m.length){j:Nat}{y:β}(hy:m[j]?=some y):∃x,l[j]?=some x:=by
 have:=(List.getElem?_eq_some_iff.1 hy).1
 exact⟨_,List.getElem?_eq_getElem (by omega)⟩
theorem NL.im{U:Nat→Prop}{w:World}{a b:AV}(h:NL a b):∀{v:Value},Im U w a v→Im U w b v:=by
 induction h with
 |refl a=>intro v h;exact h
 |any a=>intro v h;exact .any v
 |nil sz=>intro v h;cases h;exact .slnil sz
 |agg l m hl hh ih =>
  intro v h
  cases h with
  |agg l cs hc h =>
   refine .agg m cs (by omega) fun j y c hy ng=>?_
   obtain⟨x,hx⟩:=O5 hl hy
   exact ih j x y hx hy (h j x c hx ng)
 |tup l m hl hh ih =>
  intro v h
  cases h with
  |tup l cs hc h =>
   refine .tup m cs (by omega) fun j y c hy ng=>?_
   obtain⟨x,hx⟩:=O5 hl hy
   exact ih j x y hx hy (h j x c hx ng)
 |sl sz l m hl lX hh ih =>
  intro v h
  cases h with
  |slnil =>
   have:m=[]:=List.eq_nil_of_length_eq_zero (by rw[←hl];rfl)
   subst this
   exact .slnil sz
  |sl sz l a cap f mV hm hu hsz hc h =>
   rw[hl]
   refine .sl sz m a cap f (by omega) hm (fun hne=>hu (fun e=>hne (List.eq_nil_of_length_eq_zero (by rw[←hl,e];rfl)))) (fun e he=>?_) (fun i hi=>hc i (by omega)) (fun i e' ot j y hy=>?_)
   ·obtain⟨i,hi,rfl⟩:=List.getElem_of_mem he
    obtain⟨x,hx⟩:=O5 hl (List.getElem?_eq_getElem hi)
    rw[←lX i x _ hx (List.getElem?_eq_getElem hi)]
    exact hsz x (List.mem_of_getElem? hx)
   ·obtain⟨e,he⟩:=O5 hl ot
    obtain⟨x,hx⟩:=O5 (lX i e e' he ot) hy
    exact ih i e e' he ot j x y hx hy (h i e he j x hx)
theorem Mw{c:Cx}{a b:AV}(h:NL a b):∀{v:Value},D7 c a v→D7 c b v:=by
 induction h with
 |refl a=>intro v h;exact h
 |any a=>intro v h;exact .any v
 |nil sz=>intro v h;rw[h.val];exact .im (.slnil sz)
 |agg l m hl hh ih =>
  intro v h
  obtain⟨cs,rfl,hc,hr⟩:=Em h
  refine .agg m cs (by omega) fun j y z hy hz=>?_
  obtain⟨x,hx⟩:=O5 hl hy
  exact ih j x y hx hy (hr j x z hx hz)
 |tup l m hl hh ih =>
  intro v h
  have:∃cs:List Value,v=.tuple cs.toArray∧l.length=cs.length∧∀(j:Nat) u z,l[j]?=some u→cs[j]?=some z→D7 c u z:=by
   cases h with
   |im hi=>cases hi with|tup l cs hl hc=>exact⟨cs,rfl,hl,fun j u z hu hz=>.im (hc j u z hu hz)⟩
   |tup l cs hl hc=>exact⟨cs,rfl,hl,hc⟩
  obtain⟨cs,rfl,hc,hr⟩:=this
  refine .tup m cs (by omega) fun j y z hy hz=>?_
  obtain⟨x,hx⟩:=O5 hl hy
  exact ih j x y hx hy (hr j x z hx hz)
 |sl sz l m hl lX hh ih =>
  intro v h
  cases h with
  |im hi=>exact .im ((NL.sl sz l m hl lX hh).im hi)
def XD(P:Program)(σ:St):ResultVar→AV→Prop
 |.tmp t,a=>∃a',(look σ.sl t).map (J0 σ.hp [])=some a'∧NL a' a
 |.cell t T,a=>∃i τ l sz,look σ.sl t=some (.ref i 0)∧A5 σ.hp i=some (.bx τ l)∧G6 P T true sz∧l.length=sz∧NL (.agg (Cm σ.hp [] l)) a
def HQ(P:Program)(σ:St):List ResultVar→List AV→Prop
 |[],[]=>True
 |v::r,a::s=>XD P σ v a∧HQ P σ r s
 |_,_=>False
theorem HQ.get{P:Program}{σ:St}:∀{rvs:List ResultVar} {as:List AV},HQ P σ rvs as→rvs.length=as.length∧∀(j:Nat) rv a,rvs[j]?=some rv→as[j]?=some a→XD P σ rv a
 |[],[],_=>⟨rfl,fun j rv a h=>by simp at h⟩
 |v::r,a::s,h=>by
  obtain⟨h1,h2⟩:=HQ.get h.2
  refine⟨by simp[h1],fun j rv b hj hb=>?_⟩
  cases j with
  |zero=>simp at hj hb;subst hj hb;exact h.1
  |succ j=>exact h2 j rv b (by simpa using hj) (by simpa using hb)
 |[],_::_,h=>h.elim
 |_::_,[],h=>h.elim
def eS(P:Program)(rs:Array ResultVar)(r:AV)(σ:St):Prop :=
 (∃rvs as,rs=rvs.toArray∧rvs.length≠1∧HQ P σ rvs as∧r=.tup as) ∨
 (∃t,rs=#[.tmp t]∧(look σ.sl t).map (J0 σ.hp [])=some r) ∨
 (∃t sz,rs=#[.tmp t]∧look σ.sl t=some (.v (.slice none 0 0))∧r=.sl sz []) ∨
 (∃t u a b,rs=#[.tmp t,.tmp u]∧(look σ.sl t).map (J0 σ.hp [])=some a∧(look σ.sl u).map (J0 σ.hp [])=some b∧r=.tup [a,b]) ∨
 (∃t T i τ l,rs=#[.cell t T]∧look σ.sl t=some (.ref i 0)∧A5 σ.hp i=some (.bx τ l)∧r=.agg (Cm σ.hp [] l))
def D0(P:Program)(rs:Array ResultVar)(r:AV):Exit→St→Prop
 |.ret,σ=>eS P rs r σ
 |.normal,σ=>eS P rs r σ
 |_,_=>False
theorem A0{P:Program}{t:Nat}{r r':AV}{σ:St}(h:(look σ.sl t).map (J0 σ.hp [])=some r')(e:r'=r):D0 P #[.tmp t] r .ret σ:=.inr (.inl ⟨t,rfl,e▸h⟩)
theorem Mx{P:Program}{rs:List ResultVar}{vs:List AV}{r:AV}{σ:St}(hn:(Nat.beq rs.length 1)=false)(h:HQ P σ rs vs)(e:.tup vs=r):D0 P rs.toArray r .ret σ:=.inl ⟨rs,vs,rfl,(fun h=>by rw[h]at hn;cases hn),h,e.symm⟩
theorem SC{P:Program}{t:Nat}{a' a:AV}{σ:St}(h:(look σ.sl t).map (J0 σ.hp [])=some a')(e:NL a' a):XD P σ (.tmp t) a:=⟨a',h,e⟩
theorem Ez{P:Program}{t u v:Nat}{a b c r:AV}{σ:St}(h:(look σ.sl t).map (J0 σ.hp [])=some a)(h2:(look σ.sl u).map (J0 σ.hp [])=some b)(h3:(look σ.sl v).map (J0 σ.hp [])=some c)(e:.tup [a,b,c]=r):D0 P #[.tmp t,.tmp u,.tmp v] r .ret σ :=
 Mx (rs:=[.tmp t,.tmp u,.tmp v]) (vs:=[a,b,c]) rfl ⟨⟨a,h,.refl _⟩,⟨b,h2,.refl _⟩,⟨c,h3,.refl _⟩,trivial⟩ e
theorem u3{P:Program}{t T i u sz τ:Nat}{l:List AV}{a b b' r:AV}{σ:St}[tv:G6 P T true sz](h:look σ.sl t=some (.ref i 0))(hb:A5 σ.hp i=some (.bx τ l))(hl:Nat.beq l.length sz=true)(na:NL (.agg (Cm σ.hp [] l)) a)(h2:(look σ.sl u).map (J0 σ.hp [])=some b')(nb:NL b' b)(e:.tup [a,b]=r):D0 P #[.cell t T,.tmp u] r .ret σ :=
 Mx (rs:=[.cell t T,.tmp u]) (vs:=[a,b]) rfl ⟨⟨i,τ,l,sz,h,hb,tv,Nat.eq_of_beq_eq_true hl,na⟩,⟨b',h2,nb⟩,trivial⟩ e
theorem I0{P:Program}{t u:Nat}{a b r:AV}{σ:St}(h:(look σ.sl t).map (J0 σ.hp [])=some a)(h2:(look σ.sl u).map (J0 σ.hp [])=some b)(e:.tup [a,b]=r):D0 P #[.tmp t,.tmp u] r .ret σ:=.inr (.inr (.inr (.inl ⟨t,u,a,b,rfl,h,h2,e.symm⟩)))
theorem u4{P:Program}{t sz:Nat}{r:AV}{σ:St}(h:look σ.sl t=some (.v (.slice none 0 0)))(e:.sl sz []=r):D0 P #[.tmp t] r .ret σ:=.inr (.inr (.inl ⟨t,sz,rfl,h,e.symm⟩))
section rules
variable {P:Program} {E:Env} {n:Nat} {ops:Array Oper} {rest:List Oper} {σ:St} {K:St→Prop} {Q:Exit→St→Prop}
variable {d:Nat} {ty:TypeId} {pos:String} {after:Array Edge} {x y:Operand}
theorem Pd{fn:Func}{r:AV}{X:Nat→Prop}{w w':World}{pJ:R8 (fun k=>X k∨(fun _=>False) k) w}{rf:Bool}{θ:Th}{σ':St}{a:Act}(hs:J5 ⟨w,X,fun _=>False,fun _=>undef,0,pJ,rf⟩ n θ σ' a w')(vg:a.defers=[])(ly:Q3 r)
  (nX:∀t T,fn.results=#[.cell t T]→∃sz,G6 P T true sz∧∀l,r=.agg l→l.length=sz) (rG:eS P fn.results r σ'):bodyPost P fn (fun e pE=>∃v,e=.returned v∧Im X pE r v∧Below w.heap.size w pE) .ret a w':=by
 have nj:Below w.heap.size w w':=⟨hs.fr.os,hs.fr.tape,hs.fr.output,hs.fr.size,fun k hk=>hs.fr.block k hk (fun h=>h)⟩
 have sF:=hs.cv (σ':=⟨As (J0 σ'.hp []) σ'.sl,σ'.nx,[]⟩) (Nat.zero_le _) (fun s x' hx=>by
  rw[Cn,Option.map_eq_some_iff]at hx
  obtain⟨x,h1,h2⟩:=hx
  exact⟨x,h1,h2,.inl (Nat.le_refl _)⟩) (fun i b' hi=>by cases hi)
 have ue:∀{a:AV} {v:Value},Q3 a→D7 (cx ⟨w,X,fun _=>False,fun _=>undef,0,pJ,rf⟩ θ ⟨As (J0 σ'.hp []) σ'.sl,σ'.nx,[]⟩ w') a v→Im X w' a v:=fun hc hi=>(hc.im hi).mono (fun _ _ _=>rfl) fun k _ hu=>.inl hu
 have slot:∀{t:Nat} {r:AV},(look σ'.sl t).map (J0 σ'.hp [])=some r→look (As (J0 σ'.hp []) σ'.sl) t=some r:=fun h=>by rw[Cn];exact h
 rcases rG with ⟨rvs,as,h1,rF,ry,rfl⟩|⟨t,h1,h2⟩|⟨t,sz,h1,h2,rfl⟩|⟨t,u,a1,b1,h1,h2,h3,rfl⟩|⟨t,T,i,τ,l,h1,h2,h3,rfl⟩
 ·obtain⟨lX,nM⟩:=HQ.get ry
  have xS:∀a∈as,Q3 a:=by cases ly with|tup hk=>exact hk
  have one:∀(rv:ResultVar) (b:AV),Q3 b→XD P σ' rv b→∃v,(V7 a.tmps rv).run P w'=.ok v w'∧Im X w' b v:=by
   intro rv b hb hv
   cases rv with
   |tmp t =>
    obtain⟨a',h1,h2⟩:=hv
    exact⟨_,by simp[V7,Sem.run_pure],ue hb (Mw h2 (sF.slots t a' (slot h1)))⟩
   |cell t T =>
    obtain⟨i,τ,l,sz,h2,h3,tv,qb,uQ⟩:=hv
    obtain⟨b1,hθ,hv,_⟩:=k7 (hs.slots t _ h2)
    obtain⟨b',mG,T',mv,hh,hsz,hr⟩:=(hs.owns i _ h3).2
    have oB:θ i=.pointer (some ⟨b1,0,none⟩):=hθ
    have oQ:θ i=.pointer (some ⟨b',0,none⟩):=mv
    rw[oB]at oQ
    cases oQ
    have tQ:w'.heap[b1]?=some (.cells mG T' (0,0)):=hh
    have sub:(cx ⟨w,X,fun _=>False,fun _=>undef,0,pJ,rf⟩ θ σ' w').sub (cx ⟨w,X,fun _=>False,fun _=>undef,0,pJ,rf⟩ θ ⟨As (J0 σ'.hp []) σ'.sl,σ'.nx,[]⟩ w'):=⟨rfl,rfl,fun _ h=>h,(fun i b' hi=>by cases hi),hs.apart,fun i b k hi hk=>(hs.mine i b k hi hk).1,fun i b hi=>(hs.owns i b hi).2⟩
    have oX:=S0 (P:=P) (T:=T) (sz:=sz) (w:=w') (a:=⟨b1,0,none⟩) (cs:=mG.toList) (by rw[Array.length_toList,hsz,qb]) (fun j v hj=>by rw[H3,J8 tQ];simpa using hj)
    refine⟨.agg mG,by simp[V7,hv,Sem.run_bind,Sem.run_pure,asAddr,oX],ue hb (Mw uQ (by
     have:=D7.agg (c:=cx ⟨w,X,fun _=>False,fun _=>undef,0,pJ,rf⟩ θ ⟨As (J0 σ'.hp []) σ'.sl,σ'.nx,[]⟩ w') (Cm σ'.hp [] l) mG.toList (by rw[P5];simp[hsz]) (fun j x y hx hy=>by
      rw[P5]at hx
      simp only[List.getElem?_map,Option.map_eq_some_iff]at hx
      obtain⟨u0,nd,rfl⟩:=hx
      exact Iu sub (hr j u0 y nd (by simpa using hy)) (.inl (Nat.le_refl _)))
     simpa using this))⟩
  have all:∀(m:Nat),m≤rvs.length→∃vs:List Value,vs.length=m∧∀(j:Nat) rv v,rvs[j]?=some rv→vs[j]?=some v→(V7 a.tmps rv).run P w'=.ok v w'∧∀b,as[j]?=some b→Im X w' b v:=by
   intro m
   induction m with
   |zero=>intro _;exact⟨[],rfl,fun j rv v _ h=>by simp at h⟩
   |succ m ih =>
    intro hm
    obtain⟨vs,hl,oc⟩:=ih (by omega)
    have vJ:rvs[m]?=some rvs[m]:=List.getElem?_eq_getElem (by omega)
    have zG:as[m]?=some (as[m]'(by omega)):=List.getElem?_eq_getElem (by omega)
    obtain⟨v,sd,ol⟩:=one rvs[m] (as[m]'(by omega)) (xS _ (List.getElem_mem _)) (nM m _ _ vJ zG)
    refine⟨vs++[v],by simp[hl],fun j rv u hj hu=>?_⟩
    by_cases e:j<m
    ·rw[List.getElem?_append_left (by omega)]at hu
     exact oc j rv u hj hu
    ·rw[List.getElem?_append_right (by omega),hl]at hu
     have ej:j=m:=by
      have:=(List.getElem?_eq_some_iff.1 hu).1
      simp at this;omega
     subst ej
     simp at hu
     subst hu
     rw[vJ]at hj
     cases hj
     exact⟨sd,fun b hb=>by rw[zG]at hb;cases hb;exact ol⟩
  obtain⟨vs,vP,oc⟩:=all rvs.length (Nat.le_refl _)
  refine⟨vg,_,Kq h1 rF vP.symm (fun j rv v hj hv=>(oc j rv v hj hv).1),_,rfl,.tup as vs (by omega) fun j b v hb hv=>?_,nj⟩
  obtain⟨rv,xx⟩:=O5 lX hb
  exact(oc j rv v xx hv).2 b hb
 ·exact⟨vg,_,results_tmp h1 _ _ _,_,rfl,ue ly (sF.slots t r (slot h2)),nj⟩
 ·exact⟨vg,_,results_tmp h1 _ _ _,_,rfl,by rw[(hs.slots t _ h2).val];exact .slnil sz,nj⟩
 ·refine⟨vg,_,results_tmp2 h1 _ _ _,_,rfl,?_,nj⟩
  refine ue ly (.tup [a1,b1] [_,_] rfl fun j x y hx hy=>?_)
  match j,hx,hy with
  |0,hx,hy=>cases hx;cases hy;exact sF.slots t _ (slot h2)
  |1,hx,hy=>cases hx;cases hy;exact sF.slots u _ (slot h3)
 ·obtain⟨b,hθ,hv,_⟩:=k7 (hs.slots t _ h2)
  obtain⟨b',mG,T',mv,hh,hsz,hr⟩:=(hs.owns i _ h3).2
  have oB:θ i=.pointer (some ⟨b,0,none⟩):=hθ
  have oQ:θ i=.pointer (some ⟨b',0,none⟩):=mv
  rw[oB]at oQ
  cases oQ
  obtain⟨sz,tv,lX⟩:=nX t T h1
  have qb:=lX _ rfl
  rw[P5,List.length_map]at qb
  have tQ:w'.heap[b]?=some (.cells mG T' (0,0)):=hh
  have sub:(cx ⟨w,X,fun _=>False,fun _=>undef,0,pJ,rf⟩ θ σ' w').sub (cx ⟨w,X,fun _=>False,fun _=>undef,0,pJ,rf⟩ θ ⟨As (J0 σ'.hp []) σ'.sl,σ'.nx,[]⟩ w'):=⟨rfl,rfl,fun _ h=>h,(fun i b' hi=>by cases hi),hs.apart,fun i b k hi hk=>(hs.mine i b k hi hk).1,fun i b hi=>(hs.owns i b hi).2⟩
  refine⟨vg,.agg mG,?_,_,rfl,ue ly (by
   have:=D7.agg (c:=cx ⟨w,X,fun _=>False,fun _=>undef,0,pJ,rf⟩ θ ⟨As (J0 σ'.hp []) σ'.sl,σ'.nx,[]⟩ w') (Cm σ'.hp [] l) mG.toList (by rw[P5];simp[hsz]) (fun j x y hx hy=>by
    rw[P5]at hx
    simp only[List.getElem?_map,Option.map_eq_some_iff]at hx
    obtain⟨u0,nd,rfl⟩:=hx
    exact Iu sub (hr j u0 y nd (by simpa using hy)) (.inl (Nat.le_refl _)))
   simpa using this),nj⟩
  have oX:=S0 (P:=P) (T:=T) (sz:=sz) (w:=w') (a:=⟨b,0,none⟩) (cs:=mG.toList) (by rw[Array.length_toList,hsz,qb]) (fun j v hj=>by rw[H3,J8 tQ];simpa using hj)
  rw[Array.getD_eq_getD_getElem?]at hv
  simp[results,h1,hv,Sem.run_bind,Sem.run_pure,asAddr,oX]
theorem Uk {f : Nat} {fn : Func} {code : Code} {args : List AV} {r : AV} {rs : Array ResultVar} (hf : P.funcs[f]? = some fn) (nK : (fn.name == "runtime.NumGoroutine") = false) (hb : fn.body = some code) (hn : fn.ntmps = n) (qX : fn.results = rs)
  (mB:Nat.ble args.length n=true) (ly:J2 r=true) (nX:∀t T,rs=#[.cell t T]→∃sz,G6 P T true sz∧∀l,r=.agg l→l.length=sz)
  (h:(∀a∈args,Rd a)→∀E,E.n0=0→C7 P E n code ⟨BT args 0,0,[]⟩ (D0 P rs r)):A3 P f args r:=by
 subst hn qX
 have ly:=S4 ly
 refine⟨⟨fn,hf,nK,by rw[hb];rfl⟩,fun X w vs hX mU hl oc=>?_⟩
 have pJ:R8 (fun k=>X k∨(fun _=>False) k) w:=mU.mono (fun k _ h=>h.elim id False.elim) fun _ _ _=>rfl
 have lW:∀a∈args,Rd a:=by
  intro a ha
  obtain⟨j,hj,rfl⟩:=List.getElem_of_mem ha
  have h2:j<vs.length:=by omega
  exact⟨X,w,_,oc j _ _ (List.getElem?_eq_getElem hj) (List.getElem?_eq_getElem h2)⟩
 refine calls_of_wp hf hb ?_
 have mX:args.length≤fn.ntmps:=Nat.ble_eq▸mB
 have start:j4 ⟨w,X,fun _=>False,fun _=>undef,0,pJ,false⟩ fn.ntmps ⟨BT args 0,0,[]⟩ { tmps:=vs.toArray++Array.replicate (fn.ntmps-vs.toArray.size) undef,defers:=[] } w:=by
  refine⟨⟨fun _=>undef,fun _ _=>none⟩,?_,.nil,⟨rfl,rfl,rfl,Nat.le_refl _,fun _ _ _=>rfl⟩,fun s x hs=>?_,fun i b hi=>?_,fun i j b b' k hi=>?_,fun i b k hi=>?_,hX,⟨Nat.le_refl _,fun i hi=>?_⟩⟩
  ·simp;omega
  ·obtain⟨_,hx⟩:=EU args 0 s x hs
   rw[Nat.sub_zero]at hx
   have lY:s<vs.length:=by rw[←hl];exact(List.getElem?_eq_some_iff.1 hx).1
   have hv:vs[s]?=some vs[s]:=List.getElem?_eq_getElem lY
   have e:(vs.toArray++Array.replicate (fn.ntmps-vs.toArray.size) undef).getD s undef=vs[s]:=by
    rw[Array.getD_eq_getD_getElem?,Array.getElem?_append]
    simp[lY]
   rw[e]
   refine .im ((oc s x _ hx hv).mono (fun _ _ _=>rfl) fun k _ hu=>?_)
   rcases hu with hu|⟨i,b,hi,_⟩
   ·exact hu
   ·cases hi
  ·cases hi
  ·cases hi
  ·cases hi
  ·exact absurd hi (Nat.not_lt_zero _)
 refine wp_mono (h lW ⟨w,X,fun _=>False,fun _=>undef,0,pJ,false⟩ rfl _ w start) ?_
 rintro e a w' ⟨σ',hq,θ,hs⟩
 have fin:=Pd (P:=P) (fn:=fn) (r:=r) hs (hs.defers.1 rfl) ly nX
 cases e with
 |normal=>exact fin hq
 |ret=>exact fin hq
 |exit id=>exact hq.elim
 |goto l=>exact hq.elim
 |panic c=>exact hq.elim
 |outgrown=>exact hq.elim
theorem A3.congr{f:Nat}{args:List AV}{r r':AV}(h:A3 P f args r)(e:r=r'):A3 P f args r':=e▸h
theorem En{l:List Oper}{σ':St}(h:St.le E n σ σ')(k:B2 P E n ops l σ' K):B2 P E n ops l σ K:=fun a w hs=>k a w (h a w hs)
theorem I9{d e sz:Nat}(hd:look σ.sl d=some (.v (.slice none 0 0)))(he:Nat.blt e J9=true:=by rfl):St.le E n σ ((σ.new (.row e sz 0 [])).put d (.row σ.nx 0 0)):=by
 rintro a w ⟨θ,h⟩
 have h2:=h.grow (w':=w) (Below.refl _ _) (.slice none 0 0) (.row e sz 0 []) (fun k hk=>by cases hk) (fun le=>⟨[],⟨by simp,.inl ⟨by simp[cx,E8],rfl⟩⟩,(fun el lU=>by cases lU),(fun k el hk=>by simp at hk),.lt (Nat.blt_eq▸he)⟩) (N4 (Nat.blt_eq▸he))
 refine⟨_,h2.size,h2.defers,h2.fr,fun s x hs=>?_,h2.owns,h2.apart,h2.mine,h2.X,h2.base⟩
 simp only[St.put,E6]at hs
 by_cases ed:d=s
 ·subst ed
  rw[if_pos rfl]at hs
  cases hs
  have hv:=(h.slots d _ hd).val
  rw[hv]
  refine .row _ _ _ _ (by simp[cx,St.new,St.put]) fun e' lb v' l' hl=>?_
  simp only[cx,St.new,St.put,G4,if_pos]at hl
  cases hl
  exact⟨Nat.le_refl _,fun _=>⟨rfl,by simp[cx,E8]⟩⟩
 ·rw[if_neg ed]at hs
  exact h2.slots s x hs
theorem SD{d sz:Nat}(hd:look σ.sl d=some (.v (.slice none 0 0))):St.le E n σ (σ.put d (.sl sz [])):=by
 rintro a w ⟨θ,h⟩
 refine⟨θ,h.size,h.defers,h.fr,fun s x hs=>?_,h.owns,h.apart,h.mine,h.X,h.base⟩
 simp only[St.put,E6]at hs
 by_cases ed:d=s
 ·subst ed
  rw[if_pos rfl]at hs
  cases hs
  rw[(h.slots d _ hd).val]
  exact .im (.slnil sz)
 ·rw[if_neg ed]at hs
  exact h.slots s x hs
structure b7(P:Program)(E:Env)(n:Nat)(ops:Array Oper)(o:Oper)(rest:List Oper)(l:List AV)(σ:St)(K:St→Prop):Prop where
 h:B2 P E n ops (o::rest) σ K
mutual
def bv:AV→Option Nat
 |.ref i _|.row i _ _|.elt i _ _ _=>some i
 |.agg l|.tup l|.fo _ l=>Pe l
 |_=>none
def Pe:List AV→Option Nat
 |[]=>none
 |x::r=>match bv x with
  |some i=>some i
  |none=>Pe r
end
theorem My{f:Nat}{xs:List Operand}{ts:Array TypeId}{d:Nat}{ty:TypeId}{pos:String}{after:Array Edge}{M L l:List AV}{r:AV}(is:List Nat)(hc:A3 P f M r)(ns:l8 (F3 σ) xs=some l)(hL:Cm σ.hp (Cp is σ.hp) l=L)(hM:L++[]=M)(ly:I8 L=true)(nB:Fg r=true)(hd:Nat.blt d n=true)
  (k:B2 P E n ops rest (σ.put d r) K):b7 P E n ops ⟨some d,.call ⟨.value (.func f),⟨xs⟩,ts⟩,ty,pos,after,none⟩ rest l σ K :=
 ⟨Ij (Ru is (caps:=[]) (hM▸hc) ns hL ly nB fun _ _ _ _=>⟨[],rfl,rfl,fun j x c hx=>by simp at hx⟩) hd k⟩
theorem J1{o:Oper}{l:List AV}(i:Nat)(h:B2 P E n ops (o::rest) (σ.frz i) K):b7 P E n ops o rest l σ K:=⟨En (Gg i) h⟩
def lits:List Nat:=[0,1,2,3,4,5,6,7,8,9,10,11,12,13,14,15,16,17,18,19,20,21,22,23,24,25,26,27,28,29,30,31,32,33,34,35,36,37,38,39,40,41,42,43,44,45,46,47,48,49,50,51,52,53,54,55,56,57,58,59,60,61,62,63]
def JB:List Nat→Nat→Option Nat
 |[],_=>none
 |x::_,0=>some x
 |_::r,k+1=>JB r k
theorem Vm:∀(l:List Nat) (m:Nat),JB l m=l[m]?
 |[],m=>by simp[JB]
 |x::r,0=>by simp[JB]
 |x::r,k+1=>by simp[JB,Vm r k]
theorem ZP{m k:Nat}(h:JB lits m=some k):k=m:=by
 by_cases hm:m<64
 ·have h2:∀j,j<64→JB lits j=some j:=by decide
  rw[h2 m hm]at h
  exact(Option.some.inj h).symm
 ·rw[Vm,List.getElem?_eq_none (by simp[lits];omega)]at h
  cases h
def H0(m:Nat)(F:Nat→Prop):Prop :=
 match JB lits m with
 |some k=>F k
 |none=>F m
theorem D8{m:Nat}{F:Nat→Prop}(h:H0 m F):F m:=by
 unfold H0 at h
 split at h
 ·rename_i hk;rw[ZP hk]at h;exact h
 ·exact h
def SE(P:Program)(E:Env)(n:Nat)(ops:Array Oper)(o:Oper)(T:Nat)(x y:Option AV)(rest:List Oper)(σ:St)(K:St→Prop):Prop :=
 match x,y with
 |some (.ref i off),some av=>match A5 σ.hp i with
  |some (.bx τ l)=>Ld P T fun _ sz=>cond (Nat.beq (K1 av).length sz && Nat.ble (off+sz) l.length) (Rw σ.hp av (XB σ.hp (K1 av) (B2 P E n ops rest (σ.set i (.bx τ (CV l off (K1 av)))) K))) False
  |_=>False
 |some (.elt i ver k off),some av=>match A5 σ.hp i with
  |some (.row e sz mK l)=>G5 (ver=mK∧off<sz) (Ld P T fun ag szT=>cond (cond ag false (Nat.beq szT 1 && AB e)) (cond (J2 av) (Rv σ.hp av (P2 l (k:Int) fun el=>B2 P E n ops rest (σ.set i (.row e sz ver (l.set k (el.set off av)))) K)) (b7 P E n ops o rest [av] σ K)) False)
  |_=>False
 |_,_=>False
def eT(P:Program)(E:Env)(n:Nat)(ops:Array Oper)(d T:Nat)(x y:Option AV)(rest:List Oper)(σ:St)(K:St→Prop):Prop :=
 match x,y with
 |some (.v (.int .i64 m)),some (.v (.int .i64 m'))=>Ey P T fun e sz bs z=>cond (Nat.blt e K8) (G5 (m=m'∧0≤m∧bs*m.toNat≤281474976710656∧m≤9223372036854775807) (H0 σ.nx fun nx=>B2 P E n ops rest ((σ.new (.row e sz 0 (List.replicate m.toNat z))).put d (.row nx 0 m.toNat)) K)) False
 |_,_=>False
def Vn(P:Program)(E:Env)(n:Nat)(ops:Array Oper)(d T:Nat)(x y:Option AV)(rest:List Oper)(σ:St)(K:St→Prop):Prop :=
 match x,y with
 |some (.row i ver len),some (.sl lb m)=>match A5 σ.hp i with
  |some (.row e sz mK l)=>G5 (ver=mK) (Ey P T fun e' nI bs _=>cond (Nat.beq e e' && Nat.beq sz nI && Nat.beq sz lb && Nat.blt 0 sz && Nat.blt e J4) (G5 (∀el∈m,∀u∈el,Y6 u) (G5 ((len+m.length)*bs≤140737488355328∧len+m.length≤9223372036854775807)
    (B2 P E n ops rest ((σ.set i (.row e sz (ver+1) (l++m))).put d (.row i (ver+1) (len+m.length))) K))) False)
  |_=>False
 |some (.row i ver len),some (.row j sT vE)=>match A5 σ.hp i,A5 σ.hp j with
  |some (.row e sz mK l),some (.row _ lb ver2' m)=>G5 (ver=mK∧sT=ver2') (Ey P T fun e' nI bs _=>cond (Nat.beq e e' && Nat.beq sz nI && Nat.beq sz lb && Nat.blt 0 sz && Nat.blt e J4) (G5 (∀el∈m,∀u∈el,Y6 u) (G5 ((len+m.length)*bs≤140737488355328∧len+m.length≤9223372036854775807)
    (B2 P E n ops rest ((σ.set i (.row e sz (ver+1) (l++m))).put d (.row i (ver+1) (len+m.length))) K))) False)
  |_,_=>False
 |some (.v (.slice none 0 0)),some (.sl lb m)=>Ey P T fun e sz bs _=>cond (Nat.beq sz lb && Nat.blt 0 sz && Nat.blt e J4) (G5 (∀el∈m,∀u∈el,Y6 u) (G5 ((0+m.length)*bs≤140737488355328∧0+m.length≤9223372036854775807)
   (H0 σ.nx fun nx=>B2 P E n ops rest (((σ.new (.row e sz 0 [])).set nx (.row e sz 1 ([]++m))).put d (.row nx 1 (0+m.length))) K))) False
 |_,_=>False
def Vo(P:Program)(E:Env)(n:Nat)(ops:Array Oper)(d T T2:Nat)(x:Option AV)(s:List UInt8)(rest:List Oper)(σ:St)(K:St→Prop):Prop :=
 match x with
 |some (.row i ver len)=>match A5 σ.hp i with
  |some (.row e sz mK l)=>G5 (ver=mK) (Ey P T fun e' nI bs _=>Dq P T2 (cond (Nat.beq e e' && Nat.beq sz 1 && Nat.beq nI 1 && Nat.beq bs 1 && Nat.blt e J4) (eQ P e (G5 (len+s.length≤140737488355328) (B2 P E n ops rest ((σ.set i (.row e 1 (ver+1) (l++IW s))).put d (.row i (ver+1) (len+s.length))) K))) False))
  |_=>False
 |some (.v (.slice none 0 0))=>Ey P T fun e sz bs _=>Dq P T2 (cond (Nat.beq sz 1 && Nat.beq bs 1 && Nat.blt e J4) (eQ P e (G5 (0+s.length≤140737488355328) (H0 σ.nx fun nx=>B2 P E n ops rest (((σ.new (.row e 1 0 [])).set nx (.row e 1 1 ([]++IW s))).put d (.row nx 1 (0+s.length))) K))) False)
 |_=>False
def ZQ(P:Program)(E:Env)(n:Nat)(ops:Array Oper)(T:Nat)(x y z:Option AV)(rest:List Oper)(σ:St)(K:St→Prop):Prop :=
 match x,y,z with
 |some (.mp i),some po,some av=>match A5 σ.hp i,keyOf po with
  |some (.map m),some k=>Wy P T fun t _=>cond (Dp t k && J2 av) (G5 (s9 t m) (B2 P E n ops rest (σ.set i (.map (Y7 m k av))) K)) False
  |_,_=>False
 |_,_,_=>False
def ic(P:Program)(E:Env)(n:Nat)(ops:Array Oper)(o:Oper)(rest:List Oper)(σ:St)(K:St→Prop):Prop :=
 match o.dst,o.op with
 |some d,.box T x=>cond (Nat.blt d n) (W4 (F3 σ x) fun av=>Rw σ.hp av (H0 σ.nx fun nx=>B2 P E n ops rest ((σ.new (.box (K1 av))).put d (.ref nx 0)) K)) False
 |some d,.alloc T=>cond (Nat.blt d n) (Wx P T fun l=>H0 σ.nx fun nx=>B2 P E n ops rest ((σ.new (.box l)).put d (.ref nx 0)) K) False
 |none,.store T x y=>SE P E n ops ⟨o.dst,o.op,o.type,o.pos,o.after,none⟩ T (F3 σ x) (F3 σ y) rest σ K
 |some d,.makeSlice T x y=>cond (Nat.blt d n) (eT P E n ops d T (F3 σ x) (F3 σ y) rest σ K) False
 |some d,.makeMap T none=>cond (Nat.blt d n) (H0 σ.nx fun nx=>B2 P E n ops rest ((σ.new (.map [])).put d (.mp nx)) K) False
 |none,.mapUpdate T x y z=>ZQ P E n ops T (F3 σ x) (F3 σ y) (F3 σ z) rest σ K
 |some d,.call ⟨.builtin .append,⟨[x,y]⟩,⟨[T,T']⟩⟩=>match F3 σ y with
  |some (.str s)=>cond (Nat.blt d n) (Vo P E n ops d T T' (F3 σ x) s rest σ K) False
  |_=>cond (Nat.blt d n && Nat.beq T T') (Vn P E n ops d T (F3 σ x) (F3 σ y) rest σ K) False
 |some d,.call ⟨.builtin .unsafeSliceData,⟨[x]⟩,ts⟩=>b7 P E n ops ⟨o.dst,o.op,o.type,o.pos,o.after,none⟩ rest [] σ K
 |some d,.call ⟨.builtin .unsafeString,⟨[x,y]⟩,ts⟩=>b7 P E n ops ⟨o.dst,o.op,o.type,o.pos,o.after,none⟩ rest [] σ K
 |some d,.call ⟨.value (.func f),⟨args⟩,_⟩=>cond (Nat.blt d n) (match l8 (F3 σ) args with
  |some l=>cond (I8 l) (RF P f (l++[]) fun av=>B2 P E n ops rest (σ.put d av) K) (b7 P E n ops ⟨o.dst,o.op,o.type,o.pos,o.after,none⟩ rest l σ K)
  |none=>False) False
 |some d,.call ⟨.value (.tmp t),⟨args⟩,ts⟩=>match F3 σ (.tmp t),l8 (F3 σ) args with
  |some (.fo _ caps),some l=>b7 P E n ops ⟨o.dst,o.op,o.type,o.pos,o.after,none⟩ rest (l++caps) σ K
  |_,_=>cond (Nat.blt d n) (Fh P (.call ⟨.value (.tmp t),⟨args⟩,ts⟩) (F3 σ) σ.hp fun av=>B2 P E n ops rest (σ.put d av) K) False
 |some d,.buildSlice T len ⟨parts⟩=>match Bo (F3 σ) parts with
  |some ps=>cond (ps.all fun p=>J2 p.2) (cond (Nat.blt d n) (Fh P (.buildSlice T len ⟨parts⟩) (F3 σ) σ.hp fun av=>B2 P E n ops rest (σ.put d av) K) False) (b7 P E n ops ⟨o.dst,o.op,o.type,o.pos,o.after,none⟩ rest (ps.map (·.2)) σ K)
  |none=>False
 |some d,.slice T x lo hi none=>match F3 σ x with
  |some (.row i v len)=>b7 P E n ops ⟨o.dst,o.op,o.type,o.pos,o.after,none⟩ rest [.row i v len] σ K
  |_=>cond (Nat.blt d n) (Fh P (.slice T x lo hi none) (F3 σ) σ.hp fun av=>B2 P E n ops rest (σ.put d av) K) False
 |some d,.makeFunc f ⟨x::xs⟩ ⟨[]⟩=>b7 P E n ops ⟨o.dst,o.op,o.type,o.pos,o.after,none⟩ rest [] σ K
 |some d,.makeFunc f ⟨[]⟩ ⟨xs⟩=>cond (Nat.blt d n) (match l8 (F3 σ) xs with
  |some l=>cond (I8 l) (Fh P (.makeFunc f ⟨[]⟩ ⟨xs⟩) (F3 σ) σ.hp fun av=>B2 P E n ops rest (σ.put d av) K) (b7 P E n ops ⟨o.dst,o.op,o.type,o.pos,o.after,none⟩ rest l σ K)
  |none=>False) False
 |some d,op=>cond (Nat.blt d n) (Fh P op (F3 σ) σ.hp fun av=>B2 P E n ops rest (σ.put d av) K) False
 |_,_=>False
theorem SG{T:Nat}(h:SE P E n ops ⟨none,.store T x y,ty,pos,after,none⟩ T (F3 σ x) (F3 σ y) rest σ K):B2 P E n ops (⟨none,.store T x y,ty,pos,after,none⟩::rest) σ K:=by
 unfold SE at h
 split at h
 ·rename_i hx hy
  split at h
  ·rename_i hb
   obtain⟨⟨ag,sz,tv,h⟩⟩:=h
   obtain⟨hs,h⟩:=cond_false h
   simp only[Bool.and_eq_true,Nat.beq_eq,Nat.ble_eq]at hs
   obtain⟨hf,h⟩:=Iz h
   obtain⟨ho,h⟩:=Mr h
   exact OR (ag:=ag) (sz:=sz) hx hy hb hf ho hs.1 hs.2 h
  ·exact h.elim
 ·rename_i hx hy
  split at h
  ·rename_i e sz mK l hb
   obtain⟨⟨rfl,nQ⟩,h⟩:=h
   obtain⟨⟨ag,szT,tv,h⟩⟩:=h
   obtain⟨hs,h3⟩:=cond_false h
   clear h
   cases ag with
   |true=>cases hs
   |false =>
    have h4:=h3
    clear h3
    cases ly:J2 _ with
    |false =>
     rw[ly]at h4
     exact h4.h
    |true =>
     rw[ly]at h4
     obtain⟨ho,h⟩:=Iy h4
     obtain⟨h0,h1,hk⟩:=h
     rename_i k _ _ _
     have lY:k<l.length:=by omega
     have lU:l[k]?=some l[k]:=List.getElem?_eq_getElem lY
     have lh:(Nat.beq szT 1 && AB e)=true:=hs
     rw[Bool.and_eq_true]at lh
     exact OS (szT:=szT) hx hy hb lU nQ (Nat.eq_of_beq_eq_true lh.1) ly ho (hk _ (by rw[Int.toNat_natCast];exact lU)) lh.2
  ·exact h.elim
 ·exact h.elim
theorem ZR{o:Oper}(hg:o.guard=none)(h:ic P E n ops o rest σ K):B2 P E n ops (o::rest) σ K:=by
 obtain⟨dst,op,ty,pos,after,guard⟩:=o
 simp only at hg
 subst hg
 have quiet:∀{d:Nat} {op:Op},Nat.blt d n=true→Fh P op (F3 σ) σ.hp (fun av=>B2 P E n ops rest (σ.put d av) K)→B2 P E n ops (⟨some d,op,ty,pos,after,none⟩::rest) σ K:=by
  intro d op hd h
  obtain⟨av,hq,h⟩:=eR (E:=E) (nx:=σ.nx) (ty:=ty) h
  exact Ij hq hd h
 unfold ic at h
 simp only at h
 split at h
 ·rename_i ho
  obtain⟨hd,h⟩:=cond_false h
  obtain⟨av,hx,h⟩:=J6 h
  obtain⟨hf,h⟩:=Iz h
  exact bY hx hf hd (D8 h)
 ·obtain⟨hd,h⟩:=cond_false h
  obtain⟨⟨l,tz,h⟩⟩:=h
  exact Wu (l:=l) hd (D8 h)
 ·exact SG h
 ·obtain⟨hd,h⟩:=cond_false h
  unfold eT at h
  split at h
  ·rename_i hx hy
   obtain⟨⟨e,sz,bs,z,ts,tz,tb,hz,h⟩⟩:=h
   obtain⟨ob,hq⟩:=cond_false h
   clear h
   obtain⟨⟨rfl,h0,h1,h2⟩,hq⟩:=hq
   exact ZJ (e:=e) (z:=z) (by_:=bs) hx hy h0 h1 h2 hz (Nat.blt_eq▸ob) hd (D8 hq)
  ·exact h.elim
 ·obtain⟨hd,h⟩:=cond_false h
  exact Rq hd (D8 h)
 ·unfold ZQ at h
  split at h
  ·rename_i hx hy hz
   split at h
   ·rename_i hb hk
    obtain⟨⟨k,e,t,z,tm,h⟩⟩:=h
    obtain⟨hc,h⟩:=cond_false h
    simp only[Bool.and_eq_true]at hc
    exact OT (T:=_) hx hb hy hk hc.1 h.h hz hc.2 h.k
   ·exact h.elim
  ·exact h.elim
 ·split at h
  ·rename_i wh
   obtain⟨hd,h3⟩:=cond_false h
   clear h
   unfold Vo at h3
   split at h3
   ·rename_i hx
    split at h3
    ·rename_i hb
     obtain⟨rfl,h⟩:=h3
     obtain⟨⟨e,sz,bs,z,ts,tz,tb,hz,h⟩⟩:=h
     obtain⟨tu,h⟩:=h
     obtain⟨hc,h5⟩:=cond_false h
     clear h
     simp only[Bool.and_eq_true,Nat.beq_eq,Nat.blt_eq]at hc
     obtain⟨⟨⟨⟨rfl,rfl⟩,rfl⟩,rfl⟩,mW⟩:=hc
     obtain⟨⟨lX,h⟩⟩:=h5
     exact Mg hx hb wh mW lX hd h
    ·exact h3.elim
   ·rename_i hx
    obtain⟨⟨e,sz,bs,z,ts,tz,tb,hz,h⟩⟩:=h3
    obtain⟨tu,h⟩:=h
    obtain⟨hc,h5⟩:=cond_false h
    clear h
    simp only[Bool.and_eq_true,Nat.beq_eq,Nat.blt_eq]at hc
    obtain⟨⟨rfl,rfl⟩,mW⟩:=hc
    obtain⟨⟨lX,h⟩⟩:=h5
    exact Ir hx wh mW lX hd (D8 h)
   ·exact h3.elim
  rename_i wh
  clear wh
  obtain⟨hd,h3⟩:=cond_false h
  clear h
  have h:=h3
  clear h3
  simp only[Bool.and_eq_true,Nat.beq_eq]at hd
  obtain⟨hd,rfl⟩:=hd
  unfold Vn at h
  split at h
  ·rename_i hx hy
   split at h
   ·rename_i hb
    obtain⟨rfl,h⟩:=h
    obtain⟨⟨e,sz,bs,z,ts,tz,tb,hz,h⟩⟩:=h
    obtain⟨hc,h3⟩:=cond_false h
    clear h
    simp only[Bool.and_eq_true,Nat.beq_eq,Nat.blt_eq]at hc
    obtain⟨⟨⟨⟨rfl,rfl⟩,rfl⟩,lz⟩,mW⟩:=hc
    obtain⟨mY,h⟩:=h3
    obtain⟨lX,h⟩:=h
    exact Mh (z:=z) (by_:=bs) hx hb hy mY hz lz mW lX.1 lX.2 hd h
   ·exact h.elim
  ·rename_i hx hy
   split at h
   ·rename_i hb mC
    obtain⟨⟨rfl,rfl⟩,h⟩:=h
    obtain⟨⟨e,sz,bs,z,ts,tz,tb,hz,h⟩⟩:=h
    obtain⟨hc,h3⟩:=cond_false h
    clear h
    simp only[Bool.and_eq_true,Nat.beq_eq,Nat.blt_eq]at hc
    obtain⟨⟨⟨⟨rfl,rfl⟩,rfl⟩,lz⟩,mW⟩:=hc
    obtain⟨mY,h⟩:=h3
    obtain⟨lX,h⟩:=h
    exact Lb (z:=z) (by_:=bs) hx hb hy mC mY hz lz mW lX.1 lX.2 hd h
   ·exact h.elim
  ·rename_i hx hy
   obtain⟨⟨e,sz,bs,z,ts,tz,tb,hz,h⟩⟩:=h
   obtain⟨hc,h3⟩:=cond_false h
   clear h
   simp only[Bool.and_eq_true,Nat.beq_eq,Nat.blt_eq]at hc
   obtain⟨⟨rfl,lz⟩,mW⟩:=hc
   obtain⟨mY,h⟩:=h3
   obtain⟨lX,h⟩:=h
   exact Mi (z:=z) (by_:=bs) hx hy mY hz lz mW lX.1 lX.2 hd (D8 h)
  ·exact h.elim
 ·exact h.h
 ·exact h.h
 ·obtain⟨hd,h⟩:=cond_false h
  split at h
  ·rename_i l hl
   cases hc:I8 l with
   |true =>
    rw[hc]at h
    obtain⟨⟨r,hr,h⟩⟩:=h
    rw[List.append_nil]at hr
    exact Ij (Ri hr hl hc) hd h
   |false =>
    rw[hc]at h
    exact h.h
  ·exact h.elim
 ·split at h
  ·exact h.h
  ·obtain⟨hd,h⟩:=cond_false h
   exact quiet hd h
 ·split at h
  ·rename_i ps pn
   cases hc:ps.all fun p=>J2 p.2 with
   |true =>
    rw[hc]at h
    obtain⟨hd,h⟩:=cond_false h
    exact quiet hd h
   |false =>
    rw[hc]at h
    exact h.h
  ·exact h.elim
 ·split at h
  ·exact h.h
  ·obtain⟨hd,h⟩:=cond_false h
   exact quiet hd h
 ·exact h.h
 ·obtain⟨hd,h⟩:=cond_false h
  split at h
  ·rename_i l hl
   cases hc:I8 l with
   |true =>
    rw[hc]at h
    exact quiet hd h
   |false =>
    rw[hc]at h
    exact h.h
  ·exact h.elim
 ·obtain⟨hd,h⟩:=cond_false h
  exact quiet hd h
 ·exact h.elim
structure O7(b g:Bool)(A B:Prop):Prop where
 t:b=g→A
 f:b=(!g)→B
theorem bw{A B:Prop}(k:A):O7 true true A B:=⟨fun _=>k,fun h=>by cases h⟩
theorem bz{A B:Prop}(k:A):O7 false false A B:=⟨fun _=>k,fun h=>by cases h⟩
theorem cB{A B:Prop}(k:B):O7 true false A B:=⟨(fun h=>by cases h),fun _=>k⟩
theorem cC{A B:Prop}(k:B):O7 false true A B:=⟨(fun h=>by cases h),fun _=>k⟩
theorem cD{p A B:Prop}[Decidable p](h1:p→A)(h2:¬p→B):O7 (decide p) true A B:=⟨fun h=>h1 (of_decide_eq_true h),fun h=>h2 (of_decide_eq_false h)⟩
theorem cE{p A B:Prop}[Decidable p](h1:¬p→A)(h2:p→B):O7 (decide p) false A B:=⟨fun h=>h1 (of_decide_eq_false h),fun h=>h2 (of_decide_eq_true h)⟩
theorem cF{b:Bool}{A B:Prop}(h1:b=true→A)(h2:b=false→B):O7 b true A B:=⟨h1,h2⟩
theorem cG{b:Bool}{A B:Prop}(h1:b=false→A)(h2:b=true→B):O7 b false A B:=⟨h1,h2⟩
theorem ZS{p A B:Prop}[Decidable p](h1:¬p→A)(h2:p→B):O7 (!decide p) true A B:=⟨fun h=>h1 (by simpa using h),fun h=>h2 (by simpa using h)⟩
theorem ZT{p A B:Prop}[Decidable p](h1:p→A)(h2:¬p→B):O7 (!decide p) false A B:=⟨fun h=>h1 (by simpa using h),fun h=>h2 (by simpa using h)⟩
theorem ZU{b:Bool}{A B:Prop}(h1:b=false→A)(h2:b=true→B):O7 (!b) true A B:=⟨fun h=>h1 (by simpa using h),fun h=>h2 (by simpa using h)⟩
theorem ZV{b:Bool}{A B:Prop}(h1:b=true→A)(h2:b=false→B):O7 (!b) false A B:=⟨fun h=>h1 (by simpa using h),fun h=>h2 (by simpa using h)⟩
def ig(P:Program)(E:Env)(n:Nat)(ops:Array Oper)(l:List Oper)(σ:St)(K:St→Prop):Prop :=
 match l with
 |[]=>K σ
 |⟨dst,op,ty,pos,after,none⟩::rest=>ic P E n ops ⟨dst,op,ty,pos,after,none⟩ rest σ K
 |⟨some dd,op,ty,pos,after,some (j,g)⟩::rest=>match (ops[j]?).bind (·.dst)with
  |some dj=>cond (Nat.blt dd n) (match look σ.sl dj with
   |some (.v (.bool b))=>O7 b g (B2 P E n ops (⟨some dd,op,ty,pos,after,none⟩::rest) (σ.put dj (.v (.bool g))) K)
     (B2 P E n ops rest ((σ.put dj (.v (.bool !g))).put dd (.v undef)) K)
   |some (.v (.tuple t))=>B2 P E n ops rest (σ.put dd (.v undef)) K
   |_=>False) False
  |none=>False
 |⟨none,_,_,_,_,some _⟩::_=>False
theorem DX{l:List Oper}(h:ig P E n ops l σ K):B2 P E n ops l σ K:=by
 unfold ig at h
 split at h
 ·exact bP h
 ·exact ZR rfl h
 ·split at h
  ·rename_i dj hj
   obtain⟨pL,h⟩:=cond_false h
   split at h
   ·rename_i b hb
    exact RX hj hb pL h.t h.f
   ·rename_i t hb
    exact IR hj hb rfl pL h
   ·exact h.elim
  ·exact h.elim
 ·exact h.elim
structure Mz(P:Program)(E:Env)(n:Nat)(c:Code)(σ:St)(Q:Exit→St→Prop):Prop where
 h:C7 P E n (.loop c) σ Q
structure Cr(P:Program)(E:Env)(n:Nat)(id:Nat)(ops:Array Oper)(σ:St)(Q:Exit→St→Prop):Prop where
 h:C7 P E n (.region id ops true) σ Q
def XE(P:Program)(E:Env)(n:Nat)(c:Code)(σ:St)(Q:Exit→St→Prop):Prop :=
 match c with
 |.seq a b=>C7 P E n a σ (RB (fun σ'=>C7 P E n b σ' Q) Q)
 |.region _ ops false=>B2 P E n ops ops.toList σ (fun σ'=>Q .normal σ')
 |.region id ops true=>Cr P E n id ops σ Q
 |.skip=>Q .normal σ
 |.ret=>Q .ret σ
 |.exit i=>Q (.exit i) σ
 |.block id c=>C7 P E n c σ (MS id Q)
 |.cond (.tmp t) a b=>match look σ.sl t with
  |some (.v (.bool c))=>Bx c (C7 P E n a (σ.put t (.v (.bool true))) Q) (C7 P E n b (σ.put t (.v (.bool false))) Q)
  |_=>False
 |.cond (.const (.bool true)) a b=>C7 P E n a σ Q
 |.cond (.const (.bool false)) a b=>C7 P E n b σ Q
 |.loop c=>Mz P E n c σ Q
 |_=>False
theorem ZW{c:Code}(h:XE P E n c σ Q):C7 P E n c σ Q:=by
 unfold XE at h
 split at h
 ·exact ey h
 ·exact Wj rfl h
 ·exact h.h
 ·exact bQ h
 ·exact ez h
 ·exact bR h
 ·exact Yt h
 ·split at h
  ·rename_i hc;exact Wm hc h.t h.f
  ·exact h.elim
 ·exact Wk rfl h
 ·exact Wl rfl h
 ·exact h.h
 ·exact h.elim
theorem B0{ι:Type}{c:Code}(S:ι→St)(I:ι→Prop)(m:ι→Nat)(x0:ι)(hI:I x0)(h0:St.le E n σ (S x0))
  (h:∀x,I x→C7 P E n c (S x) (RB (fun σ'=>∃y,I y∧m y<m x∧St.le E n σ' (S y)) Q)):Mz P E n c σ Q:=⟨bS S I m x0 hI h0 h⟩
end rules
end Go.Av
