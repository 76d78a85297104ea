/- Rows of bytes out of which a text was made, and that go on. -/
import Derived.Test.YtiphlhoclaogjaaGreatDoorQAvH
import Derived.Test.YtiphlhoclaogjaaGreatDoorQE3
import Derived.Lib.Builder
import Derived.Lib.UnsafeStr
import Derived.Lib.SliceRun
import Derived.Test.YtiphlhoclaogjaaGreatDoorQTa2
set_option linter.unusedSimpArgs false
set_option linter.unusedVariables false
set_option linter.unnecessarySimpa false
set_option maxHeartbeats 64000000
namespace Go.Av
open Go Go.RowKit
theorem IZ{g t:Nat}{fz:Nat×Nat}:∀(vs:List Value) (o:Nat) (w:World) (nj:Array Value),w.heap[g]?=some (.cells nj t fz)→o+vs.length≤nj.size →
  (w.setCells g o vs).heap[g]?=some (.cells (nj.toList.take o++vs++nj.toList.drop (o+vs.length)).toArray t fz)∧(∀k,k≠g→(w.setCells g o vs).heap[k]?=w.heap[k]?)∧(w.setCells g o vs).heap.size=w.heap.size∧(w.setCells g o vs).os=w.os∧(w.setCells g o vs).tape=w.tape∧(w.setCells g o vs).output=w.output
 |[],o,w,nj,h,hl=>by
  refine⟨?_,fun _ _=>rfl,rfl,rfl,rfl,rfl⟩
  simp only[World.setCells,h,List.append_nil,List.length_nil,Nat.add_zero,List.take_append_drop,Array.toArray_toList]
 |v::r,o,w,nj,h,hl=>by
  simp only[List.length_cons]at hl
  have h1:(w.setCell ⟨g,o,none⟩ v).heap[g]?=some (.cells (nj.setIfInBounds o v) t fz):=by
   simp[World.setCell,Array.getElem?_modify,h]
  obtain⟨q1,q2,q3,q4,q5,q6⟩:=IZ r (o+1) (w.setCell ⟨g,o,none⟩ v) (nj.setIfInBounds o v) h1 (by simp;omega)
  refine⟨?_,fun k hk=>?_,?_,?_,?_,?_⟩
  ·rw[World.setCells,q1]
   congr 3
   rw[Array.toList_setIfInBounds]
   have ho:o<nj.toList.length:=by simp;omega
   rw[List.take_add_one,List.getElem?_set_self ho,List.take_set_of_le (Nat.le_refl _),List.drop_set_of_lt (by omega)]
   simp only[Option.toList,List.append_assoc,List.singleton_append,List.length_cons]
   rw[Nat.add_assoc o 1,Nat.add_comm 1]
  ·rw[World.setCells,q2 k hk]
   simp[World.setCell,Array.getElem?_modify,Ne.symm hk]
  ·rw[World.setCells,q3];simp[World.setCell]
  ·rw[World.setCells,q4];rfl
  ·rw[World.setCells,q5];rfl
  ·rw[World.setCells,q6];rfl
section rules
variable {P:Program} {E:Env} {n:Nat} {ops:Array Oper} {rest:List Oper} {σ:St} {K:St→Prop} {d:Nat} {ty:TypeId} {pos:String} {after:Array Edge} {x y:Operand} {L:List AV}
theorem lO{e:Nat}(he:e<J5):u4 (t8+e)=false∧t8+e<K2∧a9 (t8+e)=false:=by
 unfold J5 at he
 have h1:Nat.blt (t8+e) t8=false:=by
  cases hb:Nat.blt (t8+e) t8 with
  |false=>rfl
  |true=>have:=Nat.blt_eq▸hb;omega
 refine⟨by unfold u4;rw[h1,XX (by unfold t8 K2;omega)];rfl,by unfold t8 K2;omega,?_⟩
 unfold a9
 rw[h1,XX (a:=T0) (by unfold t8 T0;omega),Bool.and_false,Bool.or_false]
theorem L9.fz{w:World}{g e:Nat}{nj:Array Value}(h:L9 w g nj (t8+e))(he:e<J5):∃fz,w.heap[g]?=Option.some (.cells nj e fz):=by
 obtain⟨h1,h2,_⟩:=lO he
 rcases h with ⟨h,_⟩|⟨_,h,_⟩|⟨_,h,_⟩|⟨_,fz,h⟩
 ·unfold t8 L0 at h;omega
 ·unfold t8 L0 at h;omega
 ·rw[h1]at h;cases h
 ·exact⟨fz,by rw[Nat.add_sub_cancel_left]at h;exact h⟩
theorem L9.mine{w:World}{g e F:Nat}{nj:Array Value}(h:L9 w g nj (F+e))(he:e<J5)(hF:F=0∨F=t8):∃fz,w.heap[g]?=Option.some (.cells nj e fz)∧(F=0→fz=(0,0)):=by
 rcases hF with rfl|rfl
 ·rw[Nat.zero_add]at h
  rcases h with ⟨_,h⟩|⟨h,_⟩|⟨h,_⟩|⟨h,_⟩
  ·exact⟨_,h,fun _=>rfl⟩
  ·omega
  ·unfold J5 at he;unfold L0 at h;omega
  ·rw[Gw (k0 he)]at h;cases h
 ·obtain⟨fz,h⟩:=h.fz he
  exact⟨fz,h,fun h=>by unfold t8 at h;omega⟩
end rules
section rules
variable {P:Program} {E:Env} {n:Nat} {ops:Array Oper} {rest:List Oper} {σ:St} {K:St→Prop} {d:Nat} {ty:TypeId} {pos:String} {after:Array Edge} {x y:Operand}
theorem Tn{g:Nat}:∀(vs:List Value) (o:Nat) (w:World),vs=[]→w.setCells g o vs=w
 |[],_,_,_=>rfl
 |_::_,_,_,h=>by cases h
theorem Yn{T e:Nat}{z:Value}[ts:L7 P T e 1](hz:z.cells=#[z]∧z.oneCell'=true)(hzi:(P.info? e).bind (·.zero)=some z){i ver lo len:Nat}{l:List (List AV)}(hx:F4 σ x=some (.sub i ver lo len))(hb:A5 σ.hp i=some (.row e 1 ver l))(rK:lo+len=l.length)(oZ:Nat.blt e J5=true)
  (k:B1 P E n ops rest (σ.set i (.row e 1 ver (l.take lo++List.replicate len [.v z]))) K):B1 P E n ops (⟨none,.call ⟨.builtin .clear,#[x],#[T]⟩,ty,pos,after,none⟩::rest) σ K:=by
 intro a w ⟨θ,hs⟩
 have oZ:=Nat.blt_eq▸oZ
 obtain⟨sO,ql,oH⟩:=Wm (hs.ev hx) hb
 obtain⟨_,xs,ho,qT,oc,_⟩:=hs.owns i _ hb
 have hU:=ts.out.1
 obtain⟨ti,wO,oW⟩:=Option.bind_eq_some_iff.1 hzi
 have sf:∀w,(zeroValue e).run P w=.ok z w:=k7 wO oW
 have rQ:∃x m c,θ i=.slice x m c:=by
  rcases ho.2 with ⟨h1,_⟩|⟨g,cap,nj,h1,_⟩<;>exact⟨_,_,_,h1⟩
 unfold wpList
 rw[if_pos (by simp[Region.wanted])]
 left
 have key:∃w',(execOp a.eval ⟨none,.call ⟨.builtin .clear,#[x],#[T]⟩,ty,pos,after,none⟩).run P w=.ok (.value (.tuple #[])) w'∧w'.os=w.os∧w'.tape=w.tape∧w'.output=w.output∧w'.heap.size=w.heap.size ∧
   (∀k,fp (θ i)≠some k→w'.heap[k]?=w.heap[k]?)∧R7 w' e 1 (θ i) (l.take lo++List.replicate len [AV.v z]).length (xs.take lo++List.replicate len z):=by
  have nZ:(l.take lo++List.replicate len [AV.v z]).length=l.length:=by simp;omega
  rw[nZ]
  have wD:xs.length=l.length:=by rw[ho.1,Nat.mul_one]
  have xq:(xs.take lo++List.replicate len z).length=l.length*1:=by simp;omega
  rcases ql with ⟨h1,h2,rfl,rfl⟩|⟨g,n',cap,h1,h2⟩
  ·refine⟨w,?_,rfl,rfl,rfl,rfl,fun _ _=>rfl,⟨xq,?_⟩⟩
   ·rw[S0,h2]
    simp[builtin,Builtin.clear_,run_underlying hU,Sem.run_bind,Sem.run_pure,sf]
   ·rcases ho.2 with ⟨h3,h4⟩|⟨g',ot,nj,h3,_⟩
    ·exact .inl ⟨h3,h4⟩
    ·have qq:θ i=.slice (some ⟨g',0,none⟩) l.length ot:=h3
     have oK:θ i=.slice none 0 0:=h1
     rw[oK]at qq;cases qq
  ·have oK:θ i=.slice (some ⟨g,0,none⟩) n' cap:=h1
   rcases ho.2 with ⟨h3,h4⟩|⟨g',ot,nj,h3,h4,h5,h6,h7,h8,h9⟩
   ·have qq:θ i=.slice none 0 0:=h3
    rw[oK]at qq;cases qq
   ·have qq:θ i=.slice (some ⟨g',0,none⟩) l.length ot:=h3
    rw[oK]at qq
    cases qq
    have zm:w.heap[g]?=some (.cells nj e (0,0)):=by
     rcases h5 with ⟨_,hg⟩|⟨h2,_⟩|⟨h2,_⟩|⟨h2,_⟩
     ·exact hg
     ·omega
     ·unfold J5 at oZ;unfold L0 at h2;omega
     ·rw[Gw (k0 oZ)]at h2;cases h2
    rw[Nat.mul_one]at h8
    have nu:lo+(List.replicate len z).length≤nj.size:=by simp;omega
    obtain⟨q1,q2,q3,q4,q5,q6⟩:=IZ (List.replicate len z) lo w nj zm nu
    refine⟨w.setCells g lo (List.replicate len z),?_,q4,q5,q6,q3,fun k hk=>q2 k fun e=>hk (by rw[oK,e];rfl),⟨xq,.inr ⟨g,cap,_,oK,.lt (k0 oZ),.inl ⟨by unfold J5 at oZ;unfold L0;omega,q1⟩,h6,h7,?_,?_⟩⟩⟩
    ·rw[S0,h2]
     by_cases ru:len=0
     ·subst ru
      have:w.setCells g lo (List.replicate 0 z)=w:=Tn _ _ _ rfl
      rw[this]
      simp[builtin,Builtin.clear_,run_underlying hU,Sem.run_bind,Sem.run_pure,sf]
     ·have oY:¬cap=lo:=by omega
      rw[if_neg oY,Nat.mul_one]
      have hr:=Lib.run_clear_slice (P:=P) w T e ty z hU sf hz.1 hz.2 g lo len (cap-lo) (by omega) (fun j hj=>by rw[K1 zm];simp;omega) (fun j hj=>by simp[World.frozen?,zm])
      simp[builtin,Sem.run_bind,Sem.run_pure,hr]
    ·simp;omega
    ·have nz:nj.toList.length=cap:=by simpa using h8
     have h9':nj.toList.take l.length=xs:=by simpa using h9
     rw[List.toList_toArray,Nat.mul_one,List.take_append_of_le_length (by simp;omega),←h9',List.take_take]
     rw[List.take_of_length_le (by simp;omega)]
     congr 2
     omega
 obtain⟨w',hex,h1,h2,h3,h4,h5,h6⟩:=key
 simp only[Oper.wp,hex,Oper.upon]
 have ht:=hs.turn (v':=θ i) (b':=.row e 1 ver (l.take lo++List.replicate len [.v z])) (w':=w') (hkp:=fun _ _ _ _ h hk _=>by cases h;rw[Gy oZ]at hk;cases hk) (hne:=fun h=>by rw[N2 (Q3 oZ)]at h;cases h) hb h1 h2 h3 (by omega) (fun k _ hk=>h5 k hk) (fun k hk=>.inl hk)
  ⟨rQ,e,ver,l,rfl,.inr ⟨rfl,by simp;omega,rfl⟩⟩ fun le=>by
  refine⟨xs.take lo++List.replicate len z,by simp only[cx,E7];exact h6,fun el nX=>?_,fun q el hq j x hx=>?_,.lt (Q3 oZ)⟩
  ·rcases List.mem_append.1 nX with h|h
   ·exact qT el (List.mem_of_mem_take h)
   ·rw[List.eq_of_mem_replicate h];rfl
  ·have wD:xs.length=l.length:=by rw[ho.1,Nat.mul_one]
   rw[List.getElem?_append]at hq
   split at hq
   ·rename_i nf
    rw[List.length_take]at nf
    rw[List.getElem?_take,if_pos (by omega)]at hq
    obtain⟨y,hy,hi⟩:=oc q el hq j x hx
    have hj:j=0:=by
     have h1:=qT el (List.mem_of_getElem? hq)
     have h2:=(List.getElem?_eq_some_iff.1 hx).1
     omega
    subst hj
    refine⟨y,?_,hi.mono le.heap le.U⟩
    rw[Nat.mul_one,Nat.add_zero]at hy ⊢
    rw[List.getElem?_append_left (by rw[List.length_take];omega),List.getElem?_take,if_pos (by omega)]
    exact hy
   ·rename_i nf
    rw[List.length_take]at nf
    rw[List.getElem?_replicate]at hq
    split at hq
    ·rename_i pI
     cases hq
     cases j with
     |zero =>
      cases hx
      refine⟨z,?_,.v _⟩
      rw[Nat.mul_one,Nat.add_zero,List.getElem?_append_right (by rw[List.length_take];omega),List.length_take,List.getElem?_replicate,if_pos (by rw[List.length_take]at pI;omega)]
     |succ j=>simp at hx
    ·cases hq
 exact k _ _ ⟨_,by simpa [Act.put]using ht⟩
theorem Kh{T e:Nat}(hU:P.underlying T=some (.slice e))(m:Nat)(p:Option Addr)(l c:Nat)(w:World):(Op.equalIn (m+1) T (.slice p l c) (.slice none 0 0)).run P w=.ok p.isNone w:=by
 rw[Op.equalIn]
 simp only[Sem.run_bind,run_underlying hU,Result.andThen_ok]
 cases p<;>rfl
theorem Fs{T e:Nat}(hU:P.underlying T=some (.slice e))(p:Option Addr)(l c:Nat)(w:World):(Op.equal T (.slice p l c) (.slice none 0 0)).run P w=.ok p.isNone w:=Kh hU 9999 p l c w
theorem Nq{T T2 e s0 sz:Nat}[ts:L7 P T e s0]{l:List (List AV)}(hx:F4 σ x=some (.sl sz l))(hy:F4 σ y=some (.v (.slice none 0 0)))(hd:Nat.blt d n=true)(k:∀b:Bool,(b=true→l=[])→B1 P E n ops rest (σ.put d (.v (.bool b))) K):
  B1 P E n ops (⟨some d,.binOp .eql T x y T2,ty,pos,after,none⟩::rest) σ K:=by
 intro a w ⟨θ,hs⟩
 have hU:=ts.out.1
 have tJ:=(hs.ev hy).val
 unfold wpList
 rw[if_pos (by simp[Region.wanted])]
 left
 obtain⟨b,uD,hr⟩:∃b:Bool,(b=true→l=[])∧(execOp a.eval ⟨some d,.binOp .eql T x y T2,ty,pos,after,none⟩).run P w=.ok (.value (.bool b)) w:=by
  rcases Es (hs.ev hx)with ⟨h1,h2⟩|⟨p,cap,f,h1,_⟩
  ·refine⟨true,fun _=>h2,K3 ?_ ?_⟩
   ·rw[h1,tJ];simp[eqGuard,Sem.run_pure]
   ·rw[h1,tJ];simp[binOp,Fs hU,Sem.run_bind,Sem.run_pure]
  ·refine⟨false,fun h=>absurd h (by decide),K3 ?_ ?_⟩
   ·rw[h1,tJ];simp[eqGuard,Sem.run_pure]
   ·rw[h1,tJ];simp[binOp,Fs hU,Sem.run_bind,Sem.run_pure]
 unfold Oper.wp
 rw[hr]
 exact k b uD _ _ ⟨θ,hs.put (Nat.blt_eq▸hd) (.im (.v _))⟩
end rules
end Go.Av
namespace Go.Proofs.YtiphlhoclaogjaaGreatDoor
open Go Go.Av
attribute [local irreducible] C7 B1 D1 C8 DQ D0 C6 St.le A3 B8
set_option maxRecDepth 100000
theorem Ja{E:Env}{n:Nat}{σ:St}(i j:Nat){e sz:Nat}{l:List AV}(hb:A5 σ.hp i=some (.box l))(hj:l[j]?=some (.v (.slice none 0 0)))(he:Nat.blt e K2=true:=by rfl):St.le E n σ ((σ.new (.row e sz 0 [])).set i (.box (l.set j (.row σ.nx 0 0)))):=by
 unfold St.le
 rintro a w ⟨θ,h⟩
 have h2:=h.grow (w':=w) (Go.RowKit.Below.refl _ _) (.slice none 0 0) (.row e sz 0 []) (fun k hk=>by cases hk) (fun le=>⟨[],⟨by simp,.inl ⟨by simp[cx,E7],rfl⟩⟩,(fun el nX=>by cases nX),(fun k el hk=>by simp at hk),.lt (Nat.blt_eq▸he)⟩) (N2 (Nat.blt_eq▸he))
 have nf:=(h.owns i _ hb).1
 have pd:A5 (σ.new (.row e sz 0 [])).hp i=some (.box l):=by
  simp only[St.new,F7]
  rw[if_neg (by omega)];exact hb
 obtain⟨_,b,oG,ty,h3,h4,h5,h6⟩:=h2.owns i _ pd
 refine⟨_,h2.turn (v':=Go.Av.upd θ σ.nx (.slice none 0 0) i) (b':=.box (l.set j (.row σ.nx 0 0))) (w':=w) pd rfl rfl rfl (Nat.le_refl _) (fun _ _ _=>rfl) (fun k hk=>.inl hk) rfl fun le=>?_⟩
 refine⟨b,oG,ty,by simp only[cx,E7];exact h3,h4,by rw[List.length_set];exact h5,fun q x y hx hy=>?_⟩
 rw[List.getElem?_set]at hx
 split at hx
 ·rename_i eq
  subst eq
  split at hx
  ·cases hx
   have hv:=(h6 j _ y hj hy).val
   rw[hv]
   refine .row _ _ _ _ (by simp[cx,St.new,St.set]) fun e' ni v' l' hl=>?_
   simp only[cx,St.new,St.set,F7]at hl
   rw[if_neg (by omega)]at hl
   simp only[if_true]at hl
   cases hl
   refine⟨Nat.le_refl _,fun _=>⟨rfl,?_⟩⟩
   simp only[cx]
   rw[O0 _ _ (by omega),E7]
  ·cases hx
 ·exact(h6 q x y hx hy).mono le
end Go.Proofs.YtiphlhoclaogjaaGreatDoor
namespace Go.Av
open Go Go.RowKit
def nD:Op→Bool
 |.buildSlice ..=>true
 |_=>false
def bg(ops:Array Oper)(n:Nat)(done:List Bool)(mb:List MB)(sl:List (Nat×AV))(i:Nat):Bool :=
 RY ops n done mb sl i && match ops[i]? with
  |some o=>!(nD o.op)
  |none=>false
def lP(P:Program)(E:Env)(n:Nat)(ops:Array Oper)(done:List Bool)(mb:List MB)(σ:St)(K:St→Prop):Prop :=
 match (List.range ops.size).find? (bg ops n done mb σ.sl)with
 |some i=>match ops[i]? with
  |some ⟨some d,op,_,_,_,none⟩=>CW (Lk op (M5 mb++σ.sl)) fun rd=>MV P op (F4 ⟨rd,0,[]⟩) fun av=>C8 P E n ops done (⟨i,d,av,rd⟩::mb) σ K
  |_=>False
 |none=>RU (HS ops done mb) fun L=>match L with
  |[]=>cond (RV ops done mb) (K ⟨M5 mb++σ.sl,σ.nx,σ.hp⟩) False
  |i::r=>NM P E n ops done mb σ K (i::r)
theorem Cm{P:Program}{E:Env}{n:Nat}{ops:Array Oper}{done:List Bool}{mb:List MB}{σ:St}{K:St→Prop}(nZ:Nat.beq done.length ops.size=true)(oE:Gc ops=true)(h:lP P E n ops done mb σ K):C8 P E n ops done mb σ K:=by
 unfold lP at h
 split at h
 ·rename_i i hi
  have qt:=List.find?_some hi
  unfold bg at qt
  simp only[Bool.and_eq_true]at qt
  have hc:=qt.1
  split at h
  ·rename_i d op ty pos after qZ
   simp only[RY,qZ,Bool.and_eq_true,Bool.not_eq_true']at hc
   exact Sg qZ hc.2.2 hc.2.1.2 hc.1.1.1 (l7 h)
  ·exact h.elim
 ·have h:=HM h
  split at h
  ·rename_i hr
   obtain⟨ha,h⟩:=cond_false h
   exact KE nZ oE (fun _=>h) (by rw[hr];trivial)
  ·rename_i i r hr
   refine KE nZ oE (fun ha=>?_) (by rw[hr];exact h.h)
   exfalso
   have oR:i∈HS ops done mb:=by rw[hr];simp
   unfold HS at oR
   rw[List.mem_filter]at oR
   have h2:=List.all_eq_true.1 ha i oR.1
   have h3:=oR.2
   simp only[Bool.and_eq_true,Bool.not_eq_true']at h3
   rw[h3.1.1,h3.1.2]at h2
   cases h2
end Go.Av
namespace Go.Proofs.YtiphlhoclaogjaaGreatDoor
open Go Go.Av
attribute [local irreducible] C7 B1 D1 C8 DQ D0 C6 St.le A3 B8
set_option maxRecDepth 100000
def N6{α:Type}(p:α→Bool):Nat→List α→List Int
 |_,[]=>[]
 |k,r::t=>if p r=true then (k:Int)::N6 p (k+1) t else N6 p (k+1) t
theorem Nr{α:Type}(p:α→Bool):∀(k:Nat) (l:List α) (x:α),N6 p k (l++[x])=N6 p k l++(if p x=true then [((k+l.length:Nat):Int)]else [])
 |k,[],x=>by simp[N6]
 |k,r::t,x=>by
  have ih:=Nr p (k+1) t x
  rw[List.cons_append,N6,N6,ih,List.length_cons,show k+1+t.length=k+(t.length+1) by omega]
  split<;>simp
theorem Jb{α:Type}(p:α→Bool):∀(k:Nat) (l:List α),(N6 p k l).length≤l.length
 |_,[]=>Nat.le_refl _
 |k,r::t=>by
  have:=Jb p (k+1) t
  unfold N6
  split<;>simp<;>omega
theorem Dp{α:Type}{p:α→Bool}:∀{k:Nat} {l:List α} {i:Int},i∈N6 p k l→∃j:Nat,i=((k+j:Nat):Int)∧∃x,l[j]?=some x∧p x=true
 |k,[],i,h=>by cases h
 |k,r::t,i,h=>by
  unfold N6 at h
  by_cases hp:p r=true
  ·rw[if_pos hp]at h
   rcases List.mem_cons.1 h with rfl|h
   ·exact⟨0,rfl,r,rfl,hp⟩
   ·obtain⟨j,h1,x,h2,h3⟩:=Dp h
    exact⟨j+1,by rw[h1];congr 1;omega,x,h2,h3⟩
  ·rw[if_neg hp]at h
   obtain⟨j,h1,x,h2,h3⟩:=Dp h
   exact⟨j+1,by rw[h1];congr 1;omega,x,h2,h3⟩
def DR(s:A4)(cnd:B0)(picks:List Pk)(r:List Int):Bool:=decide (Lv s cnd (picks.zip r.tail)=1)
def Ax(s:A4)(x:H6)(cnd:B0):List Int:=if H0 s cnd=0∧z4 x.picks (L3 s cnd)=true then N6 (DR s cnd x.picks) 0 x.rows else []
theorem CE{s:A4}{x:H6}(h:R2 s x=0):C5 s=0∧J7 s x.picks=0∧x.rows.length≤200∧∀(k:Nat) r,x.rows[k]?=some r→j8 s x.picks r=true:=by
 unfold R2 at h
 by_cases e1:C5 s=0
 ·rw[if_neg (fun hh=>hh e1)]at h
  split at h
  ·cases h
  ·split at h
   ·cases h
   ·by_cases e2:J7 s x.picks=0
    ·rw[if_neg (fun hh=>hh e2)]at h
     split at h
     ·cases h
     ·refine⟨e1,e2,by omega,fun k r hk=>?_⟩
      have:=O5 h k r hk
      unfold w5 at this
      cases hf:j8 s x.picks r with
      |true=>rfl
      |false=>rw[if_pos hf]at this;cases this
    ·rw[if_pos e2]at h;exact absurd h e2
 ·rw[if_pos e1]at h;exact absurd h e1
theorem bh(r:List Int):List.drop (1:Int).toNat (List.take ((r.map wA).length:Int).toNat (r.map wA))=r.tail.map wA:=by
 rw[Int.toNat_natCast,List.length_map]
 cases r with
 |nil=>rfl
 |cons a t=>simp[List.take_of_length_le]
theorem To(s:A4)(x:H6)(hx:R2 s x=0)(cnd:B0):B8 Tryz.prog 67 0 [] [sA s,f4 x,E0 cnd] 1 [(0,some (.row 3 1 0 ((Ax s x cnd).map wA)))] (.row 0 0 (Ax s x cnd).length):=by
 obtain⟨hr,hp,pA,nu⟩:=CE hx
 have h1:=y5 s cnd
 have h2:=GL s cnd
 have h3:=BI x.picks (L3 s cnd)
 have qI:=AY hp
 have nz:=(E9 hr).2.1
 clear hx
 obtain⟨pr,ver,picks,rows⟩:=x
 dsimp only at *
 by_cases hc:¬(H0 s cnd=0∧z4 picks (L3 s cnd)=true)
 ·have hE:Ax s ⟨pr,ver,picks,rows⟩ cnd=[]:=if_neg hc
  rw[hE]
  rw[G0]at *
  refine a8 Tryz.func67 45 fun E h0=>?_
  repeat'((first|refine A1 h1 ?_|refine A1 h2 ?_|refine A1 h3 ?_|(refine G9 1 ?_;refine S9 (id:=1) (σ':=⟨[(3,.iptr (sL s)),(4,.iptr [.str pr,.i ver,.sl 2 (picks.map B6),.sl 1 (rows.map G3)]),(5,.iptr (P1 cnd))],0,[]⟩) (A6 h0) ?_;refine B5 ?_ ?_;kernel_rfl) |refine S2 ?_|(refine T6 ?_ ?_<;>intro h<;>try exact V1 h)|intro el nX nY|intro el nX|exact T4|refine T5 ?_ ?_|intro ex)<;>try conv=>whnf)
  all_goals first
   |(exfalso;omega)
   |exact H7 (C2 (K7 (d:=6) (e:=3) (sz:=1) rfl) (B3 h0 rfl ⟨rfl,trivial⟩ ⟨⟨0,rfl⟩,trivial⟩ rfl rfl rfl))
   |(exfalso;exact hc ⟨by omega,h⟩)
 obtain⟨qK,pf⟩:=Decidable.of_not_not hc
 have hE:Ax s ⟨pr,ver,picks,rows⟩ cnd=N6 (DR s cnd picks) 0 rows:=if_pos ⟨qK,pf⟩
 rw[hE]
 obtain⟨_,_,_,oz⟩:=m6 qK
 have h4:=fun (r:List Int) (hl:r.length=picks.length+1)=>bV s hr cnd oz picks r.tail hp (by rw[List.length_tail];omega)
 rw[qK]at h1
 rw[pf]at h3
 have pR:=Jb (DR s cnd picks) 0
 have oe:=Nr (DR s cnd picks) 0
 have wI:∀r,DR s cnd picks r=decide (Lv s cnd (picks.zip r.tail)=1):=fun _=>rfl
 rw[G0]at *
 generalize N6 (DR s cnd picks) 0=FK at *
 refine a8 Tryz.func67 45 fun E h0=>?_
 repeat'((first|refine A1 h1 ?_|refine A1 h2 ?_|refine A1 h3 ?_|(refine G9 1 ?_;refine S9 (id:=1) (σ':=⟨[(3,.iptr (sL s)),(4,.iptr [.str pr,.i ver,.sl 2 (picks.map B6),.sl 1 (rows.map G3)]),(5,.iptr (P1 cnd))],0,[]⟩) (A6 h0) ?_;refine B5 ?_ ?_;kernel_rfl) |refine S2 ?_|(refine T6 ?_ ?_<;>intro h<;>try exact V1 h)|intro el nX nY|intro el nX|exact T4|refine T5 ?_ ?_|intro ex)<;>try conv=>whnf)
 all_goals first
  |(exfalso;omega)
  |skip
 refine B2 (ι:=Nat) (fun k=>⟨[(3,.iptr (sL s)),(4,.iptr [.str pr,.i ver,.sl 2 (picks.map B6),.sl 1 (rows.map G3)]),(5,.iptr (P1 cnd)),(7,.row 0 0 (FK (rows.take k)).length),(24,.sl 1 (rows.map G3)),(25,.i rows.length),(26,.i k)],1,[(0,some (.row 3 1 0 ((FK (rows.take k)).map wA)))]⟩)
  (fun k=>k≤rows.length) (fun k=>rows.length-k) 0 (Nat.zero_le _)
  (C2 (K7 (d:=7) (e:=3) (sz:=1) rfl) (B3 h0 rfl ⟨rfl,rfl,rfl,congrArg (fun z:Nat=>some (AV.row 0 0 z)) (by have:=pR [];simp at this;simp[this]),rfl,rfl,rfl,trivial⟩ ⟨⟨0,congrArg (D3.row 3 1 0) (by have:=pR [];simp at this;simp[this])⟩,trivial⟩ rfl rfl rfl)) (fun k hK=>?_)
 by_cases no:k<rows.length
 ·obtain⟨r,qe⟩:∃r,rows[k]?=some r:=⟨_,List.getElem?_eq_getElem no⟩
  have qn:rows[((k:Nat):Int).toNat]?=some r:=qe
  have sW:=o5 (nu k r qe)
  have hT:=h4 r sW
  rw[←bh]at hT
  have nv:=oe (rows.take k) r
  rw[←I0 qe,wI r,List.length_take,show 0+min k rows.length=k by omega]at nv
  have vL:=pR (rows.take k)
  rw[List.length_take]at vL
  generalize Lv s cnd (picks.zip r.tail)=T at *
  by_cases hT1:T=1
  ·rw[decide_eq_true hT1,if_pos rfl]at nv
   repeat'((first|(refine A2 (x:=r) qn (by omega) ?_)|refine A1 hT ?_|(refine B5 ?_ ?_;kernel_rfl) |refine S2 ?_|(refine T6 ?_ ?_<;>intro h<;>try exact V1 h)|intro el nX nY|intro el nX|exact T4|refine T5 ?_ ?_|intro ex)<;>try conv=>whnf)
   all_goals first
    |(exfalso;omega)
    |exact⟨k+1,by omega,by omega,B3 h0 rfl ⟨rfl,rfl,rfl,congrArg (fun z:Nat=>some (AV.row 0 0 z)) (by rw[nv];simp[M4]),rfl,rfl,rfl,trivial⟩ ⟨⟨_,congrArg (D3.row 3 1 _) (by rw[nv,List.map_append];rfl)⟩,trivial⟩ rfl rfl rfl⟩
  ·rw[decide_eq_false hT1,if_neg (by decide),List.append_nil]at nv
   repeat'((first|(refine A2 (x:=r) qn (by omega) ?_)|refine A1 hT ?_|(refine B5 ?_ ?_;kernel_rfl) |refine S2 ?_|(refine T6 ?_ ?_<;>intro h<;>try exact V1 h)|intro el nX nY|intro el nX|exact T4|refine T5 ?_ ?_|intro ex)<;>try conv=>whnf)
   all_goals first
    |(exfalso;omega)
    |exact⟨k+1,by omega,by omega,B3 h0 rfl ⟨rfl,rfl,rfl,congrArg (fun z:Nat=>some (AV.row 0 0 z)) (by rw[nv]),rfl,rfl,rfl,trivial⟩ ⟨⟨_,congrArg (D3.row 3 1 _) (by rw[nv])⟩,trivial⟩ rfl rfl rfl⟩
 ·have he:rows.take k=rows:=List.take_of_length_le (by omega)
  rw[he]
  repeat'((first|refine S2 ?_|(refine T6 ?_ ?_<;>intro h<;>try exact V1 h)|intro el nX nY|intro el nX|exact T4|refine T5 ?_ ?_|intro ex)<;>try conv=>whnf)
  all_goals first
   |(exfalso;omega)
   |exact H7 (A6 h0)
end Go.Proofs.YtiphlhoclaogjaaGreatDoor
