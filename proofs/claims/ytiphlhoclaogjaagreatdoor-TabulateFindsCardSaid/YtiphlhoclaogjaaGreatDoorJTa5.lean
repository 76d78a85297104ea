/- Rows of bytes out of which a text was made, and that go on. -/
import Derived.Test.YtiphlhoclaogjaaGreatDoorJAvH
import Derived.Test.YtiphlhoclaogjaaGreatDoorJE3
import Derived.Lib.Builder
import Derived.Lib.UnsafeStr
import Derived.Lib.SliceRun
import Derived.Test.YtiphlhoclaogjaaGreatDoorJAvC
set_option linter.unusedSimpArgs false
set_option linter.unusedVariables false
set_option linter.unnecessarySimpa false
set_option maxHeartbeats 64000000
namespace Go.Av
open Go Go.RowKit
theorem JL{g t:Nat}{fz:Nat×Nat}:∀(vs:List Value) (o:Nat) (w:World) (nR:Array Value),w.heap[g]?=some (.cells nR t fz)→o+vs.length≤nR.size →
  (w.setCells g o vs).heap[g]?=some (.cells (nR.toList.take o++vs++nR.toList.drop (o+vs.length)).toArray t fz)∧(∀k,k≠g→(w.setCells g o vs).heap[k]?=w.heap[k]?)∧(w.setCells g o vs).heap.size=w.heap.size∧(w.setCells g o vs).os=w.os∧(w.setCells g o vs).tape=w.tape∧(w.setCells g o vs).output=w.output
 |[],o,w,nR,h,hl=>by
  refine⟨?_,fun _ _=>rfl,rfl,rfl,rfl,rfl⟩
  simp only[World.setCells,h,List.append_nil,List.length_nil,Nat.add_zero,List.take_append_drop,Array.toArray_toList]
 |v::r,o,w,nR,h,hl=>by
  simp only[List.length_cons]at hl
  have h1:(w.setCell ⟨g,o,none⟩ v).heap[g]?=some (.cells (nR.setIfInBounds o v) t fz):=by
   simp[World.setCell,Array.getElem?_modify,h]
  obtain⟨q1,q2,q3,q4,q5,q6⟩:=JL r (o+1) (w.setCell ⟨g,o,none⟩ v) (nR.setIfInBounds o v) h1 (by simp;omega)
  refine⟨?_,fun k hk=>?_,?_,?_,?_,?_⟩
  ·rw[World.setCells,q1]
   congr 3
   rw[Array.toList_setIfInBounds]
   have ho:o<nR.toList.length:=by simp;omega
   rw[List.take_add_one,List.getElem?_set_self ho,List.take_set_of_le (Nat.le_refl _),List.drop_set_of_lt (by omega)]
   simp only[Option.toList,List.append_assoc,List.singleton_append,List.length_cons]
   rw[Nat.add_assoc o 1,Nat.add_comm 1]
  ·rw[World.setCells,q2 k hk]
   simp[World.setCell,Array.getElem?_modify,Ne.symm hk]
  ·rw[World.setCells,q3];simp[World.setCell]
  ·rw[World.setCells,q4];rfl
  ·rw[World.setCells,q5];rfl
  ·rw[World.setCells,q6];rfl
section rules
variable {P:Program} {E:Env} {n:Nat} {ops:Array Oper} {rest:List Oper} {σ:St} {K:St→Prop} {d:Nat} {ty:TypeId} {pos:String} {after:Array Edge} {x y:Operand} {L:List AV}
theorem lE{e:Nat}(he:e<J4):Ad (AX+e)=false∧AX+e<K2∧e9 (AX+e)=false:=by
 unfold J4 at he
 have h1:Nat.blt (AX+e) AX=false:=by
  cases hb:Nat.blt (AX+e) AX with
  |false=>rfl
  |true=>have:=Nat.blt_eq▸hb;omega
 refine⟨by unfold Ad;rw[h1,Xe (by unfold AX K2;omega)];rfl,by unfold AX K2;omega,?_⟩
 unfold e9
 rw[h1,Xe (a:=U3) (by unfold AX U3;omega),Bool.and_false,Bool.or_false]
theorem L9.fz{w:World}{g e:Nat}{nR:Array Value}(h:L9 w g nR (AX+e))(he:e<J4):∃fz,w.heap[g]?=Option.some (.cells nR e fz):=by
 obtain⟨h1,h2,_⟩:=lE he
 rcases h with ⟨h,_⟩|⟨_,h,_⟩|⟨_,h,_⟩|⟨_,fz,h⟩
 ·unfold AX K8 at h;omega
 ·unfold AX K8 at h;omega
 ·rw[h1]at h;cases h
 ·exact⟨fz,by rw[Nat.add_sub_cancel_left]at h;exact h⟩
theorem L9.mine{w:World}{g e F:Nat}{nR:Array Value}(h:L9 w g nR (F+e))(he:e<J4)(hF:F=0∨F=AX):∃fz,w.heap[g]?=Option.some (.cells nR e fz)∧(F=0→fz=(0,0)):=by
 rcases hF with rfl|rfl
 ·rw[Nat.zero_add]at h
  rcases h with ⟨_,h⟩|⟨h,_⟩|⟨h,_⟩|⟨h,_⟩
  ·exact⟨_,h,fun _=>rfl⟩
  ·omega
  ·unfold J4 at he;unfold K8 at h;omega
  ·rw[Ho (o8 he)]at h;cases h
 ·obtain⟨fz,h⟩:=h.fz he
  exact⟨fz,h,fun h=>by unfold AX at h;omega⟩
end rules
section rules
variable {P:Program} {E:Env} {n:Nat} {ops:Array Oper} {rest:List Oper} {σ:St} {K:St→Prop} {d:Nat} {ty:TypeId} {pos:String} {after:Array Edge} {x y:Operand}
theorem UQ{g:Nat}:∀(vs:List Value) (o:Nat) (w:World),vs=[]→w.setCells g o vs=w
 |[],_,_,_=>rfl
 |_::_,_,_,h=>by cases h
theorem Ys{T e:Nat}{z:Value}[ts:L5 P T e 1](hz:z.cells=#[z]∧z.oneCell'=true)(hzi:(P.info? e).bind (·.zero)=some z){i ver lo len:Nat}{l:List (List AV)}(hx:F4 σ x=some (.sub i ver lo len))(hb:A5 σ.hp i=some (.row e 1 ver l))(qY:lo+len=l.length)(oR:Nat.blt e J4=true)
  (k:B3 P E n ops rest (σ.set i (.row e 1 ver (l.take lo++List.replicate len [.v z]))) K):B3 P E n ops (⟨none,.call ⟨.builtin .clear,#[x],#[T]⟩,ty,pos,after,none⟩::rest) σ K:=by
 intro a w ⟨θ,hs⟩
 have oR:=Nat.blt_eq▸oR
 obtain⟨ry,qn,nt⟩:=XE (hs.ev hx) hb
 obtain⟨_,xs,ho,qe,oT,_⟩:=hs.owns i _ hb
 have hU:=ts.out.1
 obtain⟨ti,tW,oI⟩:=Option.bind_eq_some_iff.1 hzi
 have sx:∀w,(zeroValue e).run P w=.ok z w:=p7 tW oI
 have rR:∃x m c,θ i=.slice x m c:=by
  rcases ho.2 with ⟨h1,_⟩|⟨g,cap,nR,h1,_⟩<;>exact⟨_,_,_,h1⟩
 unfold wpList
 rw[if_pos (by simp[Region.wanted])]
 left
 have key:∃w',(execOp a.eval ⟨none,.call ⟨.builtin .clear,#[x],#[T]⟩,ty,pos,after,none⟩).run P w=.ok (.value (.tuple #[])) w'∧w'.os=w.os∧w'.tape=w.tape∧w'.output=w.output∧w'.heap.size=w.heap.size ∧
   (∀k,fp (θ i)≠some k→w'.heap[k]?=w.heap[k]?)∧S6 w' e 1 (θ i) (l.take lo++List.replicate len [AV.v z]).length (xs.take lo++List.replicate len z):=by
  have nM:(l.take lo++List.replicate len [AV.v z]).length=l.length:=by simp;omega
  rw[nM]
  have wW:xs.length=l.length:=by rw[ho.1,Nat.mul_one]
  have xz:(xs.take lo++List.replicate len z).length=l.length*1:=by simp;omega
  rcases qn with ⟨h1,h2,rfl,rfl⟩|⟨g,n',cap,h1,h2⟩
  ·refine⟨w,?_,rfl,rfl,rfl,rfl,fun _ _=>rfl,⟨xz,?_⟩⟩
   ·rw[T0,h2]
    simp[builtin,Builtin.clear_,run_underlying hU,Sem.run_bind,Sem.run_pure,sx]
   ·rcases ho.2 with ⟨h3,h4⟩|⟨g',od,nR,h3,_⟩
    ·exact .inl ⟨h3,h4⟩
    ·have qu:θ i=.slice (some ⟨g',0,none⟩) l.length od:=h3
     have oB:θ i=.slice none 0 0:=h1
     rw[oB]at qu;cases qu
  ·have oB:θ i=.slice (some ⟨g,0,none⟩) n' cap:=h1
   rcases ho.2 with ⟨h3,h4⟩|⟨g',od,nR,h3,h4,h5,h6,h7,h8,h9⟩
   ·have qu:θ i=.slice none 0 0:=h3
    rw[oB]at qu;cases qu
   ·have qu:θ i=.slice (some ⟨g',0,none⟩) l.length od:=h3
    rw[oB]at qu
    cases qu
    have hgh:w.heap[g]?=some (.cells nR e (0,0)):=by
     rcases h5 with ⟨_,hg⟩|⟨h2,_⟩|⟨h2,_⟩|⟨h2,_⟩
     ·exact hg
     ·omega
     ·unfold J4 at oR;unfold K8 at h2;omega
     ·rw[Ho (o8 oR)]at h2;cases h2
    rw[Nat.mul_one]at h8
    have nV:lo+(List.replicate len z).length≤nR.size:=by simp;omega
    obtain⟨q1,q2,q3,q4,q5,q6⟩:=JL (List.replicate len z) lo w nR hgh nV
    refine⟨w.setCells g lo (List.replicate len z),?_,q4,q5,q6,q3,fun k hk=>q2 k fun e=>hk (by rw[oB,e];rfl),⟨xz,.inr ⟨g,cap,_,oB,.lt (o8 oR),.inl ⟨by unfold J4 at oR;unfold K8;omega,q1⟩,h6,h7,?_,?_⟩⟩⟩
    ·rw[T0,h2]
     by_cases sT:len=0
     ·subst sT
      have:w.setCells g lo (List.replicate 0 z)=w:=UQ _ _ _ rfl
      rw[this]
      simp[builtin,Builtin.clear_,run_underlying hU,Sem.run_bind,Sem.run_pure,sx]
     ·have oQ:¬cap=lo:=by omega
      rw[if_neg oQ,Nat.mul_one]
      have hr:=Lib.run_clear_slice (P:=P) w T e ty z hU sx hz.1 hz.2 g lo len (cap-lo) (by omega) (fun j hj=>by rw[K1 hgh];simp;omega) (fun j hj=>by simp[World.frozen?,hgh])
      simp[builtin,Sem.run_bind,Sem.run_pure,hr]
    ·simp;omega
    ·have ni:nR.toList.length=cap:=by simpa using h8
     have h9':nR.toList.take l.length=xs:=by simpa using h9
     rw[List.toList_toArray,Nat.mul_one,List.take_append_of_le_length (by simp;omega),←h9',List.take_take]
     rw[List.take_of_length_le (by simp;omega)]
     congr 2
     omega
 obtain⟨w',hex,h1,h2,h3,h4,h5,h6⟩:=key
 simp only[Oper.wp,hex,Oper.upon]
 have ht:=hs.turn (v':=θ i) (b':=.row e 1 ver (l.take lo++List.replicate len [.v z])) (w':=w') (hkp:=fun _ _ _ _ h hk _=>by cases h;rw[Hr oR]at hk;cases hk) (hne:=fun h=>by rw[O0 (R3 oR)]at h;cases h) hb h1 h2 h3 (by omega) (fun k _ hk=>h5 k hk) (fun k hk=>.inl hk)
  ⟨rR,e,ver,l,rfl,.inr ⟨rfl,by simp;omega,rfl⟩⟩ fun le=>by
  refine⟨xs.take lo++List.replicate len z,by simp only[cx,F0];exact h6,fun el nJ=>?_,fun q el hq j x hx=>?_,.lt (R3 oR)⟩
  ·rcases List.mem_append.1 nJ with h|h
   ·exact qe el (List.mem_of_mem_take h)
   ·rw[List.eq_of_mem_replicate h];rfl
  ·have wW:xs.length=l.length:=by rw[ho.1,Nat.mul_one]
   rw[List.getElem?_append]at hq
   split at hq
   ·rename_i nN
    rw[List.length_take]at nN
    rw[List.getElem?_take,if_pos (by omega)]at hq
    obtain⟨y,hy,hi⟩:=oT q el hq j x hx
    have hj:j=0:=by
     have h1:=qe el (List.mem_of_getElem? hq)
     have h2:=(List.getElem?_eq_some_iff.1 hx).1
     omega
    subst hj
    refine⟨y,?_,hi.mono le.heap le.U⟩
    rw[Nat.mul_one,Nat.add_zero]at hy ⊢
    rw[List.getElem?_append_left (by rw[List.length_take];omega),List.getElem?_take,if_pos (by omega)]
    exact hy
   ·rename_i nN
    rw[List.length_take]at nN
    rw[List.getElem?_replicate]at hq
    split at hq
    ·rename_i oy
     cases hq
     cases j with
     |zero =>
      cases hx
      refine⟨z,?_,.v _⟩
      rw[Nat.mul_one,Nat.add_zero,List.getElem?_append_right (by rw[List.length_take];omega),List.length_take,List.getElem?_replicate,if_pos (by rw[List.length_take]at oy;omega)]
     |succ j=>simp at hx
    ·cases hq
 exact k _ _ ⟨_,by simpa [Act.put]using ht⟩
theorem LO{T e:Nat}(hU:P.underlying T=some (.slice e))(m:Nat)(p:Option Addr)(l c:Nat)(w:World):(Op.equalIn (m+1) T (.slice p l c) (.slice none 0 0)).run P w=.ok p.isNone w:=by
 rw[Op.equalIn]
 simp only[Sem.run_bind,run_underlying hU,Result.andThen_ok]
 cases p<;>rfl
theorem Gk{T e:Nat}(hU:P.underlying T=some (.slice e))(p:Option Addr)(l c:Nat)(w:World):(Op.equal T (.slice p l c) (.slice none 0 0)).run P w=.ok p.isNone w:=LO hU 9999 p l c w
theorem Of{T T2 e s0 sz:Nat}[ts:L5 P T e s0]{l:List (List AV)}(hx:F4 σ x=some (.sl sz l))(hy:F4 σ y=some (.v (.slice none 0 0)))(hd:Nat.blt d n=true)(k:∀b:Bool,(b=true→l=[])→B3 P E n ops rest (σ.put d (.v (.bool b))) K):
  B3 P E n ops (⟨some d,.binOp .eql T x y T2,ty,pos,after,none⟩::rest) σ K:=by
 intro a w ⟨θ,hs⟩
 have hU:=ts.out.1
 have tP:=(hs.ev hy).val
 unfold wpList
 rw[if_pos (by simp[Region.wanted])]
 left
 obtain⟨b,sJ,hr⟩:∃b:Bool,(b=true→l=[])∧(execOp a.eval ⟨some d,.binOp .eql T x y T2,ty,pos,after,none⟩).run P w=.ok (.value (.bool b)) w:=by
  rcases Fj (hs.ev hx)with ⟨h1,h2⟩|⟨p,cap,f,h1,_⟩
  ·refine⟨true,fun _=>h2,K3 ?_ ?_⟩
   ·rw[h1,tP];simp[eqGuard,Sem.run_pure]
   ·rw[h1,tP];simp[binOp,Gk hU,Sem.run_bind,Sem.run_pure]
  ·refine⟨false,fun h=>absurd h (by decide),K3 ?_ ?_⟩
   ·rw[h1,tP];simp[eqGuard,Sem.run_pure]
   ·rw[h1,tP];simp[binOp,Gk hU,Sem.run_bind,Sem.run_pure]
 unfold Oper.wp
 rw[hr]
 exact k b sJ _ _ ⟨θ,hs.put (Nat.blt_eq▸hd) (.im (.v _))⟩
end rules
end Go.Av
namespace Go.Proofs.YtiphlhoclaogjaaGreatDoor
open Go Go.Av
attribute [local irreducible] C9 B3 C8 D1 DQ D0 C7 St.le A3 B8
set_option maxRecDepth 100000
theorem Ab{E:Env}{n:Nat}{σ:St}(i j:Nat){e sz:Nat}{l:List AV}(hb:A5 σ.hp i=some (.box l))(hj:l[j]?=some (.v (.slice none 0 0)))(he:Nat.blt e K2=true:=by rfl):St.le E n σ ((σ.new (.row e sz 0 [])).set i (.box (l.set j (.row σ.nx 0 0)))):=by
 unfold St.le
 rintro a w ⟨θ,h⟩
 have h2:=h.grow (w':=w) (Go.RowKit.Below.refl _ _) (.slice none 0 0) (.row e sz 0 []) (fun k hk=>by cases hk) (fun le=>⟨[],⟨by simp,.inl ⟨by simp[cx,F0],rfl⟩⟩,(fun el nJ=>by cases nJ),(fun k el hk=>by simp at hk),.lt (Nat.blt_eq▸he)⟩) (O0 (Nat.blt_eq▸he))
 have nN:=(h.owns i _ hb).1
 have pa:A5 (σ.new (.row e sz 0 [])).hp i=some (.box l):=by
  simp only[St.new,G5]
  rw[if_neg (by omega)];exact hb
 obtain⟨_,b,nw,ty,h3,h4,h5,h6⟩:=h2.owns i _ pa
 refine⟨_,h2.turn (v':=Go.Av.upd θ σ.nx (.slice none 0 0) i) (b':=.box (l.set j (.row σ.nx 0 0))) (w':=w) pa rfl rfl rfl (Nat.le_refl _) (fun _ _ _=>rfl) (fun k hk=>.inl hk) rfl fun le=>?_⟩
 refine⟨b,nw,ty,by simp only[cx,F0];exact h3,h4,by rw[List.length_set];exact h5,fun q x y hx hy=>?_⟩
 rw[List.getElem?_set]at hx
 split at hx
 ·rename_i eq
  subst eq
  split at hx
  ·cases hx
   have hv:=(h6 j _ y hj hy).val
   rw[hv]
   refine .row _ _ _ _ (by simp[cx,St.new,St.set]) fun e' nQ v' l' hl=>?_
   simp only[cx,St.new,St.set,G5]at hl
   rw[if_neg (by omega)]at hl
   simp only[if_true]at hl
   cases hl
   refine⟨Nat.le_refl _,fun _=>⟨rfl,?_⟩⟩
   simp only[cx]
   rw[O4 _ _ (by omega),F0]
  ·cases hx
 ·exact(h6 q x y hx hy).mono le
end Go.Proofs.YtiphlhoclaogjaaGreatDoor
namespace Go.Av
open Go Go.RowKit
def mr:Op→Bool
 |.buildSlice ..=>true
 |_=>false
def ba(ops:Array Oper)(n:Nat)(done:List Bool)(mb:List MB)(sl:List (Nat×AV))(i:Nat):Bool :=
 SD ops n done mb sl i && match ops[i]? with
  |some o=>!(mr o.op)
  |none=>false
def lG(P:Program)(E:Env)(n:Nat)(ops:Array Oper)(done:List Bool)(mb:List MB)(σ:St)(K:St→Prop):Prop :=
 match (List.range ops.size).find? (ba ops n done mb σ.sl)with
 |some i=>match ops[i]? with
  |some ⟨some d,op,_,_,_,none⟩=>DW (MU op (M8 mb++σ.sl)) fun rd=>MV P op (F4 ⟨rd,0,[]⟩) fun av=>D1 P E n ops done (⟨i,d,av,rd⟩::mb) σ K
  |_=>False
 |none=>SA (IL ops done mb) fun L=>match L with
  |[]=>cond (SB ops done mb) (K ⟨M8 mb++σ.sl,σ.nx,σ.hp⟩) False
  |i::r=>Nx P E n ops done mb σ K (i::r)
theorem CE{P:Program}{E:Env}{n:Nat}{ops:Array Oper}{done:List Bool}{mb:List MB}{σ:St}{K:St→Prop}(nM:Nat.beq done.length ops.size=true)(ns:HX ops=true)(h:lG P E n ops done mb σ K):D1 P E n ops done mb σ K:=by
 unfold lG at h
 split at h
 ·rename_i i hi
  have rL:=List.find?_some hi
  unfold ba at rL
  simp only[Bool.and_eq_true]at rL
  have hc:=rL.1
  split at h
  ·rename_i d op ty pos after qK
   simp only[SD,qK,Bool.and_eq_true,Bool.not_eq_true']at hc
   exact TN qK hc.2.2 hc.2.1.2 hc.1.1.1 (s5 h)
  ·exact h.elim
 ·have h:=IG h
  split at h
  ·rename_i hr
   obtain⟨ha,h⟩:=cond_false h
   exact Ko nM ns (fun _=>h) (by rw[hr];trivial)
  ·rename_i i r hr
   refine Ko nM ns (fun ha=>?_) (by rw[hr];exact h.h)
   exfalso
   have oH:i∈IL ops done mb:=by rw[hr];simp
   unfold IL at oH
   rw[List.mem_filter]at oH
   have h2:=List.all_eq_true.1 ha i oH.1
   have h3:=oH.2
   simp only[Bool.and_eq_true,Bool.not_eq_true']at h3
   rw[h3.1.1,h3.1.2]at h2
   cases h2
end Go.Av
namespace Go.Proofs.YtiphlhoclaogjaaGreatDoor
open Go Go.Av
attribute [local irreducible] C9 B3 C8 D1 DQ D0 C7 St.le A3 B8
set_option maxRecDepth 100000
def Q8{α:Type}(p:α→Bool):Nat→List α→List Int
 |_,[]=>[]
 |k,r::t=>if p r=true then (k:Int)::Q8 p (k+1) t else Q8 p (k+1) t
theorem Io{α:Type}(p:α→Bool):∀(k:Nat) (l:List α) (x:α),Q8 p k (l++[x])=Q8 p k l++(if p x=true then [((k+l.length:Nat):Int)]else [])
 |k,[],x=>by simp[Q8]
 |k,r::t,x=>by
  have ih:=Io p (k+1) t x
  rw[List.cons_append,Q8,Q8,ih,List.length_cons,show k+1+t.length=k+(t.length+1) by omega]
  split<;>simp
theorem Gl{α:Type}(p:α→Bool):∀(k:Nat) (l:List α),(Q8 p k l).length≤l.length
 |_,[]=>Nat.le_refl _
 |k,r::t=>by
  have:=Gl p (k+1) t
  unfold Q8
  split<;>simp<;>omega
theorem KG{α:Type}{p:α→Bool}:∀{k:Nat} {l:List α} {i:Int},i∈Q8 p k l→∃j:Nat,i=((k+j:Nat):Int)∧∃x,l[j]?=some x∧p x=true
 |k,[],i,h=>by cases h
 |k,r::t,i,h=>by
  unfold Q8 at h
  by_cases hp:p r=true
  ·rw[if_pos hp]at h
   rcases List.mem_cons.1 h with rfl|h
   ·exact⟨0,rfl,r,rfl,hp⟩
   ·obtain⟨j,h1,x,h2,h3⟩:=KG h
    exact⟨j+1,by rw[h1];congr 1;omega,x,h2,h3⟩
  ·rw[if_neg hp]at h
   obtain⟨j,h1,x,h2,h3⟩:=KG h
   exact⟨j+1,by rw[h1];congr 1;omega,x,h2,h3⟩
def KH(s:A4)(cnd:B7)(picks:List Pk)(r:List Int):Bool:=decide (Mf s cnd (picks.zip r.tail)=1)
def EH(s:A4)(x:J9)(cnd:B7):List Int:=if J6 s cnd=0∧X8 x.picks (I3 s cnd)=true then Q8 (KH s cnd x.picks) 0 x.rows else []
theorem v6{s:A4}{x:J9}(h:L2 s x=0):C3 s=0∧I7 s x.picks=0∧x.rows.length≤200∧∀(k:Nat) r,x.rows[k]?=some r→Al s x.picks r=true:=by
 unfold L2 at h
 by_cases e1:C3 s=0
 ·rw[if_neg (fun hh=>hh e1)]at h
  split at h
  ·cases h
  ·split at h
   ·cases h
   ·by_cases e2:I7 s x.picks=0
    ·rw[if_neg (fun hh=>hh e2)]at h
     split at h
     ·cases h
     ·refine⟨e1,e2,by omega,fun k r hk=>?_⟩
      have:=P2 h k r hk
      unfold BH at this
      cases hf:Al s x.picks r with
      |true=>rfl
      |false=>rw[if_pos hf]at this;cases this
    ·rw[if_pos e2]at h;exact absurd h e2
 ·rw[if_pos e1]at h;exact absurd h e1
theorem RK(r:List Int):List.drop (1:Int).toNat (List.take ((r.map wA).length:Int).toNat (r.map wA))=r.tail.map wA:=by
 rw[Int.toNat_natCast,List.length_map]
 cases r with
 |nil=>rfl
 |cons a t=>simp[List.take_of_length_le]
theorem UR(s:A4)(x:J9)(hx:L2 s x=0)(cnd:B7):B8 Tryz.prog 67 0 [] [sA s,X9 x,D5 cnd] 1 [(0,some (.row 3 1 0 ((EH s x cnd).map wA)))] (.row 0 0 (EH s x cnd).length):=by
 obtain⟨hr,hp,oK,nV⟩:=v6 hx
 have h1:=BA s cnd
 have h2:=HD s cnd
 have h3:=CW x.picks (I3 s cnd)
 have pk:=k9 hp
 have ni:=(D2 hr).2.1
 clear hx
 obtain⟨pr,ver,picks,rows⟩:=x
 dsimp only at *
 by_cases hc:¬(J6 s cnd=0∧X8 picks (I3 s cnd)=true)
 ·have hE:EH s ⟨pr,ver,picks,rows⟩ cnd=[]:=if_neg hc
  rw[hE]
  rw[F8]at *
  refine c9 Tryz.func67 45 fun E h0=>?_
  repeat'((first|refine A0 h1 ?_|refine A0 h2 ?_|refine A0 h3 ?_|(refine E7 1 ?_;refine R6 (id:=1) (σ':=⟨[(3,.iptr (sL s)),(4,.iptr [.str pr,.i ver,.sl 2 (picks.map A8),.sl 1 (rows.map D4)]),(5,.iptr (M9 cnd))],0,[]⟩) (A6 h0) ?_;refine A9 ?_ ?_;kernel_rfl) |refine S2 ?_|(refine T6 ?_ ?_<;>intro h<;>try exact V1 h)|intro el nJ nK|intro el nJ|exact T4|refine T5 ?_ ?_|intro ex)<;>try conv=>whnf)
  all_goals first
   |(exfalso;omega)
   |exact H6 (C0 (I0 (d:=6) (e:=3) (sz:=1) rfl) (A7 h0 rfl ⟨rfl,trivial⟩ ⟨⟨0,rfl⟩,trivial⟩ rfl rfl rfl))
   |(exfalso;exact hc ⟨by omega,h⟩)
 obtain⟨pn,ow⟩:=Decidable.of_not_not hc
 have hE:EH s ⟨pr,ver,picks,rows⟩ cnd=Q8 (KH s cnd picks) 0 rows:=if_pos ⟨pn,ow⟩
 rw[hE]
 obtain⟨_,_,_,oN⟩:=u6 pn
 have h4:=fun (r:List Int) (hl:r.length=picks.length+1)=>bT s hr cnd oN picks r.tail hp (by rw[List.length_tail];omega)
 rw[pn]at h1
 rw[ow]at h3
 have oY:=Gl (KH s cnd picks) 0
 have oq:=Io (KH s cnd picks) 0
 have xp:∀r,KH s cnd picks r=decide (Mf s cnd (picks.zip r.tail)=1):=fun _=>rfl
 rw[F8]at *
 generalize Q8 (KH s cnd picks) 0=FK at *
 refine c9 Tryz.func67 45 fun E h0=>?_
 repeat'((first|refine A0 h1 ?_|refine A0 h2 ?_|refine A0 h3 ?_|(refine E7 1 ?_;refine R6 (id:=1) (σ':=⟨[(3,.iptr (sL s)),(4,.iptr [.str pr,.i ver,.sl 2 (picks.map A8),.sl 1 (rows.map D4)]),(5,.iptr (M9 cnd))],0,[]⟩) (A6 h0) ?_;refine A9 ?_ ?_;kernel_rfl) |refine S2 ?_|(refine T6 ?_ ?_<;>intro h<;>try exact V1 h)|intro el nJ nK|intro el nJ|exact T4|refine T5 ?_ ?_|intro ex)<;>try conv=>whnf)
 all_goals first
  |(exfalso;omega)
  |skip
 refine B0 (ι:=Nat) (fun k=>⟨[(3,.iptr (sL s)),(4,.iptr [.str pr,.i ver,.sl 2 (picks.map A8),.sl 1 (rows.map D4)]),(5,.iptr (M9 cnd)),(7,.row 0 0 (FK (rows.take k)).length),(24,.sl 1 (rows.map D4)),(25,.i rows.length),(26,.i k)],1,[(0,some (.row 3 1 0 ((FK (rows.take k)).map wA)))]⟩)
  (fun k=>k≤rows.length) (fun k=>rows.length-k) 0 (Nat.zero_le _)
  (C0 (I0 (d:=7) (e:=3) (sz:=1) rfl) (A7 h0 rfl ⟨rfl,rfl,rfl,congrArg (fun z:Nat=>some (AV.row 0 0 z)) (by have:=oY [];simp at this;simp[this]),rfl,rfl,rfl,trivial⟩ ⟨⟨0,congrArg (C4.row 3 1 0) (by have:=oY [];simp at this;simp[this])⟩,trivial⟩ rfl rfl rfl)) (fun k hK=>?_)
 by_cases nU:k<rows.length
 ·obtain⟨r,pq⟩:∃r,rows[k]?=some r:=⟨_,List.getElem?_eq_getElem nU⟩
  have qG:rows[((k:Nat):Int).toNat]?=some r:=pq
  have sC:=O7 (nV k r pq)
  have hT:=h4 r sC
  rw[←RK]at hT
  have nS:=oq (rows.take k) r
  rw[←F1 pq,xp r,List.length_take,show 0+min k rows.length=k by omega]at nS
  have uN:=oY (rows.take k)
  rw[List.length_take]at uN
  generalize Mf s cnd (picks.zip r.tail)=T at *
  by_cases hT1:T=1
  ·rw[decide_eq_true hT1,if_pos rfl]at nS
   repeat'((first|(refine A2 (x:=r) qG (by omega) ?_)|refine A0 hT ?_|(refine A9 ?_ ?_;kernel_rfl) |refine S2 ?_|(refine T6 ?_ ?_<;>intro h<;>try exact V1 h)|intro el nJ nK|intro el nJ|exact T4|refine T5 ?_ ?_|intro ex)<;>try conv=>whnf)
   all_goals first
    |(exfalso;omega)
    |exact⟨k+1,by omega,by omega,A7 h0 rfl ⟨rfl,rfl,rfl,congrArg (fun z:Nat=>some (AV.row 0 0 z)) (by rw[nS];simp[L6]),rfl,rfl,rfl,trivial⟩ ⟨⟨_,congrArg (C4.row 3 1 _) (by rw[nS,List.map_append];rfl)⟩,trivial⟩ rfl rfl rfl⟩
  ·rw[decide_eq_false hT1,if_neg (by decide),List.append_nil]at nS
   repeat'((first|(refine A2 (x:=r) qG (by omega) ?_)|refine A0 hT ?_|(refine A9 ?_ ?_;kernel_rfl) |refine S2 ?_|(refine T6 ?_ ?_<;>intro h<;>try exact V1 h)|intro el nJ nK|intro el nJ|exact T4|refine T5 ?_ ?_|intro ex)<;>try conv=>whnf)
   all_goals first
    |(exfalso;omega)
    |exact⟨k+1,by omega,by omega,A7 h0 rfl ⟨rfl,rfl,rfl,congrArg (fun z:Nat=>some (AV.row 0 0 z)) (by rw[nS]),rfl,rfl,rfl,trivial⟩ ⟨⟨_,congrArg (C4.row 3 1 _) (by rw[nS])⟩,trivial⟩ rfl rfl rfl⟩
 ·have he:rows.take k=rows:=List.take_of_length_le (by omega)
  rw[he]
  repeat'((first|refine S2 ?_|(refine T6 ?_ ?_<;>intro h<;>try exact V1 h)|intro el nJ nK|intro el nJ|exact T4|refine T5 ?_ ?_|intro ex)<;>try conv=>whnf)
  all_goals first
   |(exfalso;omega)
   |exact H6 (A6 h0)
end Go.Proofs.YtiphlhoclaogjaaGreatDoor
