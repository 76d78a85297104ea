/- Rows of bytes out of which a text was made, and that go on. -/
import Derived.Test.YtiphlhoclaogjaaGreatDoorSAvH
import Derived.Test.YtiphlhoclaogjaaGreatDoorSE3
import Derived.Lib.Builder
import Derived.Lib.UnsafeStr
import Derived.Lib.SliceRun
import Derived.Test.YtiphlhoclaogjaaGreatDoorSTa2
set_option linter.unusedSimpArgs false
set_option linter.unusedVariables false
set_option linter.unnecessarySimpa false
set_option maxHeartbeats 64000000
namespace Go.Av
open Go Go.RowKit
theorem Ia{g t:Nat}{fz:Nat×Nat}:∀(vs:List Value) (o:Nat) (w:World) (lc:Array Value),w.heap[g]?=some (.cells lc t fz)→o+vs.length≤lc.size →
  (w.setCells g o vs).heap[g]?=some (.cells (lc.toList.take o++vs++lc.toList.drop (o+vs.length)).toArray t fz)∧(∀k,k≠g→(w.setCells g o vs).heap[k]?=w.heap[k]?)∧(w.setCells g o vs).heap.size=w.heap.size∧(w.setCells g o vs).os=w.os∧(w.setCells g o vs).tape=w.tape∧(w.setCells g o vs).output=w.output
 |[],o,w,lc,h,hl=>by
  refine⟨?_,fun _ _=>rfl,rfl,rfl,rfl,rfl⟩
  simp only[World.setCells,h,List.append_nil,List.length_nil,Nat.add_zero,List.take_append_drop,Array.toArray_toList]
 |v::r,o,w,lc,h,hl=>by
  simp only[List.length_cons]at hl
  have h1:(w.setCell ⟨g,o,none⟩ v).heap[g]?=some (.cells (lc.setIfInBounds o v) t fz):=by
   simp[World.setCell,Array.getElem?_modify,h]
  obtain⟨q1,q2,q3,q4,q5,q6⟩:=Ia r (o+1) (w.setCell ⟨g,o,none⟩ v) (lc.setIfInBounds o v) h1 (by simp;omega)
  refine⟨?_,fun k hk=>?_,?_,?_,?_,?_⟩
  ·rw[World.setCells,q1]
   congr 3
   rw[Array.toList_setIfInBounds]
   have ho:o<lc.toList.length:=by simp;omega
   rw[List.take_add_one,List.getElem?_set_self ho,List.take_set_of_le (Nat.le_refl _),List.drop_set_of_lt (by omega)]
   simp only[Option.toList,List.append_assoc,List.singleton_append,List.length_cons]
   rw[Nat.add_assoc o 1,Nat.add_comm 1]
  ·rw[World.setCells,q2 k hk]
   simp[World.setCell,Array.getElem?_modify,Ne.symm hk]
  ·rw[World.setCells,q3];simp[World.setCell]
  ·rw[World.setCells,q4];rfl
  ·rw[World.setCells,q5];rfl
  ·rw[World.setCells,q6];rfl
section rules
variable {P:Program} {E:Env} {n:Nat} {ops:Array Oper} {rest:List Oper} {σ:St} {K:St→Prop} {d:Nat} {ty:TypeId} {pos:String} {after:Array Edge} {x y:Operand} {L:List AV}
theorem jW{e:Nat}(he:e<J4):AB (y8+e)=false∧y8+e<J9∧Y5 (y8+e)=false:=by
 unfold J4 at he
 have h1:Nat.blt (y8+e) y8=false:=by
  cases hb:Nat.blt (y8+e) y8 with
  |false=>rfl
  |true=>have:=Nat.blt_eq▸hb;omega
 refine⟨by unfold AB;rw[h1,Wn (by unfold y8 J9;omega)];rfl,by unfold y8 J9;omega,?_⟩
 unfold Y5
 rw[h1,Wn (a:=T9) (by unfold y8 T9;omega),Bool.and_false,Bool.or_false]
theorem L7.fz{w:World}{g e:Nat}{lc:Array Value}(h:L7 w g lc (y8+e))(he:e<J4):∃fz,w.heap[g]?=Option.some (.cells lc e fz):=by
 obtain⟨h1,h2,_⟩:=jW he
 rcases h with ⟨h,_⟩|⟨_,h,_⟩|⟨_,h,_⟩|⟨_,fz,h⟩
 ·unfold y8 K8 at h;omega
 ·unfold y8 K8 at h;omega
 ·rw[h1]at h;cases h
 ·exact⟨fz,by rw[Nat.add_sub_cancel_left]at h;exact h⟩
theorem L7.mine{w:World}{g e F:Nat}{lc:Array Value}(h:L7 w g lc (F+e))(he:e<J4)(hF:F=0∨F=y8):∃fz,w.heap[g]?=Option.some (.cells lc e fz)∧(F=0→fz=(0,0)):=by
 rcases hF with rfl|rfl
 ·rw[Nat.zero_add]at h
  rcases h with ⟨_,h⟩|⟨h,_⟩|⟨h,_⟩|⟨h,_⟩
  ·exact⟨_,h,fun _=>rfl⟩
  ·omega
  ·unfold J4 at he;unfold K8 at h;omega
  ·rw[HB (k6 he)]at h;cases h
 ·obtain⟨fz,h⟩:=h.fz he
  exact⟨fz,h,fun h=>by unfold y8 at h;omega⟩
end rules
section rules
variable {P:Program} {E:Env} {n:Nat} {ops:Array Oper} {rest:List Oper} {σ:St} {K:St→Prop} {d:Nat} {ty:TypeId} {pos:String} {after:Array Edge} {x y:Operand}
theorem TY{g:Nat}:∀(vs:List Value) (o:Nat) (w:World),vs=[]→w.setCells g o vs=w
 |[],_,_,_=>rfl
 |_::_,_,_,h=>by cases h
theorem YC{T e:Nat}{z:Value}[ts:L8 P T e 1](hz:z.cells=#[z]∧z.oneCell'=true)(hzi:(P.info? e).bind (·.zero)=some z){i ver lo len:Nat}{l:List (List AV)}(hx:F3 σ x=some (.sub i ver lo len))(hb:A5 σ.hp i=some (.row e 1 ver l))(qQ:lo+len=l.length)(mW:Nat.blt e J4=true)
  (k:B2 P E n ops rest (σ.set i (.row e 1 ver (l.take lo++List.replicate len [.v z]))) K):B2 P E n ops (⟨none,.call ⟨.builtin .clear,#[x],#[T]⟩,ty,pos,after,none⟩::rest) σ K:=by
 intro a w ⟨θ,hs⟩
 have mW:=Nat.blt_eq▸mW
 obtain⟨pp,og,mE⟩:=WO (hs.ev hx) hb
 obtain⟨_,xs,ho,oZ,mY,_⟩:=hs.owns i _ hb
 have hU:=ts.out.1
 obtain⟨ti,sn,mr⟩:=Option.bind_eq_some_iff.1 hzi
 have qf:∀w,(zeroValue e).run P w=.ok z w:=k9 sn mr
 have pO:∃x m c,θ i=.slice x m c:=by
  rcases ho.2 with ⟨h1,_⟩|⟨g,cap,lc,h1,_⟩<;>exact⟨_,_,_,h1⟩
 unfold wpList
 rw[if_pos (by simp[Region.wanted])]
 left
 have key:∃w',(execOp a.eval ⟨none,.call ⟨.builtin .clear,#[x],#[T]⟩,ty,pos,after,none⟩).run P w=.ok (.value (.tuple #[])) w'∧w'.os=w.os∧w'.tape=w.tape∧w'.output=w.output∧w'.heap.size=w.heap.size ∧
   (∀k,fp (θ i)≠some k→w'.heap[k]?=w.heap[k]?)∧R7 w' e 1 (θ i) (l.take lo++List.replicate len [AV.v z]).length (xs.take lo++List.replicate len z):=by
  have lX:(l.take lo++List.replicate len [AV.v z]).length=l.length:=by simp;omega
  rw[lX]
  have uL:xs.length=l.length:=by rw[ho.1,Nat.mul_one]
  have vY:(xs.take lo++List.replicate len z).length=l.length*1:=by simp;omega
  rcases og with ⟨h1,h2,rfl,rfl⟩|⟨g,n',cap,h1,h2⟩
  ·refine⟨w,?_,rfl,rfl,rfl,rfl,fun _ _=>rfl,⟨vY,?_⟩⟩
   ·rw[S3,h2]
    simp[builtin,Builtin.clear_,run_underlying hU,Sem.run_bind,Sem.run_pure,qf]
   ·rcases ho.2 with ⟨h3,h4⟩|⟨g',mn,lc,h3,_⟩
    ·exact .inl ⟨h3,h4⟩
    ·have om:θ i=.slice (some ⟨g',0,none⟩) l.length mn:=h3
     have mJ:θ i=.slice none 0 0:=h1
     rw[mJ]at om;cases om
  ·have mJ:θ i=.slice (some ⟨g,0,none⟩) n' cap:=h1
   rcases ho.2 with ⟨h3,h4⟩|⟨g',mn,lc,h3,h4,h5,h6,h7,h8,h9⟩
   ·have om:θ i=.slice none 0 0:=h3
    rw[mJ]at om;cases om
   ·have om:θ i=.slice (some ⟨g',0,none⟩) l.length mn:=h3
    rw[mJ]at om
    cases om
    have xp:w.heap[g]?=some (.cells lc e (0,0)):=by
     rcases h5 with ⟨_,hg⟩|⟨h2,_⟩|⟨h2,_⟩|⟨h2,_⟩
     ·exact hg
     ·omega
     ·unfold J4 at mW;unfold K8 at h2;omega
     ·rw[HB (k6 mW)]at h2;cases h2
    rw[Nat.mul_one]at h8
    have ll:lo+(List.replicate len z).length≤lc.size:=by simp;omega
    obtain⟨q1,q2,q3,q4,q5,q6⟩:=Ia (List.replicate len z) lo w lc xp ll
    refine⟨w.setCells g lo (List.replicate len z),?_,q4,q5,q6,q3,fun k hk=>q2 k fun e=>hk (by rw[mJ,e];rfl),⟨vY,.inr ⟨g,cap,_,mJ,.lt (k6 mW),.inl ⟨by unfold J4 at mW;unfold K8;omega,q1⟩,h6,h7,?_,?_⟩⟩⟩
    ·rw[S3,h2]
     by_cases py:len=0
     ·subst py
      have:w.setCells g lo (List.replicate 0 z)=w:=TY _ _ _ rfl
      rw[this]
      simp[builtin,Builtin.clear_,run_underlying hU,Sem.run_bind,Sem.run_pure,qf]
     ·have mV:¬cap=lo:=by omega
      rw[if_neg mV,Nat.mul_one]
      have hr:=Lib.run_clear_slice (P:=P) w T e ty z hU qf hz.1 hz.2 g lo len (cap-lo) (by omega) (fun j hj=>by rw[J8 xp];simp;omega) (fun j hj=>by simp[World.frozen?,xp])
      simp[builtin,Sem.run_bind,Sem.run_pure,hr]
    ·simp;omega
    ·have ly:lc.toList.length=cap:=by simpa using h8
     have h9':lc.toList.take l.length=xs:=by simpa using h9
     rw[List.toList_toArray,Nat.mul_one,List.take_append_of_le_length (by simp;omega),←h9',List.take_take]
     rw[List.take_of_length_le (by simp;omega)]
     congr 2
     omega
 obtain⟨w',hex,h1,h2,h3,h4,h5,h6⟩:=key
 simp only[Oper.wp,hex,Oper.upon]
 have ht:=hs.turn (v':=θ i) (b':=.row e 1 ver (l.take lo++List.replicate len [.v z])) (w':=w') (hkp:=fun _ _ _ _ h hk _=>by cases h;rw[HD mW]at hk;cases hk) (hne:=fun h=>by rw[N4 (Q2 mW)]at h;cases h) hb h1 h2 h3 (by omega) (fun k _ hk=>h5 k hk) (fun k hk=>.inl hk)
  ⟨pO,e,ver,l,rfl,.inr ⟨rfl,by simp;omega,rfl⟩⟩ fun le=>by
  refine⟨xs.take lo++List.replicate len z,by simp only[cx,E8];exact h6,fun el lU=>?_,fun q el hq j x hx=>?_,.lt (Q2 mW)⟩
  ·rcases List.mem_append.1 lU with h|h
   ·exact oZ el (List.mem_of_mem_take h)
   ·rw[List.eq_of_mem_replicate h];rfl
  ·have uL:xs.length=l.length:=by rw[ho.1,Nat.mul_one]
   rw[List.getElem?_append]at hq
   split at hq
   ·rename_i lY
    rw[List.length_take]at lY
    rw[List.getElem?_take,if_pos (by omega)]at hq
    obtain⟨y,hy,hi⟩:=mY q el hq j x hx
    have hj:j=0:=by
     have h1:=oZ el (List.mem_of_getElem? hq)
     have h2:=(List.getElem?_eq_some_iff.1 hx).1
     omega
    subst hj
    refine⟨y,?_,hi.mono le.heap le.U⟩
    rw[Nat.mul_one,Nat.add_zero]at hy ⊢
    rw[List.getElem?_append_left (by rw[List.length_take];omega),List.getElem?_take,if_pos (by omega)]
    exact hy
   ·rename_i lY
    rw[List.length_take]at lY
    rw[List.getElem?_replicate]at hq
    split at hq
    ·rename_i nC
     cases hq
     cases j with
     |zero =>
      cases hx
      refine⟨z,?_,.v _⟩
      rw[Nat.mul_one,Nat.add_zero,List.getElem?_append_right (by rw[List.length_take];omega),List.length_take,List.getElem?_replicate,if_pos (by rw[List.length_take]at nC;omega)]
     |succ j=>simp at hx
    ·cases hq
 exact k _ _ ⟨_,by simpa [Act.put]using ht⟩
theorem Kg{T e:Nat}(hU:P.underlying T=some (.slice e))(m:Nat)(p:Option Addr)(l c:Nat)(w:World):(Op.equalIn (m+1) T (.slice p l c) (.slice none 0 0)).run P w=.ok p.isNone w:=by
 rw[Op.equalIn]
 simp only[Sem.run_bind,run_underlying hU,Result.andThen_ok]
 cases p<;>rfl
theorem GB{T e:Nat}(hU:P.underlying T=some (.slice e))(p:Option Addr)(l c:Nat)(w:World):(Op.equal T (.slice p l c) (.slice none 0 0)).run P w=.ok p.isNone w:=Kg hU 9999 p l c w
theorem Nt{T T2 e s0 sz:Nat}[ts:L8 P T e s0]{l:List (List AV)}(hx:F3 σ x=some (.sl sz l))(hy:F3 σ y=some (.v (.slice none 0 0)))(hd:Nat.blt d n=true)(k:∀b:Bool,(b=true→l=[])→B2 P E n ops rest (σ.put d (.v (.bool b))) K):
  B2 P E n ops (⟨some d,.binOp .eql T x y T2,ty,pos,after,none⟩::rest) σ K:=by
 intro a w ⟨θ,hs⟩
 have hU:=ts.out.1
 have rB:=(hs.ev hy).val
 unfold wpList
 rw[if_pos (by simp[Region.wanted])]
 left
 obtain⟨b,qK,hr⟩:∃b:Bool,(b=true→l=[])∧(execOp a.eval ⟨some d,.binOp .eql T x y T2,ty,pos,after,none⟩).run P w=.ok (.value (.bool b)) w:=by
  rcases Es (hs.ev hx)with ⟨h1,h2⟩|⟨p,cap,f,h1,_⟩
  ·refine⟨true,fun _=>h2,K0 ?_ ?_⟩
   ·rw[h1,rB];simp[eqGuard,Sem.run_pure]
   ·rw[h1,rB];simp[binOp,GB hU,Sem.run_bind,Sem.run_pure]
  ·refine⟨false,fun h=>absurd h (by decide),K0 ?_ ?_⟩
   ·rw[h1,rB];simp[eqGuard,Sem.run_pure]
   ·rw[h1,rB];simp[binOp,GB hU,Sem.run_bind,Sem.run_pure]
 unfold Oper.wp
 rw[hr]
 exact k b qK _ _ ⟨θ,hs.put (Nat.blt_eq▸hd) (.im (.v _))⟩
end rules
end Go.Av
namespace Go.Proofs.YtiphlhoclaogjaaGreatDoor
open Go Go.Av
attribute [local irreducible] C7 B2 D3 C9 DQ D0 C8 St.le A3 B9
set_option maxRecDepth 100000
theorem BM{E:Env}{n:Nat}{σ:St}(i j:Nat){e sz:Nat}{l:List AV}(hb:A5 σ.hp i=some (.box l))(hj:l[j]?=some (.v (.slice none 0 0)))(he:Nat.blt e J9=true:=by rfl):St.le E n σ ((σ.new (.row e sz 0 [])).set i (.box (l.set j (.row σ.nx 0 0)))):=by
 unfold St.le
 rintro a w ⟨θ,h⟩
 have h2:=h.grow (w':=w) (Go.RowKit.Below.refl _ _) (.slice none 0 0) (.row e sz 0 []) (fun k hk=>by cases hk) (fun le=>⟨[],⟨by simp,.inl ⟨by simp[cx,E8],rfl⟩⟩,(fun el lU=>by cases lU),(fun k el hk=>by simp at hk),.lt (Nat.blt_eq▸he)⟩) (N4 (Nat.blt_eq▸he))
 have lY:=(h.owns i _ hb).1
 have nh:A5 (σ.new (.row e sz 0 [])).hp i=some (.box l):=by
  simp only[St.new,G4]
  rw[if_neg (by omega)];exact hb
 obtain⟨_,b,mG,ty,h3,h4,h5,h6⟩:=h2.owns i _ nh
 refine⟨_,h2.turn (v':=Go.Av.upd θ σ.nx (.slice none 0 0) i) (b':=.box (l.set j (.row σ.nx 0 0))) (w':=w) nh rfl rfl rfl (Nat.le_refl _) (fun _ _ _=>rfl) (fun k hk=>.inl hk) rfl fun le=>?_⟩
 refine⟨b,mG,ty,by simp only[cx,E8];exact h3,h4,by rw[List.length_set];exact h5,fun q x y hx hy=>?_⟩
 rw[List.getElem?_set]at hx
 split at hx
 ·rename_i eq
  subst eq
  split at hx
  ·cases hx
   have hv:=(h6 j _ y hj hy).val
   rw[hv]
   refine .row _ _ _ _ (by simp[cx,St.new,St.set]) fun e' lb v' l' hl=>?_
   simp only[cx,St.new,St.set,G4]at hl
   rw[if_neg (by omega)]at hl
   simp only[if_true]at hl
   cases hl
   refine⟨Nat.le_refl _,fun _=>⟨rfl,?_⟩⟩
   simp only[cx]
   rw[O2 _ _ (by omega),E8]
  ·cases hx
 ·exact(h6 q x y hx hy).mono le
end Go.Proofs.YtiphlhoclaogjaaGreatDoor
namespace Go.Av
open Go Go.RowKit
def lE:Op→Bool
 |.buildSlice ..=>true
 |_=>false
def aX(ops:Array Oper)(n:Nat)(done:List Bool)(mb:List MB)(sl:List (Nat×AV))(i:Nat):Bool :=
 RK ops n done mb sl i && match ops[i]? with
  |some o=>!(lE o.op)
  |none=>false
def jX(P:Program)(E:Env)(n:Nat)(ops:Array Oper)(done:List Bool)(mb:List MB)(σ:St)(K:St→Prop):Prop :=
 match (List.range ops.size).find? (aX ops n done mb σ.sl)with
 |some i=>match ops[i]? with
  |some ⟨some d,op,_,_,_,none⟩=>Ct (Lh op (M6 mb++σ.sl)) fun rd=>MV P op (F3 ⟨rd,0,[]⟩) fun av=>C9 P E n ops done (⟨i,d,av,rd⟩::mb) σ K
  |_=>False
 |none=>RH (HW ops done mb) fun L=>match L with
  |[]=>cond (RI ops done mb) (K ⟨M6 mb++σ.sl,σ.nx,σ.hp⟩) False
  |i::r=>NH P E n ops done mb σ K (i::r)
theorem DG{P:Program}{E:Env}{n:Nat}{ops:Array Oper}{done:List Bool}{mb:List MB}{σ:St}{K:St→Prop}(lX:Nat.beq done.length ops.size=true)(mD:Gk ops=true)(h:jX P E n ops done mb σ K):C9 P E n ops done mb σ K:=by
 unfold jX at h
 split at h
 ·rename_i i hi
  have pH:=List.find?_some hi
  unfold aX at pH
  simp only[Bool.and_eq_true]at pH
  have hc:=pH.1
  split at h
  ·rename_i d op ty pos after oU
   simp only[RK,oU,Bool.and_eq_true,Bool.not_eq_true']at hc
   exact SS oU hc.2.2 hc.2.1.2 hc.1.1.1 (l9 h)
  ·exact h.elim
 ·have h:=HR h
  split at h
  ·rename_i hr
   obtain⟨ha,h⟩:=cond_false h
   exact KI lX mD (fun _=>h) (by rw[hr];trivial)
  ·rename_i i r hr
   refine KI lX mD (fun ha=>?_) (by rw[hr];exact h.h)
   exfalso
   have mN:i∈HW ops done mb:=by rw[hr];simp
   unfold HW at mN
   rw[List.mem_filter]at mN
   have h2:=List.all_eq_true.1 ha i mN.1
   have h3:=mN.2
   simp only[Bool.and_eq_true,Bool.not_eq_true']at h3
   rw[h3.1.1,h3.1.2]at h2
   cases h2
end Go.Av
namespace Go.Proofs.YtiphlhoclaogjaaGreatDoor
open Go Go.Av
attribute [local irreducible] C7 B2 D3 C9 DQ D0 C8 St.le A3 B9
set_option maxRecDepth 100000
def P8{α:Type}(p:α→Bool):Nat→List α→List Int
 |_,[]=>[]
 |k,r::t=>if p r=true then (k:Int)::P8 p (k+1) t else P8 p (k+1) t
theorem Hs{α:Type}(p:α→Bool):∀(k:Nat) (l:List α) (x:α),P8 p k (l++[x])=P8 p k l++(if p x=true then [((k+l.length:Nat):Int)]else [])
 |k,[],x=>by simp[P8]
 |k,r::t,x=>by
  have ih:=Hs p (k+1) t x
  rw[List.cons_append,P8,P8,ih,List.length_cons,show k+1+t.length=k+(t.length+1) by omega]
  split<;>simp
theorem GC{α:Type}(p:α→Bool):∀(k:Nat) (l:List α),(P8 p k l).length≤l.length
 |_,[]=>Nat.le_refl _
 |k,r::t=>by
  have:=GC p (k+1) t
  unfold P8
  split<;>simp<;>omega
theorem JZ{α:Type}{p:α→Bool}:∀{k:Nat} {l:List α} {i:Int},i∈P8 p k l→∃j:Nat,i=((k+j:Nat):Int)∧∃x,l[j]?=some x∧p x=true
 |k,[],i,h=>by cases h
 |k,r::t,i,h=>by
  unfold P8 at h
  by_cases hp:p r=true
  ·rw[if_pos hp]at h
   rcases List.mem_cons.1 h with rfl|h
   ·exact⟨0,rfl,r,rfl,hp⟩
   ·obtain⟨j,h1,x,h2,h3⟩:=JZ h
    exact⟨j+1,by rw[h1];congr 1;omega,x,h2,h3⟩
  ·rw[if_neg hp]at h
   obtain⟨j,h1,x,h2,h3⟩:=JZ h
   exact⟨j+1,by rw[h1];congr 1;omega,x,h2,h3⟩
def Ja(s:A4)(cnd:B1)(picks:List Pk)(r:List Int):Bool:=decide (Lr s cnd (picks.zip r.tail)=1)
def Dh(s:A4)(x:N5)(cnd:B1):List Int:=if K7 s cnd=0∧q8 x.picks (K6 s cnd)=true then P8 (Ja s cnd x.picks) 0 x.rows else []
theorem BN{s:A4}{x:N5}(h:P6 s x=0):C3 s=0∧I5 s x.picks=0∧x.rows.length≤200∧∀(k:Nat) r,x.rows[k]?=some r→AN s x.picks r=true:=by
 unfold P6 at h
 by_cases e1:C3 s=0
 ·rw[if_neg (fun hh=>hh e1)]at h
  split at h
  ·cases h
  ·split at h
   ·cases h
   ·by_cases e2:I5 s x.picks=0
    ·rw[if_neg (fun hh=>hh e2)]at h
     split at h
     ·cases h
     ·refine⟨e1,e2,by omega,fun k r hk=>?_⟩
      have:=R6 h k r hk
      unfold An at this
      cases hf:AN s x.picks r with
      |true=>rfl
      |false=>rw[if_pos hf]at this;cases this
    ·rw[if_pos e2]at h;exact absurd h e2
 ·rw[if_pos e1]at h;exact absurd h e1
theorem QT(r:List Int):List.drop (1:Int).toNat (List.take ((r.map wA).length:Int).toNat (r.map wA))=r.tail.map wA:=by
 rw[Int.toNat_natCast,List.length_map]
 cases r with
 |nil=>rfl
 |cons a t=>simp[List.take_of_length_le]
theorem TZ(s:A4)(x:N5)(hx:P6 s x=0)(cnd:B1):B9 Tryz.prog 67 0 [] [sA s,c9 x,E0 cnd] 1 [(0,some (.row 3 1 0 ((Dh s x cnd).map wA)))] (.row 0 0 (Dh s x cnd).length):=by
 obtain⟨hr,hp,mf,ll⟩:=BN hx
 have h1:=Ae s cnd
 have h2:=GT s cnd
 have h3:=Bu x.picks (K6 s cnd)
 have nY:=AA hp
 have ly:=(D5 hr).2.1
 clear hx
 obtain⟨pr,ver,picks,rows⟩:=x
 dsimp only at *
 by_cases hc:¬(K7 s cnd=0∧q8 picks (K6 s cnd)=true)
 ·have hE:Dh s ⟨pr,ver,picks,rows⟩ cnd=[]:=if_neg hc
  rw[hE]
  rw[F7]at *
  refine V9 Tryz.func67 45 fun E h0=>?_
  repeat'((first|refine A1 h1 ?_|refine A1 h2 ?_|refine A1 h3 ?_|(refine F6 1 ?_;refine O0 (id:=1) (σ':=⟨[(3,.iptr (sL s)),(4,.iptr [.str pr,.i ver,.sl 2 (picks.map B4),.sl 1 (rows.map F8)]),(5,.iptr (M8 cnd))],0,[]⟩) (A6 h0) ?_;refine B3 ?_ ?_;kernel_rfl) |refine S2 ?_|(refine T6 ?_ ?_<;>intro h<;>try exact V1 h)|intro el lU lV|intro el lU|exact T4|refine T5 ?_ ?_|intro ex)<;>try conv=>whnf)
  all_goals first
   |(exfalso;omega)
   |exact H4 (B5 (I9 (d:=6) (e:=3) (sz:=1) rfl) (A9 h0 rfl ⟨rfl,trivial⟩ ⟨⟨0,rfl⟩,trivial⟩ rfl rfl rfl))
   |(exfalso;exact hc ⟨by omega,h⟩)
 obtain⟨nt,ng⟩:=Decidable.of_not_not hc
 have hE:Dh s ⟨pr,ver,picks,rows⟩ cnd=P8 (Ja s cnd picks) 0 rows:=if_pos ⟨nt,ng⟩
 rw[hE]
 obtain⟨_,_,_,mz⟩:=o3 nt
 have h4:=fun (r:List Int) (hl:r.length=picks.length+1)=>aR s hr cnd mz picks r.tail hp (by rw[List.length_tail];omega)
 rw[nt]at h1
 rw[ng]at h3
 have nB:=GC (Ja s cnd picks) 0
 have mu:=Hs (Ja s cnd picks) 0
 have vQ:∀r,Ja s cnd picks r=decide (Lr s cnd (picks.zip r.tail)=1):=fun _=>rfl
 rw[F7]at *
 generalize P8 (Ja s cnd picks) 0=FK at *
 refine V9 Tryz.func67 45 fun E h0=>?_
 repeat'((first|refine A1 h1 ?_|refine A1 h2 ?_|refine A1 h3 ?_|(refine F6 1 ?_;refine O0 (id:=1) (σ':=⟨[(3,.iptr (sL s)),(4,.iptr [.str pr,.i ver,.sl 2 (picks.map B4),.sl 1 (rows.map F8)]),(5,.iptr (M8 cnd))],0,[]⟩) (A6 h0) ?_;refine B3 ?_ ?_;kernel_rfl) |refine S2 ?_|(refine T6 ?_ ?_<;>intro h<;>try exact V1 h)|intro el lU lV|intro el lU|exact T4|refine T5 ?_ ?_|intro ex)<;>try conv=>whnf)
 all_goals first
  |(exfalso;omega)
  |skip
 refine B0 (ι:=Nat) (fun k=>⟨[(3,.iptr (sL s)),(4,.iptr [.str pr,.i ver,.sl 2 (picks.map B4),.sl 1 (rows.map F8)]),(5,.iptr (M8 cnd)),(7,.row 0 0 (FK (rows.take k)).length),(24,.sl 1 (rows.map F8)),(25,.i rows.length),(26,.i k)],1,[(0,some (.row 3 1 0 ((FK (rows.take k)).map wA)))]⟩)
  (fun k=>k≤rows.length) (fun k=>rows.length-k) 0 (Nat.zero_le _)
  (B5 (I9 (d:=7) (e:=3) (sz:=1) rfl) (A9 h0 rfl ⟨rfl,rfl,rfl,congrArg (fun z:Nat=>some (AV.row 0 0 z)) (by have:=nB [];simp at this;simp[this]),rfl,rfl,rfl,trivial⟩ ⟨⟨0,congrArg (C6.row 3 1 0) (by have:=nB [];simp at this;simp[this])⟩,trivial⟩ rfl rfl rfl)) (fun k hK=>?_)
 by_cases lk:k<rows.length
 ·obtain⟨r,ny⟩:∃r,rows[k]?=some r:=⟨_,List.getElem?_eq_getElem lk⟩
  have oJ:rows[((k:Nat):Int).toNat]?=some r:=ny
  have qA:=V4 (ll k r ny)
  have hT:=h4 r qA
  rw[←QT]at hT
  have lh:=mu (rows.take k) r
  rw[←H6 ny,vQ r,List.length_take,show 0+min k rows.length=k by omega]at lh
  have ru:=nB (rows.take k)
  rw[List.length_take]at ru
  generalize Lr s cnd (picks.zip r.tail)=T at *
  by_cases hT1:T=1
  ·rw[decide_eq_true hT1,if_pos rfl]at lh
   repeat'((first|(refine A2 (x:=r) oJ (by omega) ?_)|refine A1 hT ?_|(refine B3 ?_ ?_;kernel_rfl) |refine S2 ?_|(refine T6 ?_ ?_<;>intro h<;>try exact V1 h)|intro el lU lV|intro el lU|exact T4|refine T5 ?_ ?_|intro ex)<;>try conv=>whnf)
   all_goals first
    |(exfalso;omega)
    |exact⟨k+1,by omega,by omega,A9 h0 rfl ⟨rfl,rfl,rfl,congrArg (fun z:Nat=>some (AV.row 0 0 z)) (by rw[lh];simp[L9]),rfl,rfl,rfl,trivial⟩ ⟨⟨_,congrArg (C6.row 3 1 _) (by rw[lh,List.map_append];rfl)⟩,trivial⟩ rfl rfl rfl⟩
  ·rw[decide_eq_false hT1,if_neg (by decide),List.append_nil]at lh
   repeat'((first|(refine A2 (x:=r) oJ (by omega) ?_)|refine A1 hT ?_|(refine B3 ?_ ?_;kernel_rfl) |refine S2 ?_|(refine T6 ?_ ?_<;>intro h<;>try exact V1 h)|intro el lU lV|intro el lU|exact T4|refine T5 ?_ ?_|intro ex)<;>try conv=>whnf)
   all_goals first
    |(exfalso;omega)
    |exact⟨k+1,by omega,by omega,A9 h0 rfl ⟨rfl,rfl,rfl,congrArg (fun z:Nat=>some (AV.row 0 0 z)) (by rw[lh]),rfl,rfl,rfl,trivial⟩ ⟨⟨_,congrArg (C6.row 3 1 _) (by rw[lh])⟩,trivial⟩ rfl rfl rfl⟩
 ·have he:rows.take k=rows:=List.take_of_length_le (by omega)
  rw[he]
  repeat'((first|refine S2 ?_|(refine T6 ?_ ?_<;>intro h<;>try exact V1 h)|intro el lU lV|intro el lU|exact T4|refine T5 ?_ ?_|intro ex)<;>try conv=>whnf)
  all_goals first
   |(exfalso;omega)
   |exact H4 (A6 h0)
end Go.Proofs.YtiphlhoclaogjaaGreatDoor
