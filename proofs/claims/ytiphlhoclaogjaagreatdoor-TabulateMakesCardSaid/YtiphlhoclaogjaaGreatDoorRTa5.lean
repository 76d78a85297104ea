/- Rows of bytes out of which a text was made, and that go on. -/
import Derived.Test.YtiphlhoclaogjaaGreatDoorRAvH
import Derived.Test.YtiphlhoclaogjaaGreatDoorRE3
import Derived.Lib.Builder
import Derived.Lib.UnsafeStr
import Derived.Lib.SliceRun
import Derived.Test.YtiphlhoclaogjaaGreatDoorRAvC
set_option linter.unusedSimpArgs false
set_option linter.unusedVariables false
set_option linter.unnecessarySimpa false
set_option maxHeartbeats 64000000
namespace Go.Av
open Go Go.RowKit
theorem IK{g t:Nat}{fz:Nat×Nat}:∀(vs:List Value) (o:Nat) (w:World) (mQ:Array Value),w.heap[g]?=some (.cells mQ t fz)→o+vs.length≤mQ.size →
  (w.setCells g o vs).heap[g]?=some (.cells (mQ.toList.take o++vs++mQ.toList.drop (o+vs.length)).toArray t fz)∧(∀k,k≠g→(w.setCells g o vs).heap[k]?=w.heap[k]?)∧(w.setCells g o vs).heap.size=w.heap.size∧(w.setCells g o vs).os=w.os∧(w.setCells g o vs).tape=w.tape∧(w.setCells g o vs).output=w.output
 |[],o,w,mQ,h,hl=>by
  refine⟨?_,fun _ _=>rfl,rfl,rfl,rfl,rfl⟩
  simp only[World.setCells,h,List.append_nil,List.length_nil,Nat.add_zero,List.take_append_drop,Array.toArray_toList]
 |v::r,o,w,mQ,h,hl=>by
  simp only[List.length_cons]at hl
  have h1:(w.setCell ⟨g,o,none⟩ v).heap[g]?=some (.cells (mQ.setIfInBounds o v) t fz):=by
   simp[World.setCell,Array.getElem?_modify,h]
  obtain⟨q1,q2,q3,q4,q5,q6⟩:=IK r (o+1) (w.setCell ⟨g,o,none⟩ v) (mQ.setIfInBounds o v) h1 (by simp;omega)
  refine⟨?_,fun k hk=>?_,?_,?_,?_,?_⟩
  ·rw[World.setCells,q1]
   congr 3
   rw[Array.toList_setIfInBounds]
   have ho:o<mQ.toList.length:=by simp;omega
   rw[List.take_add_one,List.getElem?_set_self ho,List.take_set_of_le (Nat.le_refl _),List.drop_set_of_lt (by omega)]
   simp only[Option.toList,List.append_assoc,List.singleton_append,List.length_cons]
   rw[Nat.add_assoc o 1,Nat.add_comm 1]
  ·rw[World.setCells,q2 k hk]
   simp[World.setCell,Array.getElem?_modify,Ne.symm hk]
  ·rw[World.setCells,q3];simp[World.setCell]
  ·rw[World.setCells,q4];rfl
  ·rw[World.setCells,q5];rfl
  ·rw[World.setCells,q6];rfl
section rules
variable {P:Program} {E:Env} {n:Nat} {ops:Array Oper} {rest:List Oper} {σ:St} {K:St→Prop} {d:Nat} {ty:TypeId} {pos:String} {after:Array Edge} {x y:Operand} {L:List AV}
theorem jw{e:Nat}(he:e<J4):w8 (v7+e)=false∧v7+e<K0∧c8 (v7+e)=false:=by
 unfold J4 at he
 have h1:Nat.blt (v7+e) v7=false:=by
  cases hb:Nat.blt (v7+e) v7 with
  |false=>rfl
  |true=>have:=Nat.blt_eq▸hb;omega
 refine⟨by unfold w8;rw[h1,Wl (by unfold v7 K0;omega)];rfl,by unfold v7 K0;omega,?_⟩
 unfold c8
 rw[h1,Wl (a:=U1) (by unfold v7 U1;omega),Bool.and_false,Bool.or_false]
theorem L8.fz{w:World}{g e:Nat}{mQ:Array Value}(h:L8 w g mQ (v7+e))(he:e<J4):∃fz,w.heap[g]?=Option.some (.cells mQ e fz):=by
 obtain⟨h1,h2,_⟩:=jw he
 rcases h with ⟨h,_⟩|⟨_,h,_⟩|⟨_,h,_⟩|⟨_,fz,h⟩
 ·unfold v7 K6 at h;omega
 ·unfold v7 K6 at h;omega
 ·rw[h1]at h;cases h
 ·exact⟨fz,by rw[Nat.add_sub_cancel_left]at h;exact h⟩
theorem L8.mine{w:World}{g e F:Nat}{mQ:Array Value}(h:L8 w g mQ (F+e))(he:e<J4)(hF:F=0∨F=v7):∃fz,w.heap[g]?=Option.some (.cells mQ e fz)∧(F=0→fz=(0,0)):=by
 rcases hF with rfl|rfl
 ·rw[Nat.zero_add]at h
  rcases h with ⟨_,h⟩|⟨h,_⟩|⟨h,_⟩|⟨h,_⟩
  ·exact⟨_,h,fun _=>rfl⟩
  ·omega
  ·unfold J4 at he;unfold K6 at h;omega
  ·rw[Gw (k6 he)]at h;cases h
 ·obtain⟨fz,h⟩:=h.fz he
  exact⟨fz,h,fun h=>by unfold v7 at h;omega⟩
end rules
section rules
variable {P:Program} {E:Env} {n:Nat} {ops:Array Oper} {rest:List Oper} {σ:St} {K:St→Prop} {d:Nat} {ty:TypeId} {pos:String} {after:Array Edge} {x y:Operand}
theorem TU{g:Nat}:∀(vs:List Value) (o:Nat) (w:World),vs=[]→w.setCells g o vs=w
 |[],_,_,_=>rfl
 |_::_,_,_,h=>by cases h
theorem YA{T e:Nat}{z:Value}[ts:L3 P T e 1](hz:z.cells=#[z]∧z.oneCell'=true)(hzi:(P.info? e).bind (·.zero)=some z){i ver lo len:Nat}{l:List (List AV)}(hx:F5 σ x=some (.sub i ver lo len))(hb:A5 σ.hp i=some (.row e 1 ver l))(pT:lo+len=l.length)(nN:Nat.blt e J4=true)
  (k:B3 P E n ops rest (σ.set i (.row e 1 ver (l.take lo++List.replicate len [.v z]))) K):B3 P E n ops (⟨none,.call ⟨.builtin .clear,#[x],#[T]⟩,ty,pos,after,none⟩::rest) σ K:=by
 intro a w ⟨θ,hs⟩
 have nN:=Nat.blt_eq▸nN
 obtain⟨rN,pn,mq⟩:=WM (hs.ev hx) hb
 obtain⟨_,xs,ho,pQ,nQ,_⟩:=hs.owns i _ hb
 have hU:=ts.out.1
 obtain⟨ti,vV,nO⟩:=Option.bind_eq_some_iff.1 hzi
 have rk:∀w,(zeroValue e).run P w=.ok z w:=k9 vV nO
 have qP:∃x m c,θ i=.slice x m c:=by
  rcases ho.2 with ⟨h1,_⟩|⟨g,cap,mQ,h1,_⟩<;>exact⟨_,_,_,h1⟩
 unfold wpList
 rw[if_pos (by simp[Region.wanted])]
 left
 have key:∃w',(execOp a.eval ⟨none,.call ⟨.builtin .clear,#[x],#[T]⟩,ty,pos,after,none⟩).run P w=.ok (.value (.tuple #[])) w'∧w'.os=w.os∧w'.tape=w.tape∧w'.output=w.output∧w'.heap.size=w.heap.size ∧
   (∀k,fp (θ i)≠some k→w'.heap[k]?=w.heap[k]?)∧S0 w' e 1 (θ i) (l.take lo++List.replicate len [AV.v z]).length (xs.take lo++List.replicate len z):=by
  have mL:(l.take lo++List.replicate len [AV.v z]).length=l.length:=by simp;omega
  rw[mL]
  have vN:xs.length=l.length:=by rw[ho.1,Nat.mul_one]
  have vy:(xs.take lo++List.replicate len z).length=l.length*1:=by simp;omega
  rcases pn with ⟨h1,h2,rfl,rfl⟩|⟨g,n',cap,h1,h2⟩
  ·refine⟨w,?_,rfl,rfl,rfl,rfl,fun _ _=>rfl,⟨vy,?_⟩⟩
   ·rw[S6,h2]
    simp[builtin,Builtin.clear_,run_underlying hU,Sem.run_bind,Sem.run_pure,rk]
   ·rcases ho.2 with ⟨h3,h4⟩|⟨g',nd,mQ,h3,_⟩
    ·exact .inl ⟨h3,h4⟩
    ·have pt:θ i=.slice (some ⟨g',0,none⟩) l.length nd:=h3
     have my:θ i=.slice none 0 0:=h1
     rw[my]at pt;cases pt
  ·have my:θ i=.slice (some ⟨g,0,none⟩) n' cap:=h1
   rcases ho.2 with ⟨h3,h4⟩|⟨g',nd,mQ,h3,h4,h5,h6,h7,h8,h9⟩
   ·have pt:θ i=.slice none 0 0:=h3
    rw[my]at pt;cases pt
   ·have pt:θ i=.slice (some ⟨g',0,none⟩) l.length nd:=h3
    rw[my]at pt
    cases pt
    have zc:w.heap[g]?=some (.cells mQ e (0,0)):=by
     rcases h5 with ⟨_,hg⟩|⟨h2,_⟩|⟨h2,_⟩|⟨h2,_⟩
     ·exact hg
     ·omega
     ·unfold J4 at nN;unfold K6 at h2;omega
     ·rw[Gw (k6 nN)]at h2;cases h2
    rw[Nat.mul_one]at h8
    have mV:lo+(List.replicate len z).length≤mQ.size:=by simp;omega
    obtain⟨q1,q2,q3,q4,q5,q6⟩:=IK (List.replicate len z) lo w mQ zc mV
    refine⟨w.setCells g lo (List.replicate len z),?_,q4,q5,q6,q3,fun k hk=>q2 k fun e=>hk (by rw[my,e];rfl),⟨vy,.inr ⟨g,cap,_,my,.lt (k6 nN),.inl ⟨by unfold J4 at nN;unfold K6;omega,q1⟩,h6,h7,?_,?_⟩⟩⟩
    ·rw[S6,h2]
     by_cases rE:len=0
     ·subst rE
      have:w.setCells g lo (List.replicate 0 z)=w:=TU _ _ _ rfl
      rw[this]
      simp[builtin,Builtin.clear_,run_underlying hU,Sem.run_bind,Sem.run_pure,rk]
     ·have nK:¬cap=lo:=by omega
      rw[if_neg nK,Nat.mul_one]
      have hr:=Lib.run_clear_slice (P:=P) w T e ty z hU rk hz.1 hz.2 g lo len (cap-lo) (by omega) (fun j hj=>by rw[J9 zc];simp;omega) (fun j hj=>by simp[World.frozen?,zc])
      simp[builtin,Sem.run_bind,Sem.run_pure,hr]
    ·simp;omega
    ·have mf:mQ.toList.length=cap:=by simpa using h8
     have h9':mQ.toList.take l.length=xs:=by simpa using h9
     rw[List.toList_toArray,Nat.mul_one,List.take_append_of_le_length (by simp;omega),←h9',List.take_take]
     rw[List.take_of_length_le (by simp;omega)]
     congr 2
     omega
 obtain⟨w',hex,h1,h2,h3,h4,h5,h6⟩:=key
 simp only[Oper.wp,hex,Oper.upon]
 have ht:=hs.turn (v':=θ i) (b':=.row e 1 ver (l.take lo++List.replicate len [.v z])) (w':=w') (hkp:=fun _ _ _ _ h hk _=>by cases h;rw[Gy nN]at hk;cases hk) (hne:=fun h=>by rw[N8 (Q9 nN)]at h;cases h) hb h1 h2 h3 (by omega) (fun k _ hk=>h5 k hk) (fun k hk=>.inl hk)
  ⟨qP,e,ver,l,rfl,.inr ⟨rfl,by simp;omega,rfl⟩⟩ fun le=>by
  refine⟨xs.take lo++List.replicate len z,by simp only[cx,F1];exact h6,fun el mI=>?_,fun q el hq j x hx=>?_,.lt (Q9 nN)⟩
  ·rcases List.mem_append.1 mI with h|h
   ·exact pQ el (List.mem_of_mem_take h)
   ·rw[List.eq_of_mem_replicate h];rfl
  ·have vN:xs.length=l.length:=by rw[ho.1,Nat.mul_one]
   rw[List.getElem?_append]at hq
   split at hq
   ·rename_i mM
    rw[List.length_take]at mM
    rw[List.getElem?_take,if_pos (by omega)]at hq
    obtain⟨y,hy,hi⟩:=nQ q el hq j x hx
    have hj:j=0:=by
     have h1:=pQ el (List.mem_of_getElem? hq)
     have h2:=(List.getElem?_eq_some_iff.1 hx).1
     omega
    subst hj
    refine⟨y,?_,hi.mono le.heap le.U⟩
    rw[Nat.mul_one,Nat.add_zero]at hy ⊢
    rw[List.getElem?_append_left (by rw[List.length_take];omega),List.getElem?_take,if_pos (by omega)]
    exact hy
   ·rename_i mM
    rw[List.length_take]at mM
    rw[List.getElem?_replicate]at hq
    split at hq
    ·rename_i nq
     cases hq
     cases j with
     |zero =>
      cases hx
      refine⟨z,?_,.v _⟩
      rw[Nat.mul_one,Nat.add_zero,List.getElem?_append_right (by rw[List.length_take];omega),List.length_take,List.getElem?_replicate,if_pos (by rw[List.length_take]at nq;omega)]
     |succ j=>simp at hx
    ·cases hq
 exact k _ _ ⟨_,by simpa [Act.put]using ht⟩
theorem KR{T e:Nat}(hU:P.underlying T=some (.slice e))(m:Nat)(p:Option Addr)(l c:Nat)(w:World):(Op.equalIn (m+1) T (.slice p l c) (.slice none 0 0)).run P w=.ok p.isNone w:=by
 rw[Op.equalIn]
 simp only[Sem.run_bind,run_underlying hU,Result.andThen_ok]
 cases p<;>rfl
theorem Fs{T e:Nat}(hU:P.underlying T=some (.slice e))(p:Option Addr)(l c:Nat)(w:World):(Op.equal T (.slice p l c) (.slice none 0 0)).run P w=.ok p.isNone w:=KR hU 9999 p l c w
theorem Ng{T T2 e s0 sz:Nat}[ts:L3 P T e s0]{l:List (List AV)}(hx:F5 σ x=some (.sl sz l))(hy:F5 σ y=some (.v (.slice none 0 0)))(hd:Nat.blt d n=true)(k:∀b:Bool,(b=true→l=[])→B3 P E n ops rest (σ.put d (.v (.bool b))) K):
  B3 P E n ops (⟨some d,.binOp .eql T x y T2,ty,pos,after,none⟩::rest) σ K:=by
 intro a w ⟨θ,hs⟩
 have hU:=ts.out.1
 have sT:=(hs.ev hy).val
 unfold wpList
 rw[if_pos (by simp[Region.wanted])]
 left
 obtain⟨b,rC,hr⟩:∃b:Bool,(b=true→l=[])∧(execOp a.eval ⟨some d,.binOp .eql T x y T2,ty,pos,after,none⟩).run P w=.ok (.value (.bool b)) w:=by
  rcases Em (hs.ev hx)with ⟨h1,h2⟩|⟨p,cap,f,h1,_⟩
  ·refine⟨true,fun _=>h2,K1 ?_ ?_⟩
   ·rw[h1,sT];simp[eqGuard,Sem.run_pure]
   ·rw[h1,sT];simp[binOp,Fs hU,Sem.run_bind,Sem.run_pure]
  ·refine⟨false,fun h=>absurd h (by decide),K1 ?_ ?_⟩
   ·rw[h1,sT];simp[eqGuard,Sem.run_pure]
   ·rw[h1,sT];simp[binOp,Fs hU,Sem.run_bind,Sem.run_pure]
 unfold Oper.wp
 rw[hr]
 exact k b rC _ _ ⟨θ,hs.put (Nat.blt_eq▸hd) (.im (.v _))⟩
end rules
end Go.Av
namespace Go.Proofs.YtiphlhoclaogjaaGreatDoor
open Go Go.Av
attribute [local irreducible] C9 B3 C7 D1 DQ D0 C6 St.le A3 B7
set_option maxRecDepth 100000
theorem w6{E:Env}{n:Nat}{σ:St}(i j:Nat){e sz:Nat}{l:List AV}(hb:A5 σ.hp i=some (.box l))(hj:l[j]?=some (.v (.slice none 0 0)))(he:Nat.blt e K0=true:=by rfl):St.le E n σ ((σ.new (.row e sz 0 [])).set i (.box (l.set j (.row σ.nx 0 0)))):=by
 unfold St.le
 rintro a w ⟨θ,h⟩
 have h2:=h.grow (w':=w) (Go.RowKit.Below.refl _ _) (.slice none 0 0) (.row e sz 0 []) (fun k hk=>by cases hk) (fun le=>⟨[],⟨by simp,.inl ⟨by simp[cx,F1],rfl⟩⟩,(fun el mI=>by cases mI),(fun k el hk=>by simp at hk),.lt (Nat.blt_eq▸he)⟩) (N8 (Nat.blt_eq▸he))
 have mM:=(h.owns i _ hb).1
 have oW:A5 (σ.new (.row e sz 0 [])).hp i=some (.box l):=by
  simp only[St.new,G4]
  rw[if_neg (by omega)];exact hb
 obtain⟨_,b,mu,ty,h3,h4,h5,h6⟩:=h2.owns i _ oW
 refine⟨_,h2.turn (v':=Go.Av.upd θ σ.nx (.slice none 0 0) i) (b':=.box (l.set j (.row σ.nx 0 0))) (w':=w) oW rfl rfl rfl (Nat.le_refl _) (fun _ _ _=>rfl) (fun k hk=>.inl hk) rfl fun le=>?_⟩
 refine⟨b,mu,ty,by simp only[cx,F1];exact h3,h4,by rw[List.length_set];exact h5,fun q x y hx hy=>?_⟩
 rw[List.getElem?_set]at hx
 split at hx
 ·rename_i eq
  subst eq
  split at hx
  ·cases hx
   have hv:=(h6 j _ y hj hy).val
   rw[hv]
   refine .row _ _ _ _ (by simp[cx,St.new,St.set]) fun e' mP v' l' hl=>?_
   simp only[cx,St.new,St.set,G4]at hl
   rw[if_neg (by omega)]at hl
   simp only[if_true]at hl
   cases hl
   refine⟨Nat.le_refl _,fun _=>⟨rfl,?_⟩⟩
   simp only[cx]
   rw[O2 _ _ (by omega),F1]
  ·cases hx
 ·exact(h6 q x y hx hy).mono le
end Go.Proofs.YtiphlhoclaogjaaGreatDoor
namespace Go.Av
open Go Go.RowKit
def lm:Op→Bool
 |.buildSlice ..=>true
 |_=>false
def aY(ops:Array Oper)(n:Nat)(done:List Bool)(mb:List MB)(sl:List (Nat×AV))(i:Nat):Bool :=
 RH ops n done mb sl i && match ops[i]? with
  |some o=>!(lm o.op)
  |none=>false
def jx(P:Program)(E:Env)(n:Nat)(ops:Array Oper)(done:List Bool)(mb:List MB)(σ:St)(K:St→Prop):Prop :=
 match (List.range ops.size).find? (aY ops n done mb σ.sl)with
 |some i=>match ops[i]? with
  |some ⟨some d,op,_,_,_,none⟩=>Cc (LY op (M7 mb++σ.sl)) fun rd=>MV P op (F5 ⟨rd,0,[]⟩) fun av=>D1 P E n ops done (⟨i,d,av,rd⟩::mb) σ K
  |_=>False
 |none=>RE (HR ops done mb) fun L=>match L with
  |[]=>cond (RF ops done mb) (K ⟨M7 mb++σ.sl,σ.nx,σ.hp⟩) False
  |i::r=>My P E n ops done mb σ K (i::r)
theorem BI{P:Program}{E:Env}{n:Nat}{ops:Array Oper}{done:List Bool}{mb:List MB}{σ:St}{K:St→Prop}(mL:Nat.beq done.length ops.size=true)(mo:Gc ops=true)(h:jx P E n ops done mb σ K):D1 P E n ops done mb σ K:=by
 unfold jx at h
 split at h
 ·rename_i i hi
  have qM:=List.find?_some hi
  unfold aY at qM
  simp only[Bool.and_eq_true]at qM
  have hc:=qM.1
  split at h
  ·rename_i d op ty pos after pJ
   simp only[RH,pJ,Bool.and_eq_true,Bool.not_eq_true']at hc
   exact SQ pJ hc.2.2 hc.2.1.2 hc.1.1.1 (m5 h)
  ·exact h.elim
 ·have h:=HL h
  split at h
  ·rename_i hr
   obtain⟨ha,h⟩:=cond_false h
   exact Ju mL mo (fun _=>h) (by rw[hr];trivial)
  ·rename_i i r hr
   refine Ju mL mo (fun ha=>?_) (by rw[hr];exact h.h)
   exfalso
   have nE:i∈HR ops done mb:=by rw[hr];simp
   unfold HR at nE
   rw[List.mem_filter]at nE
   have h2:=List.all_eq_true.1 ha i nE.1
   have h3:=nE.2
   simp only[Bool.and_eq_true,Bool.not_eq_true']at h3
   rw[h3.1.1,h3.1.2]at h2
   cases h2
end Go.Av
namespace Go.Proofs.YtiphlhoclaogjaaGreatDoor
open Go Go.Av
attribute [local irreducible] C9 B3 C7 D1 DQ D0 C6 St.le A3 B7
set_option maxRecDepth 100000
def Q6{α:Type}(p:α→Bool):Nat→List α→List Int
 |_,[]=>[]
 |k,r::t=>if p r=true then (k:Int)::Q6 p (k+1) t else Q6 p (k+1) t
theorem Hm{α:Type}(p:α→Bool):∀(k:Nat) (l:List α) (x:α),Q6 p k (l++[x])=Q6 p k l++(if p x=true then [((k+l.length:Nat):Int)]else [])
 |k,[],x=>by simp[Q6]
 |k,r::t,x=>by
  have ih:=Hm p (k+1) t x
  rw[List.cons_append,Q6,Q6,ih,List.length_cons,show k+1+t.length=k+(t.length+1) by omega]
  split<;>simp
theorem Ft{α:Type}(p:α→Bool):∀(k:Nat) (l:List α),(Q6 p k l).length≤l.length
 |_,[]=>Nat.le_refl _
 |k,r::t=>by
  have:=Ft p (k+1) t
  unfold Q6
  split<;>simp<;>omega
theorem JP{α:Type}{p:α→Bool}:∀{k:Nat} {l:List α} {i:Int},i∈Q6 p k l→∃j:Nat,i=((k+j:Nat):Int)∧∃x,l[j]?=some x∧p x=true
 |k,[],i,h=>by cases h
 |k,r::t,i,h=>by
  unfold Q6 at h
  by_cases hp:p r=true
  ·rw[if_pos hp]at h
   rcases List.mem_cons.1 h with rfl|h
   ·exact⟨0,rfl,r,rfl,hp⟩
   ·obtain⟨j,h1,x,h2,h3⟩:=JP h
    exact⟨j+1,by rw[h1];congr 1;omega,x,h2,h3⟩
  ·rw[if_neg hp]at h
   obtain⟨j,h1,x,h2,h3⟩:=JP h
   exact⟨j+1,by rw[h1];congr 1;omega,x,h2,h3⟩
def JQ(s:A4)(cnd:B6)(picks:List Pk)(r:List Int):Bool:=decide (Li s cnd (picks.zip r.tail)=1)
def DP(s:A4)(x:J7)(cnd:B6):List Int:=if J6 s cnd=0∧X5 x.picks (I1 s cnd)=true then Q6 (JQ s cnd x.picks) 0 x.rows else []
theorem o5{s:A4}{x:J7}(h:K9 s x=0):C3 s=0∧I7 s x.picks=0∧x.rows.length≤200∧∀(k:Nat) r,x.rows[k]?=some r→y9 s x.picks r=true:=by
 unfold K9 at h
 by_cases e1:C3 s=0
 ·rw[if_neg (fun hh=>hh e1)]at h
  split at h
  ·cases h
  ·split at h
   ·cases h
   ·by_cases e2:I7 s x.picks=0
    ·rw[if_neg (fun hh=>hh e2)]at h
     split at h
     ·cases h
     ·refine⟨e1,e2,by omega,fun k r hk=>?_⟩
      have:=O9 h k r hk
      unfold AM at this
      cases hf:y9 s x.picks r with
      |true=>rfl
      |false=>rw[if_pos hf]at this;cases this
    ·rw[if_pos e2]at h;exact absurd h e2
 ·rw[if_pos e1]at h;exact absurd h e1
theorem QM(r:List Int):List.drop (1:Int).toNat (List.take ((r.map wA).length:Int).toNat (r.map wA))=r.tail.map wA:=by
 rw[Int.toNat_natCast,List.length_map]
 cases r with
 |nil=>rfl
 |cons a t=>simp[List.take_of_length_le]
theorem TV(s:A4)(x:J7)(hx:K9 s x=0)(cnd:B6):B7 Tryz.prog 67 0 [] [sA s,T8 x,D5 cnd] 1 [(0,some (.row 3 1 0 ((DP s x cnd).map wA)))] (.row 0 0 (DP s x cnd).length):=by
 obtain⟨hr,hp,nG,mV⟩:=o5 hx
 have h1:=AE s cnd
 have h2:=GJ s cnd
 have h3:=Ba x.picks (I1 s cnd)
 have ob:=f8 hp
 have mf:=(D3 hr).2.1
 clear hx
 obtain⟨pr,ver,picks,rows⟩:=x
 dsimp only at *
 by_cases hc:¬(J6 s cnd=0∧X5 picks (I1 s cnd)=true)
 ·have hE:DP s ⟨pr,ver,picks,rows⟩ cnd=[]:=if_neg hc
  rw[hE]
  rw[F8]at *
  refine Y6 Tryz.func67 45 fun E h0=>?_
  repeat'((first|refine A0 h1 ?_|refine A0 h2 ?_|refine A0 h3 ?_|(refine E6 1 ?_;refine R2 (id:=1) (σ':=⟨[(3,.iptr (sL s)),(4,.iptr [.str pr,.i ver,.sl 2 (picks.map A8),.sl 1 (rows.map D2)]),(5,.iptr (M8 cnd))],0,[]⟩) (A6 h0) ?_;refine B0 ?_ ?_;kernel_rfl) |refine S2 ?_|(refine T6 ?_ ?_<;>intro h<;>try exact V1 h)|intro el mI mJ|intro el mI|exact T4|refine T5 ?_ ?_|intro ex)<;>try conv=>whnf)
  all_goals first
   |(exfalso;omega)
   |exact H4 (B9 (H7 (d:=6) (e:=3) (sz:=1) rfl) (A7 h0 rfl ⟨rfl,trivial⟩ ⟨⟨0,rfl⟩,trivial⟩ rfl rfl rfl))
   |(exfalso;exact hc ⟨by omega,h⟩)
 obtain⟨ol,oG⟩:=Decidable.of_not_not hc
 have hE:DP s ⟨pr,ver,picks,rows⟩ cnd=Q6 (JQ s cnd picks) 0 rows:=if_pos ⟨ol,oG⟩
 rw[hE]
 obtain⟨_,_,_,nJ⟩:=o0 ol
 have h4:=fun (r:List Int) (hl:r.length=picks.length+1)=>aS s hr cnd nJ picks r.tail hp (by rw[List.length_tail];omega)
 rw[ol]at h1
 rw[oG]at h3
 have nV:=Ft (JQ s cnd picks) 0
 have nk:=Hm (JQ s cnd picks) 0
 have wH:∀r,JQ s cnd picks r=decide (Li s cnd (picks.zip r.tail)=1):=fun _=>rfl
 rw[F8]at *
 generalize Q6 (JQ s cnd picks) 0=FK at *
 refine Y6 Tryz.func67 45 fun E h0=>?_
 repeat'((first|refine A0 h1 ?_|refine A0 h2 ?_|refine A0 h3 ?_|(refine E6 1 ?_;refine R2 (id:=1) (σ':=⟨[(3,.iptr (sL s)),(4,.iptr [.str pr,.i ver,.sl 2 (picks.map A8),.sl 1 (rows.map D2)]),(5,.iptr (M8 cnd))],0,[]⟩) (A6 h0) ?_;refine B0 ?_ ?_;kernel_rfl) |refine S2 ?_|(refine T6 ?_ ?_<;>intro h<;>try exact V1 h)|intro el mI mJ|intro el mI|exact T4|refine T5 ?_ ?_|intro ex)<;>try conv=>whnf)
 all_goals first
  |(exfalso;omega)
  |skip
 refine A9 (ι:=Nat) (fun k=>⟨[(3,.iptr (sL s)),(4,.iptr [.str pr,.i ver,.sl 2 (picks.map A8),.sl 1 (rows.map D2)]),(5,.iptr (M8 cnd)),(7,.row 0 0 (FK (rows.take k)).length),(24,.sl 1 (rows.map D2)),(25,.i rows.length),(26,.i k)],1,[(0,some (.row 3 1 0 ((FK (rows.take k)).map wA)))]⟩)
  (fun k=>k≤rows.length) (fun k=>rows.length-k) 0 (Nat.zero_le _)
  (B9 (H7 (d:=7) (e:=3) (sz:=1) rfl) (A7 h0 rfl ⟨rfl,rfl,rfl,congrArg (fun z:Nat=>some (AV.row 0 0 z)) (by have:=nV [];simp at this;simp[this]),rfl,rfl,rfl,trivial⟩ ⟨⟨0,congrArg (C4.row 3 1 0) (by have:=nV [];simp at this;simp[this])⟩,trivial⟩ rfl rfl rfl)) (fun k hK=>?_)
 by_cases mT:k<rows.length
 ·obtain⟨r,ot⟩:∃r,rows[k]?=some r:=⟨_,List.getElem?_eq_getElem mT⟩
  have pH:rows[((k:Nat):Int).toNat]?=some r:=ot
  have ql:=O6 (mV k r ot)
  have hT:=h4 r ql
  rw[←QM]at hT
  have mR:=nk (rows.take k) r
  rw[←E7 ot,wH r,List.length_take,show 0+min k rows.length=k by omega]at mR
  have sw:=nV (rows.take k)
  rw[List.length_take]at sw
  generalize Li s cnd (picks.zip r.tail)=T at *
  by_cases hT1:T=1
  ·rw[decide_eq_true hT1,if_pos rfl]at mR
   repeat'((first|(refine A2 (x:=r) pH (by omega) ?_)|refine A0 hT ?_|(refine B0 ?_ ?_;kernel_rfl) |refine S2 ?_|(refine T6 ?_ ?_<;>intro h<;>try exact V1 h)|intro el mI mJ|intro el mI|exact T4|refine T5 ?_ ?_|intro ex)<;>try conv=>whnf)
   all_goals first
    |(exfalso;omega)
    |exact⟨k+1,by omega,by omega,A7 h0 rfl ⟨rfl,rfl,rfl,congrArg (fun z:Nat=>some (AV.row 0 0 z)) (by rw[mR];simp[L4]),rfl,rfl,rfl,trivial⟩ ⟨⟨_,congrArg (C4.row 3 1 _) (by rw[mR,List.map_append];rfl)⟩,trivial⟩ rfl rfl rfl⟩
  ·rw[decide_eq_false hT1,if_neg (by decide),List.append_nil]at mR
   repeat'((first|(refine A2 (x:=r) pH (by omega) ?_)|refine A0 hT ?_|(refine B0 ?_ ?_;kernel_rfl) |refine S2 ?_|(refine T6 ?_ ?_<;>intro h<;>try exact V1 h)|intro el mI mJ|intro el mI|exact T4|refine T5 ?_ ?_|intro ex)<;>try conv=>whnf)
   all_goals first
    |(exfalso;omega)
    |exact⟨k+1,by omega,by omega,A7 h0 rfl ⟨rfl,rfl,rfl,congrArg (fun z:Nat=>some (AV.row 0 0 z)) (by rw[mR]),rfl,rfl,rfl,trivial⟩ ⟨⟨_,congrArg (C4.row 3 1 _) (by rw[mR])⟩,trivial⟩ rfl rfl rfl⟩
 ·have he:rows.take k=rows:=List.take_of_length_le (by omega)
  rw[he]
  repeat'((first|refine S2 ?_|(refine T6 ?_ ?_<;>intro h<;>try exact V1 h)|intro el mI mJ|intro el mI|exact T4|refine T5 ?_ ?_|intro ex)<;>try conv=>whnf)
  all_goals first
   |(exfalso;omega)
   |exact H4 (A6 h0)
end Go.Proofs.YtiphlhoclaogjaaGreatDoor
