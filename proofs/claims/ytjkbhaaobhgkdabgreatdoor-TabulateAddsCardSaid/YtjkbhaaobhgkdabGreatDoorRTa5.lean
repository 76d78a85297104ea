/- Rows of bytes out of which a text was made, and that go on. -/
import Derived.Test.YtjkbhaaobhgkdabGreatDoorRAvH
import Derived.Test.YtjkbhaaobhgkdabGreatDoorRE3
import Derived.Lib.Builder
import Derived.Lib.UnsafeStr
import Derived.Lib.SliceRun
import Derived.Test.YtjkbhaaobhgkdabGreatDoorRTa2
set_option linter.unusedSimpArgs false
set_option linter.unusedVariables false
set_option linter.unnecessarySimpa false
set_option maxHeartbeats 64000000
namespace Go.Av
open Go Go.RowKit
theorem Ih{g t:Nat}{fz:Nat×Nat}:∀(vs:List Value) (o:Nat) (w:World) (nV:Array Value),w.heap[g]?=some (.cells nV t fz)→o+vs.length≤nV.size →
  (w.setCells g o vs).heap[g]?=some (.cells (nV.toList.take o++vs++nV.toList.drop (o+vs.length)).toArray t fz)∧(∀k,k≠g→(w.setCells g o vs).heap[k]?=w.heap[k]?)∧(w.setCells g o vs).heap.size=w.heap.size∧(w.setCells g o vs).os=w.os∧(w.setCells g o vs).tape=w.tape∧(w.setCells g o vs).output=w.output
 |[],o,w,nV,h,hl=>by
  refine⟨?_,fun _ _=>rfl,rfl,rfl,rfl,rfl⟩
  simp only[World.setCells,h,List.append_nil,List.length_nil,Nat.add_zero,List.take_append_drop,Array.toArray_toList]
 |v::r,o,w,nV,h,hl=>by
  simp only[List.length_cons]at hl
  have h1:(w.setCell ⟨g,o,none⟩ v).heap[g]?=some (.cells (nV.setIfInBounds o v) t fz):=by
   simp[World.setCell,Array.getElem?_modify,h]
  obtain⟨q1,q2,q3,q4,q5,q6⟩:=Ih r (o+1) (w.setCell ⟨g,o,none⟩ v) (nV.setIfInBounds o v) h1 (by simp;omega)
  refine⟨?_,fun k hk=>?_,?_,?_,?_,?_⟩
  ·rw[World.setCells,q1]
   congr 3
   rw[Array.toList_setIfInBounds]
   have ho:o<nV.toList.length:=by simp;omega
   rw[List.take_add_one,List.getElem?_set_self ho,List.take_set_of_le (Nat.le_refl _),List.drop_set_of_lt (by omega)]
   simp only[Option.toList,List.append_assoc,List.singleton_append,List.length_cons]
   rw[Nat.add_assoc o 1,Nat.add_comm 1]
  ·rw[World.setCells,q2 k hk]
   simp[World.setCell,Array.getElem?_modify,Ne.symm hk]
  ·rw[World.setCells,q3];simp[World.setCell]
  ·rw[World.setCells,q4];rfl
  ·rw[World.setCells,q5];rfl
  ·rw[World.setCells,q6];rfl
section rules
variable {P:Program} {E:Env} {n:Nat} {ops:Array Oper} {rest:List Oper} {σ:St} {K:St→Prop} {d:Nat} {ty:TypeId} {pos:String} {after:Array Edge} {x y:Operand} {L:List AV}
theorem kw{e:Nat}(he:e<H3):w9 (v7+e)=false∧v7+e<J1∧X7 (v7+e)=false:=by
 unfold H3 at he
 have h1:Nat.blt (v7+e) v7=false:=by
  cases hb:Nat.blt (v7+e) v7 with
  |false=>rfl
  |true=>have:=Nat.blt_eq▸hb;omega
 refine⟨by unfold w9;rw[h1,RM (by unfold v7 J1;omega)];rfl,by unfold v7 J1;omega,?_⟩
 unfold X7
 rw[h1,RM (a:=P3) (by unfold v7 P3;omega),Bool.and_false,Bool.or_false]
theorem L6.fz{w:World}{g e:Nat}{nV:Array Value}(h:L6 w g nV (v7+e))(he:e<H3):∃fz,w.heap[g]?=Option.some (.cells nV e fz):=by
 obtain⟨h1,h2,_⟩:=kw he
 rcases h with ⟨h,_⟩|⟨_,h,_⟩|⟨_,h,_⟩|⟨_,fz,h⟩
 ·unfold v7 K8 at h;omega
 ·unfold v7 K8 at h;omega
 ·rw[h1]at h;cases h
 ·exact⟨fz,by rw[Nat.add_sub_cancel_left]at h;exact h⟩
theorem L6.mine{w:World}{g e F:Nat}{nV:Array Value}(h:L6 w g nV (F+e))(he:e<H3)(hF:F=0∨F=v7):∃fz,w.heap[g]?=Option.some (.cells nV e fz)∧(F=0→fz=(0,0)):=by
 rcases hF with rfl|rfl
 ·rw[Nat.zero_add]at h
  rcases h with ⟨_,h⟩|⟨h,_⟩|⟨h,_⟩|⟨h,_⟩
  ·exact⟨_,h,fun _=>rfl⟩
  ·omega
  ·unfold H3 at he;unfold K8 at h;omega
  ·rw[HF (j7 he)]at h;cases h
 ·obtain⟨fz,h⟩:=h.fz he
  exact⟨fz,h,fun h=>by unfold v7 at h;omega⟩
end rules
section rules
variable {P:Program} {E:Env} {n:Nat} {ops:Array Oper} {rest:List Oper} {σ:St} {K:St→Prop} {d:Nat} {ty:TypeId} {pos:String} {after:Array Edge} {x y:Operand}
theorem Tl{g:Nat}:∀(vs:List Value) (o:Nat) (w:World),vs=[]→w.setCells g o vs=w
 |[],_,_,_=>rfl
 |_::_,_,_,h=>by cases h
theorem Yg{T e:Nat}{z:Value}[ts:L7 P T e 1](hz:z.cells=#[z]∧z.oneCell'=true)(hzi:(P.info? e).bind (·.zero)=some z){i ver lo len:Nat}{l:List (List AV)}(hx:E9 σ x=some (.sub i ver lo len))(hb:A5 σ.hp i=some (.row e 1 ver l))(rI:lo+len=l.length)(oK:Nat.blt e H3=true)
  (k:B0 P E n ops rest (σ.set i (.row e 1 ver (l.take lo++List.replicate len [.v z]))) K):B0 P E n ops (⟨none,.call ⟨.builtin .clear,#[x],#[T]⟩,ty,pos,after,none⟩::rest) σ K:=by
 intro a w ⟨θ,hs⟩
 have oK:=Nat.blt_eq▸oK
 obtain⟨rl,qW,nz⟩:=Wn (hs.ev hx) hb
 obtain⟨_,xs,ho,qQ,oO,_⟩:=hs.owns i _ hb
 have hU:=ts.out.1
 obtain⟨ti,vx,oS⟩:=Option.bind_eq_some_iff.1 hzi
 have sP:∀w,(zeroValue e).run P w=.ok z w:=k0 vx oS
 have rA:∃x m c,θ i=.slice x m c:=by
  rcases ho.2 with ⟨h1,_⟩|⟨g,cap,nV,h1,_⟩<;>exact⟨_,_,_,h1⟩
 unfold wpList
 rw[if_pos (by simp[Region.wanted])]
 left
 have key:∃w',(execOp a.eval ⟨none,.call ⟨.builtin .clear,#[x],#[T]⟩,ty,pos,after,none⟩).run P w=.ok (.value (.tuple #[])) w'∧w'.os=w.os∧w'.tape=w.tape∧w'.output=w.output∧w'.heap.size=w.heap.size ∧
   (∀k,fp (θ i)≠some k→w'.heap[k]?=w.heap[k]?)∧Q3 w' e 1 (θ i) (l.take lo++List.replicate len [AV.v z]).length (xs.take lo++List.replicate len z):=by
  have nO:(l.take lo++List.replicate len [AV.v z]).length=l.length:=by simp;omega
  rw[nO]
  have vt:xs.length=l.length:=by rw[ho.1,Nat.mul_one]
  have xP:(xs.take lo++List.replicate len z).length=l.length*1:=by simp;omega
  rcases qW with ⟨h1,h2,rfl,rfl⟩|⟨g,n',cap,h1,h2⟩
  ·refine⟨w,?_,rfl,rfl,rfl,rfl,fun _ _=>rfl,⟨xP,?_⟩⟩
   ·rw[Q7,h2]
    simp[builtin,Builtin.clear_,run_underlying hU,Sem.run_bind,Sem.run_pure,sP]
   ·rcases ho.2 with ⟨h3,h4⟩|⟨g',oR,nV,h3,_⟩
    ·exact .inl ⟨h3,h4⟩
    ·have qd:θ i=.slice (some ⟨g',0,none⟩) l.length oR:=h3
     have oB:θ i=.slice none 0 0:=h1
     rw[oB]at qd;cases qd
  ·have oB:θ i=.slice (some ⟨g,0,none⟩) n' cap:=h1
   rcases ho.2 with ⟨h3,h4⟩|⟨g',oR,nV,h3,h4,h5,h6,h7,h8,h9⟩
   ·have qd:θ i=.slice none 0 0:=h3
    rw[oB]at qd;cases qd
   ·have qd:θ i=.slice (some ⟨g',0,none⟩) l.length oR:=h3
    rw[oB]at qd
    cases qd
    have zg:w.heap[g]?=some (.cells nV e (0,0)):=by
     rcases h5 with ⟨_,hg⟩|⟨h2,_⟩|⟨h2,_⟩|⟨h2,_⟩
     ·exact hg
     ·omega
     ·unfold H3 at oK;unfold K8 at h2;omega
     ·rw[HF (j7 oK)]at h2;cases h2
    rw[Nat.mul_one]at h8
    have nd:lo+(List.replicate len z).length≤nV.size:=by simp;omega
    obtain⟨q1,q2,q3,q4,q5,q6⟩:=Ih (List.replicate len z) lo w nV zg nd
    refine⟨w.setCells g lo (List.replicate len z),?_,q4,q5,q6,q3,fun k hk=>q2 k fun e=>hk (by rw[oB,e];rfl),⟨xP,.inr ⟨g,cap,_,oB,.lt (j7 oK),.inl ⟨by unfold H3 at oK;unfold K8;omega,q1⟩,h6,h7,?_,?_⟩⟩⟩
    ·rw[Q7,h2]
     by_cases rR:len=0
     ·subst rR
      have:w.setCells g lo (List.replicate 0 z)=w:=Tl _ _ _ rfl
      rw[this]
      simp[builtin,Builtin.clear_,run_underlying hU,Sem.run_bind,Sem.run_pure,sP]
     ·have oN:¬cap=lo:=by omega
      rw[if_neg oN,Nat.mul_one]
      have hr:=Lib.run_clear_slice (P:=P) w T e ty z hU sP hz.1 hz.2 g lo len (cap-lo) (by omega) (fun j hj=>by rw[J7 zg];simp;omega) (fun j hj=>by simp[World.frozen?,zg])
      simp[builtin,Sem.run_bind,Sem.run_pure,hr]
    ·simp;omega
    ·have nl:nV.toList.length=cap:=by simpa using h8
     have h9':nV.toList.take l.length=xs:=by simpa using h9
     rw[List.toList_toArray,Nat.mul_one,List.take_append_of_le_length (by simp;omega),←h9',List.take_take]
     rw[List.take_of_length_le (by simp;omega)]
     congr 2
     omega
 obtain⟨w',hex,h1,h2,h3,h4,h5,h6⟩:=key
 simp only[Oper.wp,hex,Oper.upon]
 have ht:=hs.turn (v':=θ i) (b':=.row e 1 ver (l.take lo++List.replicate len [.v z])) (w':=w') (hkp:=fun _ _ _ _ h hk _=>by cases h;rw[HH oK]at hk;cases hk) (hne:=fun h=>by rw[M5 (P4 oK)]at h;cases h) hb h1 h2 h3 (by omega) (fun k _ hk=>h5 k hk) (fun k hk=>.inl hk)
  ⟨rA,e,ver,l,rfl,.inr ⟨rfl,by simp;omega,rfl⟩⟩ fun le=>by
  refine⟨xs.take lo++List.replicate len z,by simp only[cx,E5];exact h6,fun el nN=>?_,fun q el hq j x hx=>?_,.lt (P4 oK)⟩
  ·rcases List.mem_append.1 nN with h|h
   ·exact qQ el (List.mem_of_mem_take h)
   ·rw[List.eq_of_mem_replicate h];rfl
  ·have vt:xs.length=l.length:=by rw[ho.1,Nat.mul_one]
   rw[List.getElem?_append]at hq
   split at hq
   ·rename_i nR
    rw[List.length_take]at nR
    rw[List.getElem?_take,if_pos (by omega)]at hq
    obtain⟨y,hy,hi⟩:=oO q el hq j x hx
    have hj:j=0:=by
     have h1:=qQ el (List.mem_of_getElem? hq)
     have h2:=(List.getElem?_eq_some_iff.1 hx).1
     omega
    subst hj
    refine⟨y,?_,hi.mono le.heap le.U⟩
    rw[Nat.mul_one,Nat.add_zero]at hy ⊢
    rw[List.getElem?_append_left (by rw[List.length_take];omega),List.getElem?_take,if_pos (by omega)]
    exact hy
   ·rename_i nR
    rw[List.length_take]at nR
    rw[List.getElem?_replicate]at hq
    split at hq
    ·rename_i pI
     cases hq
     cases j with
     |zero =>
      cases hx
      refine⟨z,?_,.v _⟩
      rw[Nat.mul_one,Nat.add_zero,List.getElem?_append_right (by rw[List.length_take];omega),List.length_take,List.getElem?_replicate,if_pos (by rw[List.length_take]at pI;omega)]
     |succ j=>simp at hx
    ·cases hq
 exact k _ _ ⟨_,by simpa [Act.put]using ht⟩
theorem Kq{T e:Nat}(hU:P.underlying T=some (.slice e))(m:Nat)(p:Option Addr)(l c:Nat)(w:World):(Op.equalIn (m+1) T (.slice p l c) (.slice none 0 0)).run P w=.ok p.isNone w:=by
 rw[Op.equalIn]
 simp only[Sem.run_bind,run_underlying hU,Result.andThen_ok]
 cases p<;>rfl
theorem GE{T e:Nat}(hU:P.underlying T=some (.slice e))(p:Option Addr)(l c:Nat)(w:World):(Op.equal T (.slice p l c) (.slice none 0 0)).run P w=.ok p.isNone w:=Kq hU 9999 p l c w
theorem Nv{T T2 e s0 sz:Nat}[ts:L7 P T e s0]{l:List (List AV)}(hx:E9 σ x=some (.sl sz l))(hy:E9 σ y=some (.v (.slice none 0 0)))(hd:Nat.blt d n=true)(k:∀b:Bool,(b=true→l=[])→B0 P E n ops rest (σ.put d (.v (.bool b))) K):
  B0 P E n ops (⟨some d,.binOp .eql T x y T2,ty,pos,after,none⟩::rest) σ K:=by
 intro a w ⟨θ,hs⟩
 have hU:=ts.out.1
 have sr:=(hs.ev hy).val
 unfold wpList
 rw[if_pos (by simp[Region.wanted])]
 left
 obtain⟨b,uR,hr⟩:∃b:Bool,(b=true→l=[])∧(execOp a.eval ⟨some d,.binOp .eql T x y T2,ty,pos,after,none⟩).run P w=.ok (.value (.bool b)) w:=by
  rcases FG (hs.ev hx)with ⟨h1,h2⟩|⟨p,cap,f,h1,_⟩
  ·refine⟨true,fun _=>h2,J8 ?_ ?_⟩
   ·rw[h1,sr];simp[eqGuard,Sem.run_pure]
   ·rw[h1,sr];simp[binOp,GE hU,Sem.run_bind,Sem.run_pure]
  ·refine⟨false,fun h=>absurd h (by decide),J8 ?_ ?_⟩
   ·rw[h1,sr];simp[eqGuard,Sem.run_pure]
   ·rw[h1,sr];simp[binOp,GE hU,Sem.run_bind,Sem.run_pure]
 unfold Oper.wp
 rw[hr]
 exact k b uR _ _ ⟨θ,hs.put (Nat.blt_eq▸hd) (.im (.v _))⟩
end rules
end Go.Av
namespace Go.Proofs.YtjkbhaaobhgkdabGreatDoor
open Go Go.Av
attribute [local irreducible] D0 B0 D2 C7 DQ D1 C8 St.le A3 B6
set_option maxRecDepth 100000
theorem Jf{E:Env}{n:Nat}{σ:St}(i j:Nat){e sz:Nat}{l:List AV}(hb:A5 σ.hp i=some (.box l))(hj:l[j]?=some (.v (.slice none 0 0)))(he:Nat.blt e J1=true:=by rfl):St.le E n σ ((σ.new (.row e sz 0 [])).set i (.box (l.set j (.row σ.nx 0 0)))):=by
 unfold St.le
 rintro a w ⟨θ,h⟩
 have h2:=h.grow (w':=w) (Go.RowKit.Below.refl _ _) (.slice none 0 0) (.row e sz 0 []) (fun k hk=>by cases hk) (fun le=>⟨[],⟨by simp,.inl ⟨by simp[cx,E5],rfl⟩⟩,(fun el nN=>by cases nN),(fun k el hk=>by simp at hk),.lt (Nat.blt_eq▸he)⟩) (M5 (Nat.blt_eq▸he))
 have nR:=(h.owns i _ hb).1
 have pR:A5 (σ.new (.row e sz 0 [])).hp i=some (.box l):=by
  simp only[St.new,F4]
  rw[if_neg (by omega)];exact hb
 obtain⟨_,b,ny,ty,h3,h4,h5,h6⟩:=h2.owns i _ pR
 refine⟨_,h2.turn (v':=Go.Av.upd θ σ.nx (.slice none 0 0) i) (b':=.box (l.set j (.row σ.nx 0 0))) (w':=w) pR rfl rfl rfl (Nat.le_refl _) (fun _ _ _=>rfl) (fun k hk=>.inl hk) rfl fun le=>?_⟩
 refine⟨b,ny,ty,by simp only[cx,E5];exact h3,h4,by rw[List.length_set];exact h5,fun q x y hx hy=>?_⟩
 rw[List.getElem?_set]at hx
 split at hx
 ·rename_i eq
  subst eq
  split at hx
  ·cases hx
   have hv:=(h6 j _ y hj hy).val
   rw[hv]
   refine .row _ _ _ _ (by simp[cx,St.new,St.set]) fun e' nU v' l' hl=>?_
   simp only[cx,St.new,St.set,F4]at hl
   rw[if_neg (by omega)]at hl
   simp only[if_true]at hl
   cases hl
   refine⟨Nat.le_refl _,fun _=>⟨rfl,?_⟩⟩
   simp only[cx]
   rw[N2 _ _ (by omega),E5]
  ·cases hx
 ·exact(h6 q x y hx hy).mono le
end Go.Proofs.YtjkbhaaobhgkdabGreatDoor
namespace Go.Av
open Go Go.RowKit
def mv:Op→Bool
 |.buildSlice ..=>true
 |_=>false
def bP(ops:Array Oper)(n:Nat)(done:List Bool)(mb:List MB)(sl:List (Nat×AV))(i:Nat):Bool :=
 RV ops n done mb sl i && match ops[i]? with
  |some o=>!(mv o.op)
  |none=>false
def ky(P:Program)(E:Env)(n:Nat)(ops:Array Oper)(done:List Bool)(mb:List MB)(σ:St)(K:St→Prop):Prop :=
 match (List.range ops.size).find? (bP ops n done mb σ.sl)with
 |some i=>match ops[i]? with
  |some ⟨some d,op,_,_,_,none⟩=>Bi (GS op (K5 mb++σ.sl)) fun rd=>MV P op (E9 ⟨rd,0,[]⟩) fun av=>C7 P E n ops done (⟨i,d,av,rd,[]⟩::mb) σ K
  |_=>False
 |none=>NN (JQ ops done mb) fun L=>match L with
  |[]=>cond (NT ops done mb) (K ⟨K5 mb++σ.sl,σ.nx,σ.hp⟩) False
  |i::r=>KP P E n ops done mb σ K (i::r)
theorem Cz{P:Program}{E:Env}{n:Nat}{ops:Array Oper}{done:List Bool}{mb:List MB}{σ:St}{K:St→Prop}(nO:Nat.beq done.length ops.size=true)(nr:Ey ops=true)(h:ky P E n ops done mb σ K):C7 P E n ops done mb σ K:=by
 unfold ky at h
 split at h
 ·rename_i i hi
  have qv:=List.find?_some hi
  unfold bP at qv
  simp only[Bool.and_eq_true]at qv
  have hc:=qv.1
  split at h
  ·rename_i d op ty pos after pd
   simp only[RV,pd,Bool.and_eq_true,Bool.not_eq_true']at hc
   exact Sd pd hc.2.2 hc.2.1.2 hc.1.1.1 (Y0 h)
  ·exact h.elim
 ·exact Pv nO nr h
end Go.Av
namespace Go.Proofs.YtjkbhaaobhgkdabGreatDoor
open Go Go.Av
attribute [local irreducible] D0 B0 D2 C7 DQ D1 C8 St.le A3 B6
set_option maxRecDepth 100000
def Aa{α:Type}(p:α→Bool):Nat→List α→List Int
 |_,[]=>[]
 |k,r::t=>if p r=true then (k:Int)::Aa p (k+1) t else Aa p (k+1) t
theorem Nw{α:Type}(p:α→Bool):∀(k:Nat) (l:List α) (x:α),Aa p k (l++[x])=Aa p k l++(if p x=true then [((k+l.length:Nat):Int)]else [])
 |k,[],x=>by simp[Aa]
 |k,r::t,x=>by
  have ih:=Nw p (k+1) t x
  rw[List.cons_append,Aa,Aa,ih,List.length_cons,show k+1+t.length=k+(t.length+1) by omega]
  split<;>simp
theorem Jg{α:Type}(p:α→Bool):∀(k:Nat) (l:List α),(Aa p k l).length≤l.length
 |_,[]=>Nat.le_refl _
 |k,r::t=>by
  have:=Jg p (k+1) t
  unfold Aa
  split<;>simp<;>omega
theorem Jh{α:Type}{p:α→Bool}:∀{k:Nat} {l:List α} {i:Int},i∈Aa p k l→∃j:Nat,i=((k+j:Nat):Int)∧∃x,l[j]?=some x∧p x=true
 |k,[],i,h=>by cases h
 |k,r::t,i,h=>by
  unfold Aa at h
  by_cases hp:p r=true
  ·rw[if_pos hp]at h
   rcases List.mem_cons.1 h with rfl|h
   ·exact⟨0,rfl,r,rfl,hp⟩
   ·obtain⟨j,h1,x,h2,h3⟩:=Jh h
    exact⟨j+1,by rw[h1];congr 1;omega,x,h2,h3⟩
  ·rw[if_neg hp]at h
   obtain⟨j,h1,x,h2,h3⟩:=Jh h
   exact⟨j+1,by rw[h1];congr 1;omega,x,h2,h3⟩
def PF(s:A4)(cnd:B1)(picks:List Pk)(r:List Int):Bool:=decide (Te s cnd (picks.zip r.tail)=1)
def EQ(s:A4)(x:K3)(cnd:B1):List Int:=if J6 s cnd=0∧AM x.picks (L5 s cnd)=true then Aa (PF s cnd x.picks) 0 x.rows else []
theorem EG{s:A4}{x:K3}(h:V4 s x=0):C5 s=0∧K9 s x.picks=0∧x.rows.length≤200∧∀(k:Nat) r,x.rows[k]?=some r→De s x.picks r=true:=by
 unfold V4 at h
 by_cases e1:C5 s=0
 ·rw[if_neg (fun hh=>hh e1)]at h
  split at h
  ·cases h
  ·split at h
   ·cases h
   ·by_cases e2:K9 s x.picks=0
    ·rw[if_neg (fun hh=>hh e2)]at h
     split at h
     ·cases h
     ·refine⟨e1,e2,by omega,fun k r hk=>?_⟩
      have:=N5 h k r hk
      unfold EP at this
      cases hf:De s x.picks r with
      |true=>rfl
      |false=>rw[if_pos hf]at this;cases this
    ·rw[if_pos e2]at h;exact absurd h e2
 ·rw[if_pos e1]at h;exact absurd h e1
theorem bQ(r:List Int):List.drop (1:Int).toNat (List.take ((r.map wA).length:Int).toNat (r.map wA))=r.tail.map wA:=by
 rw[Int.toNat_natCast,List.length_map]
 cases r with
 |nil=>rfl
 |cons a t=>simp[List.take_of_length_le]
theorem Tm(s:A4)(x:K3)(hx:V4 s x=0)(cnd:B1):B6 Tryz.prog 64 0 [] [sA s,BP x,E7 cnd] 1 [(0,some (.row 3 1 0 ((EQ s x cnd).map wA)))] (.row 0 0 (EQ s x cnd).length):=by
 obtain⟨hr,hp,od,nd⟩:=EG hx
 have h1:=AE s cnd
 have h2:=GZ s cnd
 have h3:=Be x.picks (L5 s cnd)
 have qA:=CU hp
 have nl:=(F2 hr).2.1
 clear hx
 obtain⟨pr,ver,picks,rows⟩:=x
 dsimp only at *
 by_cases hc:¬(J6 s cnd=0∧AM picks (L5 s cnd)=true)
 ·have hE:EQ s ⟨pr,ver,picks,rows⟩ cnd=[]:=if_neg hc
  rw[hE]
  rw[F8]at *
  refine X6 Tryz.func64 45 fun E h0=>?_
  repeat'((first|refine A1 h1 ?_|refine A1 h2 ?_|refine A1 h3 ?_|(refine G3 1 ?_;refine P5 (id:=1) (σ':=⟨[(3,.iptr (sL s)),(4,.iptr [.str pr,.i ver,.sl 2 (picks.map B5),.sl 1 (rows.map H1)]),(5,.iptr (O4 cnd))],0,[]⟩) (A6 h0) ?_;refine B8 ?_ ?_;kernel_rfl) |refine S2 ?_|(refine T6 ?_ ?_<;>intro h<;>try exact V1 h)|intro el nN nP|intro el nN|exact T4|refine T5 ?_ ?_|intro ex)<;>try conv=>whnf)
  all_goals first
   |(exfalso;omega)
   |exact G9 (C2 (K4 (d:=6) (e:=3) (sz:=1) rfl) (A8 h0 rfl ⟨rfl,trivial⟩ ⟨⟨0,rfl⟩,trivial⟩ rfl rfl rfl))
   |(exfalso;exact hc ⟨by omega,h⟩)
 obtain⟨qC,pc⟩:=Decidable.of_not_not hc
 have hE:EQ s ⟨pr,ver,picks,rows⟩ cnd=Aa (PF s cnd picks) 0 rows:=if_pos ⟨qC,pc⟩
 rw[hE]
 obtain⟨_,_,_,oe⟩:=BH qC
 have h4:=fun (r:List Int) (hl:r.length=picks.length+1)=>bJ s hr cnd oe picks r.tail hp (by rw[List.length_tail];omega)
 rw[qC]at h1
 rw[pc]at h3
 have pF:=Jg (PF s cnd picks) 0
 have oy:=Nw (PF s cnd picks) 0
 have wE:∀r,PF s cnd picks r=decide (Te s cnd (picks.zip r.tail)=1):=fun _=>rfl
 rw[F8]at *
 generalize Aa (PF s cnd picks) 0=FK at *
 refine X6 Tryz.func64 45 fun E h0=>?_
 repeat'((first|refine A1 h1 ?_|refine A1 h2 ?_|refine A1 h3 ?_|(refine G3 1 ?_;refine P5 (id:=1) (σ':=⟨[(3,.iptr (sL s)),(4,.iptr [.str pr,.i ver,.sl 2 (picks.map B5),.sl 1 (rows.map H1)]),(5,.iptr (O4 cnd))],0,[]⟩) (A6 h0) ?_;refine B8 ?_ ?_;kernel_rfl) |refine S2 ?_|(refine T6 ?_ ?_<;>intro h<;>try exact V1 h)|intro el nN nP|intro el nN|exact T4|refine T5 ?_ ?_|intro ex)<;>try conv=>whnf)
 all_goals first
  |(exfalso;omega)
  |skip
 refine B2 (ι:=Nat) (fun k=>⟨[(3,.iptr (sL s)),(4,.iptr [.str pr,.i ver,.sl 2 (picks.map B5),.sl 1 (rows.map H1)]),(5,.iptr (O4 cnd)),(7,.row 0 0 (FK (rows.take k)).length),(24,.sl 1 (rows.map H1)),(25,.i rows.length),(26,.i k)],1,[(0,some (.row 3 1 0 ((FK (rows.take k)).map wA)))]⟩)
  (fun k=>k≤rows.length) (fun k=>rows.length-k) 0 (Nat.zero_le _)
  (C2 (K4 (d:=7) (e:=3) (sz:=1) rfl) (A8 h0 rfl ⟨rfl,rfl,rfl,congrArg (fun z:Nat=>some (AV.row 0 0 z)) (by have:=pF [];simp at this;simp[this]),rfl,rfl,rfl,trivial⟩ ⟨⟨0,congrArg (C9.row 3 1 0) (by have:=pF [];simp at this;simp[this])⟩,trivial⟩ rfl rfl rfl)) (fun k hK=>?_)
 by_cases nZ:k<rows.length
 ·obtain⟨r,rP⟩:∃r,rows[k]?=some r:=⟨_,List.getElem?_eq_getElem nZ⟩
  have sQ:rows[((k:Nat):Int).toNat]?=some r:=rP
  have uh:=y5 (nd k r rP)
  have hT:=h4 r uh
  rw[←bQ]at hT
  have nj:=oy (rows.take k) r
  rw[←I3 rP,wE r,List.length_take,show 0+min k rows.length=k by omega]at nj
  have uY:=pF (rows.take k)
  rw[List.length_take]at uY
  generalize Te s cnd (picks.zip r.tail)=T at *
  by_cases hT1:T=1
  ·rw[decide_eq_true hT1,if_pos rfl]at nj
   repeat'((first|(refine A2 (x:=r) sQ (by omega) ?_)|refine A1 hT ?_|(refine B8 ?_ ?_;kernel_rfl) |refine S2 ?_|(refine T6 ?_ ?_<;>intro h<;>try exact V1 h)|intro el nN nP|intro el nN|exact T4|refine T5 ?_ ?_|intro ex)<;>try conv=>whnf)
   all_goals first
    |(exfalso;omega)
    |exact⟨k+1,by omega,by omega,A8 h0 rfl ⟨rfl,rfl,rfl,congrArg (fun z:Nat=>some (AV.row 0 0 z)) (by rw[nj];simp[M0]),rfl,rfl,rfl,trivial⟩ ⟨⟨_,congrArg (C9.row 3 1 _) (by rw[nj,List.map_append];rfl)⟩,trivial⟩ rfl rfl rfl⟩
  ·rw[decide_eq_false hT1,if_neg (by decide),List.append_nil]at nj
   repeat'((first|(refine A2 (x:=r) sQ (by omega) ?_)|refine A1 hT ?_|(refine B8 ?_ ?_;kernel_rfl) |refine S2 ?_|(refine T6 ?_ ?_<;>intro h<;>try exact V1 h)|intro el nN nP|intro el nN|exact T4|refine T5 ?_ ?_|intro ex)<;>try conv=>whnf)
   all_goals first
    |(exfalso;omega)
    |exact⟨k+1,by omega,by omega,A8 h0 rfl ⟨rfl,rfl,rfl,congrArg (fun z:Nat=>some (AV.row 0 0 z)) (by rw[nj]),rfl,rfl,rfl,trivial⟩ ⟨⟨_,congrArg (C9.row 3 1 _) (by rw[nj])⟩,trivial⟩ rfl rfl rfl⟩
 ·have he:rows.take k=rows:=List.take_of_length_le (by omega)
  rw[he]
  repeat'((first|refine S2 ?_|(refine T6 ?_ ?_<;>intro h<;>try exact V1 h)|intro el nN nP|intro el nN|exact T4|refine T5 ?_ ?_|intro ex)<;>try conv=>whnf)
  all_goals first
   |(exfalso;omega)
   |exact G9 (A6 h0)
end Go.Proofs.YtjkbhaaobhgkdabGreatDoor
