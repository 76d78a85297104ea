/- Regions that draw their order, of quiet operations. Blocks under other numbers; calls that are handed memory of one's own. Regions that draw their order and write: every order, pure operations first. Regions that draw their order: what only makes or reads what nobody writes may happen at any time. What came in, read as abstract values; and a law's contract out of a call. One word for many steps of the walk: what a goal asks instead. -/
import Derived.Test.YtjkbhaaobhgkdabGreatDoorRE2
import Derived.Orders
import Derived.Carry
import Derived.RowKit
import Derived.OpenShut
import Derived.KernelRfl
set_option linter.unusedSimpArgs false
set_option linter.unusedVariables false
set_option linter.unnecessarySimpa false
set_option maxHeartbeats 64000000
namespace Go.Av
open Go Go.RowKit
class JH(P:Program):Prop where
 out:P.follows .mixedOrders=true
section congr
variable {P:Program} {hp:Hp} {ev ev':Operand→Option AV} {F:AV→Prop}
theorem Fq:∀{l:List Operand},(∀x∈l,ev x=ev' x)→e8 ev l=e8 ev' l
 |[],_=>rfl
 |x::r,h=>by simp only[e8,h x (by simp),Fq (l:=r) fun y hy=>h y (by simp[hy])]
theorem JI:∀{l:List (Nat×Operand)},(∀x∈l.map (·.2),ev x=ev' x)→BU ev l=BU ev' l
 |[],_=>rfl
 |(i,x)::r,h=>by simp only[BU,h x (by simp),JI (l:=r) fun y hy=>h y (by simp at hy ⊢;exact .inr hy)]
theorem Pn{m:Nat}{o:Option Operand}(h:∀x,o=some x→ev x=ev' x):AX ev m o=AX ev' m o:=by
 cases o with
 |none=>rfl
 |some x=>simp only[AX,h x rfl]
theorem aD{op:Op}(h:∀x∈op.operands.toList,ev x=ev' x)(ho:Fp P op ev hp F):Fp P op ev' hp F:=by
 unfold Fp at ho
 split at ho
 ·rename_i x;rw[h x (by simp[Op.operands])]at ho;exact ho
 ·rename_i x;rw[h x (by simp[Op.operands])]at ho;exact ho
 ·rename_i c a b
  rw[h c (by simp[Op.operands]),h a (by simp[Op.operands]),h b (by simp[Op.operands])]at ho;exact ho
 ·rename_i op T x y T2;rw[h x (by simp[Op.operands]),h y (by simp[Op.operands])]at ho;exact ho
 ·rename_i T x;rw[h x (by simp[Op.operands])]at ho;exact ho
 ·rename_i T x;rw[h x (by simp[Op.operands])]at ho;exact ho
 ·rename_i T x;rw[h x (by simp[Op.operands])]at ho;exact ho
 ·rename_i T x;rw[h x (by simp[Op.operands])]at ho;exact ho
 ·rename_i S x f;rw[h x (by simp[Op.operands])]at ho;exact ho
 ·rename_i T x y;rw[h x (by simp[Op.operands]),h y (by simp[Op.operands])]at ho;exact ho
 ·rename_i T x y;rw[h x (by simp[Op.operands]),h y (by simp[Op.operands])]at ho;exact ho
 ·rename_i x;rw[h x (by simp[Op.operands])]at ho;exact ho
 ·rename_i S T x;rw[h x (by simp[Op.operands])]at ho;exact ho
 ·rename_i x T;rw[h x (by simp[Op.operands,Call.operands])]at ho;exact ho
 ·rename_i x y T U;rw[h x (by simp[Op.operands,Call.operands]),h y (by simp[Op.operands,Call.operands])]at ho;exact ho
 ·rename_i x y T U;rw[h x (by simp[Op.operands,Call.operands]),h y (by simp[Op.operands,Call.operands])]at ho;exact ho
 ·rename_i f args ts
  rw[Fq (ev':=ev') (fun x hx=>h x (by simp[Op.operands,Call.operands];exact .inr hx))]at ho;exact ho
 ·rename_i t args ts
  rw[h (.tmp t) (by simp[Op.operands,Call.operands]),Fq (ev':=ev') (fun x hx=>h x (by simp[Op.operands,Call.operands];exact .inr hx))]at ho;exact ho
 ·rename_i T parts
  rw[JI (ev':=ev') (fun x hx=>h x (by simpa [Op.operands]using hx))]at ho;exact ho
 ·rename_i T len parts
  rw[JI (ev':=ev') (fun x hx=>h x (by simpa [Op.operands]using hx))]at ho;exact ho
 ·rename_i T x y ok;rw[h x (by simp[Op.operands]),h y (by simp[Op.operands])]at ho;exact ho
 ·rename_i T x lo hi
  have e1:∀m,AX ev m lo=AX ev' m lo:=fun m=>Pn fun y hy=>h y (by subst hy;simp[Op.operands])
  have e2:∀m,AX ev m hi=AX ev' m hi:=fun m=>Pn fun y hy=>h y (by subst hy;simp[Op.operands])
  unfold NG at ho
  simp only[e1,e2]at ho
  rw[h x (by simp[Op.operands])]at ho
  exact ho
 ·rename_i x k;rw[h x (by simp[Op.operands])]at ho;exact ho
 ·rename_i f xs
  rw[Fq (ev':=ev') (fun x hx=>h x (by simpa [Op.operands]using hx))]at ho;exact ho
 ·exact ho.elim
end congr
def JJ(f:Nat→Option AV):Operand→Option AV
 |.tmp t=>f t
 |.const c=>some (Z6 c)
 |.global g=>some (XP g)
 |.func f=>some (.v (.func (.func f) #[] #[]))
theorem Oe(σ:St):E9 σ=JJ (look σ.sl):=by funext x;cases x<;>rfl
open Classical in
noncomputable def rs(op:Op)(ev:Operand→Option AV):Operand→Option AV:=fun x=>if x∈op.operands.toList then ev x else none
def Ci(f:Nat→Option AV)(d:Nat)(a:AV):Nat→Option AV:=fun s=>if d=s then some a else f s
section quiet
variable {P:Program} {E:Env} {n nx:Nat} {hp:Hp} {ev:Operand→Option AV} {ops:Array Oper} {σ:St} {K:(Nat→Option AV)→Prop} {f f':Nat→Option AV}
theorem dE{op:Op}{ty:Nat}{av:AV}{ev ev':Operand→Option AV}(h:∀x a,ev x=some a→ev' x=some a)(hq:F7 P E nx hp ev op ty av):F7 P E nx hp ev' op ty av :=
 fun d pos after θ a w K hs hk=>hq d pos after θ a w K ⟨hs.fr,hs.owns,hs.X,fun hx=>hs.rel (h _ _ hx),hs.apart,hs.fresh,hs.tab⟩ hk
theorem aE{op:Op}{ty:Nat}{F:AV→Prop}(h:Fp P op ev hp F):∃av,F7 P E nx hp (rs op ev) op ty av∧F av :=
 fq (aD (fun x hx=>by simp[rs,hx]) h)
def QS(P:Program)(E:Env)(nx:Nat)(hp:Hp)(ops:Array Oper)(o:Oper)(f:Nat→Option AV)(av:AV):Prop :=
 match o.guard with
 |none=>F7 P E nx hp (rs o.op (JJ f)) o.op o.type av
 |some (j,g)=>∃dj,(ops[j]?).bind (·.dst)=some dj∧((f dj=some (.v (.bool g))∧F7 P E nx hp (rs o.op (JJ f)) o.op o.type av)∨(f dj=some (.v (.bool (!g)))∧av=.v undef)∨∃t,f dj=some (.v (.tuple t))∧av=.v undef)
theorem dF{op:Op}(h:∀x∈op.operands.toList,JJ f x=JJ f' x):rs op (JJ f)=rs op (JJ f'):=by
 funext x
 unfold rs
 split
 ·rename_i hx;exact h x hx
 ·rfl
theorem QS.congr{o:Oper}{av:AV}(h:∀d∈o.looksAt ops,f d=f' d)(hq:QS P E nx hp ops o f av):QS P E nx hp ops o f' av:=by
 have hr:rs o.op (JJ f)=rs o.op (JJ f'):=dF fun x hx=>by
  cases x with
  |tmp t=>exact h t (List.mem_append_left _ (List.mem_filterMap.2 ⟨.tmp t,hx,rfl⟩))
  |_=>rfl
 unfold QS at hq ⊢
 split at hq
 ·rw[←hr];exact hq
 ·rename_i j g hg
  obtain⟨dj,hj,hq⟩:=hq
  have hd:f dj=f' dj:=h dj (by simp[Oper.looksAt,hg,hj])
  refine⟨dj,hj,?_⟩
  rw[←hr,←hd]
  exact hq
def QW(P:Program)(E:Env)(n nx:Nat)(hp:Hp)(ops:Array Oper):List Oper→(Nat→Option AV)→((Nat→Option AV)→Prop)→Prop
 |[],f,K=>K f
 |o::r,f,K=>∃d av,o.dst=some d∧d<n∧QS P E nx hp ops o f av∧QW P E n nx hp ops r (Ci f d av) K
theorem aF{d e:Nat}{a b:AV}(h:d≠e):Ci (Ci f d a) e b=Ci (Ci f e b) d a:=by
 funext s
 unfold Ci
 by_cases h1:e=s
 ·subst h1;simp[h]
 ·simp[h1]
theorem QW.swap{x y:Oper}{r:List Oper}(qU:x.apart ops y=true)(h:QW P E n nx hp ops (x::y::r) f K):QW P E n nx hp ops (y::x::r) f K:=by
 obtain⟨dx,ax,za,nz,hqx,dy,ay,zt,hny,hqy,hr⟩:=h
 obtain⟨h1,h2,h3⟩:=Oper.apart_spec qU
 have hne:dx≠dy:=fun e=>h2 dx za (e▸zt)
 have hy:QS P E nx hp ops y f ay:=hqy.congr fun s hs=>by
  have:dx≠s:=fun e=>h1 dx za (e▸hs)
  simp[Ci,this]
 have hx:QS P E nx hp ops x (Ci f dy ay) ax:=hqx.congr fun s hs=>by
  have:dy≠s:=fun e=>h3 dy zt (e▸hs)
  simp[Ci,this]
 exact⟨dy,ay,zt,hny,hy,dx,ax,za,nz,hx,by rw[←aF hne];exact hr⟩
theorem QW.first{o:Oper}:∀{pre post:List Oper} {f:Nat→Option AV},(∀p∈pre,p.apart ops o=true)→QW P E n nx hp ops (pre++o::post) f K→QW P E n nx hp ops (o::(pre++post)) f K
 |[],post,f,_,h=>h
 |p::pre,post,f,qU,h=>by
  obtain⟨d,av,hd,hn,hq,hr⟩:=h
  have:=QW.first (pre:=pre) (fun q hq=>qU q (by simp[hq])) hr
  exact QW.swap (qU p (by simp)) ⟨d,av,hd,hn,hq,this⟩
def fv(ops:Array Oper)(i j:Nat):Bool :=
 match ops[i]?,ops[j]? with
 |some oi,some oj=>oi.after.any (fun e=>Region.binds .any e && Nat.beq e.on j) || oj.apart ops oi
 |_,_=>true
def fw(ops:Array Oper)(i:Nat):Bool :=
 match ops[i]? with
 |some o=>o.after.all fun e=>!Region.binds .any e || Nat.blt e.on i
 |none=>true
def Ed(ops:Array Oper):Bool:=(List.range ops.size).all fun i=>fw ops i && (List.range i).all fun j=>fv ops i j
theorem Xl(h:Ed ops=true){i j:Nat}{oi oj:Oper}(sT:j<i)(hi:ops[i]?=some oi)(hj:ops[j]?=some oj):(∃e∈oi.after,Region.binds .any e=true∧e.on=j)∨oj.apart ops oi=true:=by
 have nR:i<ops.size:=(Array.getElem?_eq_some_iff.1 hi).1
 unfold Ed at h
 rw[List.all_eq_true]at h
 have h1:=h i (List.mem_range.2 nR)
 rw[Bool.and_eq_true,List.all_eq_true]at h1
 have h2:=h1.2 j (List.mem_range.2 sT)
 unfold fv at h2
 rw[hi,hj]at h2
 simp only[Bool.or_eq_true]at h2
 rcases h2 with h2|h2
 ·left
  obtain⟨k,hk,h3⟩:=Array.any_eq_true.1 h2
  simp only[Bool.and_eq_true]at h3
  exact⟨oi.after[k],Array.getElem_mem hk,h3.1,Nat.eq_of_beq_eq_true h3.2⟩
 ·exact .inr h2
theorem Xm(h:Ed ops=true){i:Nat}{oi:Oper}(hi:ops[i]?=some oi):∀e∈oi.after,Region.binds .any e=true→e.on<i:=by
 have nR:i<ops.size:=(Array.getElem?_eq_some_iff.1 hi).1
 unfold Ed at h
 rw[List.all_eq_true]at h
 have h1:=h i (List.mem_range.2 nR)
 rw[Bool.and_eq_true]at h1
 have h2:=h1.1
 unfold fw at h2
 rw[hi]at h2
 intro e he hb
 simp only[Array.all_eq_true_iff_forall_mem,Bool.or_eq_true]at h2
 have:=h2 e he
 rw[hb]at this
 simpa [Nat.blt_eq]using this
def left(ops:Array Oper)(listed:Array Bool):List Nat:=(List.range ops.size).filter fun i=>!listed.getD i true
def Xn(E:Env)(n nx:Nat)(hp:Hp)(f:Nat→Option AV)(a:Act)(w:World):Prop:=∃σ:St,(∀s,look σ.sl s=f s)∧σ.nx=nx∧σ.hp=hp∧e7 E n σ a w
theorem mB{o:Oper}{d:Nat}{av:AV}{a:Act}{w:World}{Q:Exit→Act→World→Prop}{C:Act→World→Prop}{i:Nat}(hi:ops[i]?=some o)(hd:o.dst=some d)(hn:d<n)(hq:QS P E nx hp ops o f av)(hs:Xn E n nx hp f a w)
  (hk:∀a' w',Xn E n nx hp (Ci f d av) a' w'→C a' w'):wpOp P ops Q i C a w:=by
 obtain⟨σ,hl,rfl,rfl,θ,hs⟩:=hs
 have pf:JJ f=E9 σ:=by rw[Oe];congr 1;funext s;exact(hl s).symm
 have step:∀{v:Value} {w':World},Below w.heap.size w w'→D7 (cx E θ σ w') av v→C (a.put (some d) v) w':=fun hb hr =>
  hk _ _ ⟨σ.put d av,fun s=>by simp only[St.put,E4,Ci,hl],rfl,rfl,θ,(hs.below hb).put hn hr⟩
 unfold wpOp
 simp only[hi]
 have uk:∀{t:Nat} {b:Bool},f t=some (.v (.bool b))→a.tmps[t]?=some (.bool b):=by
  intro t b hb
  have h1:=(hs.slots t _ (by rw[hl];exact hb)).val
  rw[Array.getD_eq_getD_getElem?]at h1
  cases hg:a.tmps[t]? with
  |none=>rw[hg]at h1;exact absurd h1 (by simp[undef])
  |some v=>rw[hg]at h1;simp at h1;rw[h1]
 have run:F7 P E σ.nx σ.hp (rs o.op (JJ f)) o.op o.type av→o.wp P a w C Q:=by
  intro hq
  have zB:F7 P E σ.nx σ.hp (E9 σ) o.op o.type av:=dE (fun x b hx=>by
   unfold rs at hx
   split at hx
   ·rw[←pf];exact hx
   ·cases hx) hq
  have hv:=zB o.dst o.pos o.after θ a w (fun v w'=>Below w.heap.size w w'∧D7 (cx E θ σ w') av v) hs.evT fun v w' hb hr=>⟨hb,hr⟩
  have yO:IY P o a w (fun v w'=>Below w.heap.size w w'∧D7 (cx E θ σ w') av v):=by
   have e:IY P o a w=IY P ⟨o.dst,o.op,o.type,o.pos,o.after,none⟩ a w:=by
    funext K
    unfold IY
    have:execOp a.eval o=execOp a.eval ⟨o.dst,o.op,o.type,o.pos,o.after,none⟩:=by
     obtain⟨_,op,_,_,_,_⟩:=o
     cases op<;>rfl
    rw[this]
   rw[e]
   exact hv
  exact Rl yO fun v w' hv=>by rw[hd];exact step hv.1 hv.2
 unfold QS at hq
 split at hq
 ·rename_i hg
  rw[if_pos (by simp[Region.wanted,hg])]
  exact .inl (run hq)
 ·rename_i j g hg
  obtain⟨dj,hj,hq⟩:=hq
  rcases hq with ⟨hb,hq⟩|⟨hb,rfl⟩|⟨t,hb,rfl⟩
  ·have:yielded ops a.tmps j=some g:=by simp[yielded,hj,uk hb]
   rw[if_pos (by simp[Region.wanted,hg,this])]
   exact .inl (run hq)
  ·have:yielded ops a.tmps j=some (!g):=by simp[yielded,hj,uk hb]
   rw[if_neg (by simp[Region.wanted,hg,this])]
   rw[hd]
   exact step (Below.refl _ _) (.im (.v _))
  ·have:yielded ops a.tmps j=none:=by
    have h1:=(hs.slots dj _ (by rw[hl];exact hb)).val
    rw[Array.getD_eq_getD_getElem?]at h1
    unfold yielded
    rw[hj]
    simp only[Option.bind_some]
    cases hg:a.tmps[dj]? with
    |none=>rfl
    |some v=>rw[hg]at h1;simp at h1;rw[h1]
   rw[if_neg (by simp[Region.wanted,hg,this])]
   rw[hd]
   exact step (Below.refl _ _) (.im (.v _))
theorem DP(p:Nat→Bool)(m:Nat){pre post:List Nat}{i:Nat}(h:(List.range m).filter p=pre++i::post):(∀j∈pre,j<i)∧i∉pre∧i∉post:=by
 have hs:((List.range m).filter p).Pairwise (·<·):=List.Pairwise.filter _ (List.pairwise_lt_range)
 rw[h,List.pairwise_append]at hs
 obtain⟨_,h2,h3⟩:=hs
 rw[List.pairwise_cons]at h2
 have h4:∀j∈pre,j<i:=fun j hj=>h3 j hj i (by simp)
 exact⟨h4,fun hc=>Nat.lt_irrefl _ (h4 i hc),fun hc=>Nat.lt_irrefl _ (h2.1 i hc)⟩
theorem SR{listed:Array Bool}{i:Nat}{pre post:List Nat}(h:left ops listed=pre++i::post):left ops (listed.setIfInBounds i true)=pre++post:=by
 obtain⟨_,h2,h3⟩:=DP _ _ h
 have e:left ops (listed.setIfInBounds i true)=(left ops listed).filter (fun j=>decide (j≠i)):=by
  unfold left
  rw[List.filter_filter]
  congr 1
  funext j
  by_cases hj:j=i
  ·subst hj
   by_cases nR:j<listed.size
   ·simp[Array.getD,nR]
   ·simp[Array.getD,nR]
  ·have:(listed.setIfInBounds i true).getD j true=listed.getD j true:=by
    rw[Array.getD_eq_getD_getElem?,Array.getD_eq_getD_getElem?,Array.getElem?_setIfInBounds_ne (Ne.symm hj)]
   rw[this]
   simp[hj]
 rw[e,h,List.filter_append,List.filter_cons_of_neg (by simp)]
 congr 1
 ·exact List.filter_eq_self.2 fun j hj=>by simp;exact fun e=>h2 (e▸hj)
 ·exact List.filter_eq_self.2 fun j hj=>by simp;exact fun e=>h3 (e▸hj)
def opsOf(ops:Array Oper)(l:List Nat):List Oper:=l.filterMap fun i=>ops[i]?
theorem NK{listed:Array Bool}{j:Nat}(hj:j∈Region.ready .any ops listed):j∈left ops listed:=by
 obtain⟨h1,o,ho,_⟩:=mem_ready.1 hj
 exact List.mem_filter.2 ⟨List.mem_range.2 (Array.getElem?_eq_some_iff.1 ho).1,by rw[h1];rfl⟩
theorem JK(l m:List Nat):opsOf ops (l++m)=opsOf ops l++opsOf ops m:=List.filterMap_append ..
theorem Xo{i:Nat}{o:Oper}(h:ops[i]?=some o)(m:List Nat):opsOf ops (i::m)=o::opsOf ops m:=by simp[opsOf,h]
theorem dG(vu:Ed ops=true){listed:Array Bool}(hsz:listed.size=ops.size){i:Nat}{r:List Nat}(h:left ops listed=i::r):i∈Region.ready .any ops listed:=by
 have hi:i∈left ops listed:=by rw[h];simp
 obtain⟨h1,h2⟩:=List.mem_filter.1 hi
 have nR:=List.mem_range.1 h1
 refine mem_ready.2 ⟨by simpa using h2,ops[i],Array.getElem?_eq_getElem nR,fun e he hb=>?_⟩
 have rM:=Xm vu (Array.getElem?_eq_getElem nR) e he hb
 cases hx:listed.getD e.on false with
 |true=>rfl
 |false =>
  exfalso
  have pQ:e.on<listed.size:=by omega
  have qb:listed.getD e.on true=false:=by
   simp[Array.getD,pQ]at hx ⊢;exact hx
  have hm:e.on∈left ops listed:=List.mem_filter.2 ⟨List.mem_range.2 (by omega),by rw[qb];rfl⟩
  have hs:(left ops listed).Pairwise (·<·):=List.Pairwise.filter _ (List.pairwise_lt_range)
  rw[h]at hm hs
  rcases List.mem_cons.1 hm with h3|h3
  ·omega
  ·have:=(List.pairwise_cons.1 hs).1 _ h3
   omega
theorem kD(vu:Ed ops=true){Q:Exit→Act→World→Prop}(hK:∀f' a' w',K f'→Xn E n nx hp f' a' w'→Q .normal a' w'):∀(nS:Nat) (listed:Array Bool) (f:Nat→Option AV) (a:Act) (w:World),listed.size=ops.size →
  (left ops listed).length≤nS→QW P E n nx hp ops (opsOf ops (left ops listed)) f K→Xn E n nx hp f a w→wpAny P .any ops Q nS listed a w:=by
 intro nS
 induction nS with
 |zero =>
  intro listed f a w hsz nO hq hs
  have pj:left ops listed=[]:=List.eq_nil_of_length_eq_zero (by omega)
  rw[pj]at hq
  refine⟨?_,hK f a w hq hs⟩
  cases hr:Region.ready .any ops listed with
  |nil=>rfl
  |cons j r=>have:=NK (ops:=ops) (listed:=listed) (j:=j) (by rw[hr];simp);rw[pj]at this;cases this
 |succ nS ih =>
  intro listed f a w hsz nO hq hs
  refine⟨fun hr=>?_,fun i hi=>?_⟩
  ·cases hl:left ops listed with
   |nil=>rw[hl]at hq;exact hK f a w hq hs
   |cons i r=>have:=dG vu hsz hl;rw[hr]at this;cases this
  ·obtain⟨pre,post,pp⟩:=List.append_of_mem (NK hi)
   obtain⟨yL,oi,hoi,zp⟩:=mem_ready.1 hi
   have zM:=(DP _ _ pp).1
   rw[pp,JK,Xo hoi]at hq
   have zB:=QW.first (fun p hp=>by
    obtain⟨j,hj,yf⟩:=List.mem_filterMap.1 hp
    rcases Xl vu (zM j hj) hoi yf with ⟨e,he,hb,rfl⟩|h
    ·exfalso
     have h1:=zp e he hb
     have h2:e.on∈left ops listed:=by rw[pp];simp[hj]
     have h3:=(List.mem_filter.1 h2).2
     have h4:listed.getD e.on true=false:=by simpa using h3
     by_cases nR:e.on<listed.size
     ·simp[Array.getD,nR]at h1 h4;rw[h1]at h4;cases h4
     ·simp[Array.getD,nR]at h1
    ·exact h) hq
   obtain⟨d,av,hd,hn,hqs,hr⟩:=zB
   refine mB hoi hd hn hqs hs fun a' w' oP=>ih _ _ a' w' (by simpa using hsz) ?_ ?_ oP
   ·rw[SR pp]
    rw[pp]at nO
    simp at nO ⊢
    omega
   ·rw[SR pp,JK]
    exact hr
def DQ(P:Program)(E:Env)(n:Nat)(ops:Array Oper)(l:List Oper)(σ:St)(K:St→Prop):Prop :=
 QW P E n σ.nx σ.hp ops l (look σ.sl) fun f=>∃τ:St,(∀s,look τ.sl s=f s)∧τ.nx=σ.nx∧τ.hp=σ.hp∧K τ
theorem dH(σ:St)(d:Nat)(a:AV):look (σ.put d a).sl=Ci (look σ.sl) d a:=by
 funext s;simp only[St.put,E4,Ci]
theorem NM{l:List Oper}{d:Nat}{av:AV}{K:St→Prop}:DQ P E n ops l (σ.put d av) K→QW P E n σ.nx σ.hp ops l (Ci (look σ.sl) d av) fun f=>∃τ:St,(∀s,look τ.sl s=f s)∧τ.nx=σ.nx∧τ.hp=σ.hp∧K τ:=by
 intro h
 unfold DQ at h
 rw[dH]at h
 exact h
theorem SS{d:Nat}{a:AV}(h:look σ.sl d=some a):look (σ.put d a).sl=look σ.sl:=by
 funext s
 simp only[St.put,E4]
 by_cases e:d=s
 ·subst e;rw[if_pos rfl,h]
 ·rw[if_neg e]
def dI(P:Program)(E:Env)(n:Nat)(ops:Array Oper)(l:List Oper)(σ:St)(K:St→Prop):Prop :=
 match l with
 |[]=>K σ
 |⟨some d,op,_,_,_,none⟩::rest=>cond (Nat.blt d n) (Fp P op (E9 σ) σ.hp fun av=>DQ P E n ops rest (σ.put d av) K) False
 |⟨some d,op,_,_,_,some (j,g)⟩::rest=>match (ops[j]?).bind (·.dst)with
  |some dj=>cond (Nat.blt d n) (match look σ.sl dj with
   |some (.v (.bool b))=>O0 b g (Fp P op (E9 (σ.put dj (.v (.bool g)))) σ.hp fun av=>DQ P E n ops rest ((σ.put dj (.v (.bool g))).put d av) K)
     (DQ P E n ops rest ((σ.put dj (.v (.bool !g))).put d (.v undef)) K)
   |some (.v (.tuple t))=>DQ P E n ops rest (σ.put d (.v undef)) K
   |_=>False) False
  |none=>False
 |_=>False
theorem mC{l:List Oper}{K:St→Prop}(h:dI P E n ops l σ K):DQ P E n ops l σ K:=by
 unfold dI at h
 split at h
 ·exact⟨σ,fun _=>rfl,rfl,rfl,h⟩
 ·rename_i d op ty pos after rest
  obtain⟨hd,h⟩:=cond_false h
  obtain⟨av,hq,h⟩:=aE (E:=E) (nx:=σ.nx) (ty:=ty) h
  exact⟨d,av,rfl,Nat.blt_eq▸hd,by unfold QS;rw[←Oe];exact hq,NM h⟩
 ·rename_i d op ty pos after j g rest
  split at h
  ·rename_i dj hj
   obtain⟨hd,h⟩:=cond_false h
   split at h
   ·rename_i b hb
    cases tg:(b == g)with
    |true =>
     have tg:b=g:=by simpa using tg
     subst tg
     have h1:=h.t rfl
     obtain⟨av,hq,h2⟩:=aE (E:=E) (nx:=σ.nx) (ty:=ty) h1
     have e:look (σ.put dj (.v (.bool b))).sl=look σ.sl:=SS hb
     rw[Oe,e]at hq
     refine⟨d,av,rfl,Nat.blt_eq▸hd,⟨dj,hj,.inl ⟨hb,hq⟩⟩,?_⟩
     have h3:=NM h2
     rw[e]at h3
     exact h3
    |false =>
     have tg:b=!g:=by cases b<;>cases g<;>simp_all
     have h1:=h.f tg
     have e:look (σ.put dj (.v (.bool !g))).sl=look σ.sl:=SS (tg▸hb)
     refine⟨d,_,rfl,Nat.blt_eq▸hd,⟨dj,hj,.inr (.inl ⟨tg▸hb,rfl⟩)⟩,?_⟩
     have h3:=NM h1
     rw[e]at h3
     exact h3
   ·rename_i t hb
    exact⟨d,_,rfl,Nat.blt_eq▸hd,⟨dj,hj,.inr (.inr ⟨t,hb,rfl⟩)⟩,NM h⟩
   ·exact h.elim
  ·exact h.elim
 ·exact h.elim
theorem B8{id:Nat}{Q:Exit→St→Prop}[hm:JH P](vu:Ed ops=true)(h:DQ P E n ops ops.toList σ fun σ'=>Q .normal σ'):Ch P E n id ops σ Q:=by
 refine⟨fun a w ⟨θ,hs⟩=>wp_region_any hm.out ?_⟩
 have hb:Below w.heap.size w { w with drawn:=w.drawn+1 }:=Below.drew (Below.refl _ _)
 refine kD vu (K:=fun f=>∃τ:St,(∀s,look τ.sl s=f s)∧τ.nx=σ.nx∧τ.hp=σ.hp∧Q .normal τ) (fun f' a' w' hk oP=>?_) ops.size _ (look σ.sl) a _ (by simp) ?_ ?_ ⟨σ,fun _=>rfl,rfl,rfl,θ,hs.below hb⟩
 ·obtain⟨τ,h1,h2,h3,h4⟩:=hk
  obtain⟨σ2,g1,g2,g3,θ2,nj⟩:=oP
  refine⟨τ,h4,θ2,?_⟩
  have e1:σ2.nx=τ.nx:=by rw[g2,h2]
  have e2:σ2.hp=τ.hp:=by rw[g3,h3]
  have e3:∀s,look τ.sl s=look σ2.sl s:=fun s=>by rw[h1,g1]
  have ec:cx E θ2 σ2 w'=cx E θ2 τ w':=by unfold cx;rw[e1,e2]
  exact⟨nj.size,nj.defers,nj.fr,fun s x hx=>by rw[←ec];exact nj.slots s x (by rw[←e3];exact hx),fun i b hi=>by rw[←ec,←e1];exact nj.owns i b (by rw[e2];exact hi),fun i j b b' k hi hj=>nj.apart i j b b' k (by rw[e2];exact hi) (by rw[e2];exact hj),fun i b k hi=>nj.mine i b k (by rw[e2];exact hi),nj.X,by rw[←e1,←e2];exact nj.base⟩
 ·unfold left
  exact Nat.le_trans (List.length_filter_le _ _) (by simp)
 ·have e:left ops (Array.replicate ops.size false)=List.range ops.size:=by
   unfold left
   refine List.filter_eq_self.2 fun i hi=>?_
   have:=List.mem_range.1 hi
   simp[Array.getD,this]
  rw[e]
  have e2:opsOf ops (List.range ops.size)=ops.toList:=by
   unfold opsOf
   apply List.ext_getElem?
   intro i
   have:∀(m:Nat),m≤ops.size→(List.range m).filterMap (fun i=>ops[i]?)=ops.toList.take m:=by
    intro m
    induction m with
    |zero=>intro _;simp
    |succ m ih =>
     intro hm
     rw[List.range_succ,List.filterMap_append,ih (by omega),List.take_add_one]
     congr 1
     have nR:m<ops.size:=by omega
     simp[nR]
   rw[this ops.size (Nat.le_refl _)]
   congr 1
   exact List.take_of_length_le (by simp)
  rw[e2]
  exact h
end quiet
def NN{α:Type}:List α→(List α→Prop)→Prop
 |[],F=>F []
 |a::r,F=>NN r fun s=>F (a::s)
theorem NO{α:Type}:∀{l:List α} {F:List α→Prop},NN l F→F l
 |[],F,h=>h
 |a::r,F,h=>NO (l:=r) (F:=fun s=>F (a::s)) h
mutual
def S3:AV→(AV→Prop)→Prop
 |.agg l,F=>BV l fun l2=>F (.agg l2)
 |.tup l,F=>BV l fun l2=>F (.tup l2)
 |.fo f l,F=>BV l fun l2=>F (.fo f l2)
 |.ref i o,F=>G5 i fun i2=>G5 o fun o2=>F (.ref i2 o2)
 |.row i v m,F=>G5 i fun i2=>G5 v fun v2=>F (.row i2 v2 m)
 |.elt i v k o,F=>G5 i fun i2=>G5 v fun v2=>F (.elt i2 v2 k o)
 |.sub i v k o,F=>G5 i fun i2=>G5 v fun v2=>F (.sub i2 v2 k o)
 |.mp i,F=>G5 i fun i2=>F (.mp i2)
 |.any,F=>F .any
 |.v x,F=>F (.v x)
 |.str l,F=>F (.str l)
 |.iptr l,F=>F (.iptr l)
 |.sl sz l,F=>F (.sl sz l)
 |.fn f l,F=>F (.fn f l)
 |.err,F=>F .err
 |.own e sz l,F=>F (.own e sz l)
def BV:List AV→(List AV→Prop)→Prop
 |[],F=>F []
 |x::r,F=>S3 x fun x2=>BV r fun r2=>F (x2::r2)
end
mutual
theorem Ee:∀{a:AV} {F:AV→Prop},S3 a F→F a
 |.agg l,F,h=>BX (l:=l) (F:=fun l2=>F (.agg l2)) (by simpa only[S3]using h)
 |.tup l,F,h=>BX (l:=l) (F:=fun l2=>F (.tup l2)) (by simpa only[S3]using h)
 |.fo f l,F,h=>BX (l:=l) (F:=fun l2=>F (.fo f l2)) (by simpa only[S3]using h)
 |.ref i o,F,h=>by simp only[S3]at h;exact D8 (D8 h)
 |.row i v m,F,h=>by simp only[S3]at h;exact D8 (D8 h)
 |.elt i v k o,F,h=>by simp only[S3]at h;exact D8 (D8 h)
 |.sub i v k o,F,h=>by simp only[S3]at h;exact D8 (D8 h)
 |.mp i,F,h=>by simp only[S3]at h;exact D8 h
 |.any,F,h=>by simpa only[S3]using h
 |.v x,F,h=>by simpa only[S3]using h
 |.str l,F,h=>by simpa only[S3]using h
 |.iptr l,F,h=>by simpa only[S3]using h
 |.sl sz l,F,h=>by simpa only[S3]using h
 |.fn f l,F,h=>by simpa only[S3]using h
 |.err,F,h=>by simpa only[S3]using h
 |.own e sz l,F,h=>by simpa only[S3]using h
theorem BX:∀{l:List AV} {F:List AV→Prop},BV l F→F l
 |[],F,h=>by simpa only[BV]using h
 |x::r,F,h=>by
  simp only[BV]at h
  exact BX (l:=r) (F:=fun r2=>F (x::r2)) (Ee (a:=x) (F:=fun x2=>BV r fun r2=>F (x2::r2)) h)
end
def Bi:List (Nat×AV)→(List (Nat×AV)→Prop)→Prop
 |[],F=>F []
 |(k,x)::r,F=>S3 x fun x2=>Bi r fun s=>F ((k,x2)::s)
theorem Y0:∀{l:List (Nat×AV)} {F:List (Nat×AV)→Prop},Bi l F→F l
 |[],F,h=>h
 |(k,x)::r,F,h=>Y0 (l:=r) (F:=fun s=>F ((k,x)::s)) (Ee (a:=x) (F:=fun x2=>Bi r fun s=>F ((k,x2)::s)) h)
def KM:List Bool→(List Bool→Prop)→Prop
 |[],F=>F []
 |true::r,F=>KM r fun s=>F (true::s)
 |false::r,F=>KM r fun s=>F (false::s)
theorem Ef:∀{l:List Bool} {F:List Bool→Prop},KM l F→F l
 |[],F,h=>h
 |true::r,F,h=>Ef (l:=r) (F:=fun s=>F (true::s)) h
 |false::r,F,h=>Ef (l:=r) (F:=fun s=>F (false::s)) h
def S4:Hp→(Hp→Prop)→Prop
 |[],F=>F []
 |(k,some (.bx τ l))::r,F=>G5 k fun k=>BV l fun l2=>S4 r fun s=>F ((k,some (.bx τ l2))::s)
 |(k,some (.row e sz v l))::r,F=>G5 k fun k=>G5 v fun v2=>S4 r fun s=>F ((k,some (.row e sz v2 l))::s)
 |(k,some (.map m))::r,F=>G5 k fun k=>S4 r fun s=>F ((k,some (.map m))::s)
 |(k,some (.it t p))::r,F=>G5 k fun k=>S4 r fun s=>F ((k,some (.it t p))::s)
 |(k,none)::r,F=>G5 k fun k=>S4 r fun s=>F ((k,none)::s)
theorem Q9:∀{l:Hp} {F:Hp→Prop},S4 l F→F l
 |[],F,h=>h
 |(k,some (.bx τ l))::r,F,h=>Q9 (l:=r) (F:=fun s=>F ((k,some (.bx τ l))::s)) (BX (l:=l) (F:=fun l2=>S4 r fun s=>F ((k,some (.bx τ l2))::s)) (D8 (F:=fun k=>BV l fun l2=>S4 r fun s=>F ((k,some (.bx τ l2))::s)) h))
 |(k,some (.row e sz v l))::r,F,h=>Q9 (l:=r) (F:=fun s=>F ((k,some (.row e sz v l))::s)) (D8 (F:=fun v2=>S4 r fun s=>F ((k,some (.row e sz v2 l))::s)) (D8 (F:=fun k=>G5 v fun v2=>S4 r fun s=>F ((k,some (.row e sz v2 l))::s)) h))
 |(k,some (.map m))::r,F,h=>Q9 (l:=r) (F:=fun s=>F ((k,some (.map m))::s)) (D8 (F:=fun k=>S4 r fun s=>F ((k,some (.map m))::s)) h)
 |(k,some (.it t p))::r,F,h=>Q9 (l:=r) (F:=fun s=>F ((k,some (.it t p))::s)) (D8 (F:=fun k=>S4 r fun s=>F ((k,some (.it t p))::s)) h)
 |(k,none)::r,F,h=>Q9 (l:=r) (F:=fun s=>F ((k,none)::s)) (D8 (F:=fun k=>S4 r fun s=>F ((k,none)::s)) h)
mutual
def M9(ρ s:Nat→Nat):AV→AV
 |.ref i off=>.ref (ρ i) off
 |.row i v len=>.row (ρ i) (v+s i) len
 |.elt i v k off=>.elt (ρ i) (v+s i) k off
 |.sub i v k off=>.sub (ρ i) (v+s i) k off
 |.mp i=>.mp (ρ i)
 |.agg l=>.agg (Ak ρ s l)
 |.tup l=>.tup (Ak ρ s l)
 |.fo f l=>.fo f (Ak ρ s l)
 |x=>x
def Ak(ρ s:Nat→Nat):List AV→List AV
 |[]=>[]
 |x::r=>M9 ρ s x::Ak ρ s r
end
theorem P2(ρ s:Nat→Nat):∀l,Ak ρ s l=l.map (M9 ρ s)
 |[]=>by simp[Ak]
 |x::r=>by simp[Ak,P2 ρ s r]
def j4(ρ s:Nat→Nat)(i:Nat):C9→C9
 |.bx τ l=>.bx τ (Ak ρ s l)
 |.row e sz v l=>.row e sz (v+s i) l
 |.map m=>.map m
 |.it t p=>.it t p
structure Ren(c c':Cx)(ρ s:Nat→Nat):Prop where
 nx:∀i,i<c.nx→ρ i<c'.nx
 θ:∀i,i<c.nx→c'.θ (ρ i)=c.θ i
 N:∀i,i<c.nx→c'.θ.N (ρ i)=c.θ.N i
 w:c'.w=c.w
 U:∀k,c'.U k→c.U k
 rows:∀i,i<c.nx→∀e sz v' l,A5 c'.hp (ρ i)=some (.row e sz v' l)→∃v,A5 c.hp i=some (.row e sz v l)∧v'=v+s i
theorem Ren.im{c c':Cx}{ρ s:Nat→Nat}(h:Ren c c' ρ s){a:AV}{x:Value}(hi:Im c.U c.w a x):Im c'.U c'.w a x:=hi.mono (fun k _ _=>by rw[h.w]) fun k _ hu=>h.U k hu
theorem kE{c c':Cx}{ρ s:Nat→Nat}(h:Ren c c' ρ s){a:AV}{x:Value}(hi:Im c.U c.w a x):M9 ρ s a=a∨D7 c' (M9 ρ s a) x:=by
 induction hi with
 |v x=>exact .inl rfl
 |str l=>exact .inl rfl
 |fn f l cs hl hc ih=>exact .inl rfl
 |iptr l a f hu hc hh ih=>exact .inl rfl
 |err t p=>exact .inl rfl
 |any x=>exact .inl rfl
 |own e sz l x=>exact .inl rfl
 |slnil sz=>exact .inl rfl
 |sl sz l a cap f oN hm hu hsz hc hh ih=>exact .inl rfl
 |agg l cs hl hc ih =>
  refine .inr ?_
  simp only[M9,P2]
  refine .agg _ cs (by simp[hl]) fun j u z hu hz=>?_
  simp only[List.getElem?_map,Option.map_eq_some_iff]at hu
  obtain⟨u0,pP,rfl⟩:=hu
  rcases ih j u0 z pP hz with e|e
  ·rw[e];exact .im (h.im (hc j u0 z pP hz))
  ·exact e
 |tup l cs hl hc ih =>
  refine .inr ?_
  simp only[M9,P2]
  refine .tup _ cs (by simp[hl]) fun j u z hu hz=>?_
  simp only[List.getElem?_map,Option.map_eq_some_iff]at hu
  obtain⟨u0,pP,rfl⟩:=hu
  rcases ih j u0 z pP hz with e|e
  ·rw[e];exact .im (h.im (hc j u0 z pP hz))
  ·exact e
theorem Of{c c':Cx}{ρ s:Nat→Nat}(h:Ren c c' ρ s){a:AV}{x:Value}(r:D7 c a x):D7 c' (M9 ρ s a) x:=by
 induction r with
 |any x=>exact .any x
 |im hi =>
  rcases kE h hi with e|e
  ·rw[e];exact .im (h.im hi)
  ·exact e
 |agg l cs hl _ ih =>
  simp only[M9,P2]
  refine .agg _ cs (by simp[hl]) fun j u z hu hz=>?_
  simp only[List.getElem?_map,Option.map_eq_some_iff]at hu
  obtain⟨u0,pP,rfl⟩:=hu
  exact ih j u0 z pP hz
 |tup l cs hl _ ih =>
  simp only[M9,P2]
  refine .tup _ cs (by simp[hl]) fun j u z hu hz=>?_
  simp only[List.getElem?_map,Option.map_eq_some_iff]at hu
  obtain⟨u0,pP,rfl⟩:=hu
  exact ih j u0 z pP hz
 |fo f l cs hl _ ih =>
  simp only[M9,P2]
  refine .fo f _ cs (by simp[hl]) fun j u z hu hz=>?_
  simp only[List.getElem?_map,Option.map_eq_some_iff]at hu
  obtain⟨u0,pP,rfl⟩:=hu
  exact ih j u0 z pP hz
 |ref i off b hi hθ=>exact .ref _ off b (h.nx i hi) (by rw[h.θ i hi];exact hθ)
 |row i ver len x hi hr =>
  refine .row _ _ len x (h.nx i hi) fun e sz v' l hl=>?_
  obtain⟨v,hv,rfl⟩:=h.rows i hi e sz v' l hl
  obtain⟨h1,h2⟩:=hr e sz v l hv
  exact⟨by omega,fun e=>by rw[h.θ i hi];exact h2 (by omega)⟩
 |mp i r hi hθ=>exact .mp _ r (h.nx i hi) (by rw[h.θ i hi];exact hθ)
 |sub i ver lo len x hi hr =>
  refine .sub _ _ lo len x (h.nx i hi) fun e sz v' l hl=>?_
  obtain⟨v,hv,rfl⟩:=h.rows i hi e sz v' l hl
  obtain⟨h1,h2⟩:=hr e sz v l hv
  exact⟨by omega,fun e=>by rw[h.θ i hi];exact h2 (by omega)⟩
 |elt i ver k off x hi hr =>
  refine .elt _ _ k off x (h.nx i hi) fun e sz v' l hl=>?_
  obtain⟨v,hv,rfl⟩:=h.rows i hi e sz v' l hl
  obtain⟨h1,h2⟩:=hr e sz v l hv
  exact⟨by omega,fun e=>by rw[h.θ i hi];exact h2 (by omega)⟩
theorem WJ{c c':Cx}{ρ s:Nat→Nat}(h:Ren c c' ρ s){i:Nat}{b:C9}(hi:i<c.nx)(o:L4 c i b)(uE:∀e sz v l,b=.row e sz v l→FB e=false):L4 c' (ρ i) (j4 ρ s i b):=by
 cases b with
 |bx τ l =>
  obtain⟨b',ny,T,e1,e2,e3,e4⟩:=o
  refine⟨b',ny,T,by rw[h.θ i hi];exact e1,by rw[h.w];exact e2,by rw[P2,List.length_map];exact e3,fun j u z hu hz=>?_⟩
  rw[P2]at hu
  simp only[List.getElem?_map,Option.map_eq_some_iff]at hu
  obtain⟨u0,pP,rfl⟩:=hu
  exact Of h (e4 j u0 z pP hz)
 |row e sz v l =>
  obtain⟨xs,e1,e2,e3,e4⟩:=o
  refine⟨xs,by rw[h.θ i hi,h.w];exact e1,e2,fun k el hk j x hx=>?_,fun hne=>⟨fun k p hk=>by rw[h.w];exact(e4 hne).1 k p (by rw[←h.N i hi];exact hk),fun k el hk j e' nU l' hj=>?_⟩⟩
  ·obtain⟨y,hy,hi⟩:=e3 k el hk j x hx
   exact⟨y,hy,h.im hi⟩
  ·rcases(e4 hne).2 k el hk j e' nU l' hj with ⟨q0,_⟩|⟨g,m,cap,y,ys,q1,q2,q3,q4,q5,q6,q7⟩
   ·rw[uE _ _ _ _ rfl]at q0;cases q0
   exact .inr ⟨g,m,cap,y,ys,by rw[h.θ i hi];exact q1,by rw[h.w];exact q2,by rw[h.w];exact q3,q4,q5,fun q og hq j' x hx=>by
    obtain⟨z,hz,hi⟩:=q6 q og hq j' x hx
    exact⟨z,hz,h.im hi⟩,fun b hb=>by rw[h.N i hi];exact q7 b hb⟩
 |map m =>
  obtain⟨r,es,clock,e1,e2,e3,e4⟩:=o
  exact⟨r,es,clock,by rw[h.θ i hi];exact e1,by rw[h.w];exact e2,e3,fun j q e hj he=>⟨(e4 j q e hj he).1,h.im (e4 j q e hj he).2⟩⟩
 |it t p =>
  obtain⟨r,e1,e2⟩:=o
  exact⟨r,by rw[h.θ i hi];exact e1,by rw[h.w];exact e2⟩
theorem Po{c c':Cx}{ρ s:Nat→Nat}(hθ:∀i,i<c.nx→c'.θ (ρ i)=c.θ i)(hw:c'.w=c.w)(hU:∀k,c.U k→c'.U k)
  (od:∀i,i<c.nx→∀e sz v l,A5 c.hp i=some (.row e sz v l)→A5 c'.hp (ρ i)=some (.row e sz (v+s i) l)):∀{a:AV} {x:Value},U9 c.nx a=true→D7 c' (M9 ρ s a) x→D7 c a x:=by
 have tj:∀{a:AV} {x:Value},Im c'.U c'.w a x→Im c.U c.w a x:=fun hi=>hi.mono (fun k _ _=>by rw[hw]) fun k _ hu=>hU k hu
 intro a
 refine AV.rec (motive_1:=fun a=>∀{x:Value},U9 c.nx a=true→D7 c' (M9 ρ s a) x→D7 c a x)
  (motive_2:=fun l=>S0 c.nx l=true→∀(j:Nat) u x,l[j]?=some u→D7 c' (M9 ρ s u) x→D7 c u x)
  (motive_3:=fun _=>True) ?_ ?_ ?_ ?_ ?_ ?_ ?_ ?_ ?_ ?_ ?_ ?_ ?_ ?_ ?_ ?_ ?_ ?_ ?_ ?_ a
 ·intro x _ _;exact .any x
 ·intro v x _ r;cases r with|im hi=>exact .im (tj hi)
 ·intro l x _ r;cases r with|im hi=>exact .im (tj hi)
 ·intro l ih x nR r
  simp only[U9]at nR
  simp only[M9,P2]at r
  obtain⟨cs,rfl,hl,hr⟩:=Ew r
  refine .agg l cs (by simpa using hl) fun j u z hu hz=>ih nR j u z hu ?_
  exact hr j _ z (by simp[hu]) hz
 ·intro l ih x nR r
  simp only[U9]at nR
  simp only[M9,P2]at r
  have:∃cs:List Value,x=.tuple cs.toArray∧(l.map (M9 ρ s)).length=cs.length∧∀(j:Nat) u z,(l.map (M9 ρ s))[j]?=some u→cs[j]?=some z→D7 c' u z:=by
   generalize l.map (M9 ρ s)=l' at r
   cases r with
   |im hi=>cases hi with|tup l cs hl hc=>exact⟨cs,rfl,hl,fun j u z hu hz=>.im (hc j u z hu hz)⟩
   |tup l cs hl hc=>exact⟨cs,rfl,hl,hc⟩
  obtain⟨cs,rfl,hl,hr⟩:=this
  refine .tup l cs (by simpa using hl) fun j u z hu hz=>ih nR j u z hu ?_
  exact hr j _ z (by simp[hu]) hz
 ·intro i off x nR r
  simp only[U9,Nat.blt_eq]at nR
  simp only[M9]at r
  obtain⟨b,h1,rfl,_⟩:=j8 r
  exact .ref i off b nR (by rw[←hθ i nR];exact h1)
 ·intro l _ x _ r;cases r with|im hi=>exact .im (tj hi)
 ·intro sz l _ x _ r;cases r with|im hi=>exact .im (tj hi)
 ·intro i ver len x nR r
  simp only[U9,Nat.blt_eq]at nR
  simp only[M9]at r
  refine .row i ver len x nR fun e sz v l hl=>?_
  cases r with
  |im hi=>cases hi
  |row _ _ _ _ hi h =>
   obtain⟨h1,h2⟩:=h e sz _ l (od i nR e sz v l hl)
   exact⟨by omega,fun e=>by rw[←hθ i nR];exact h2 (by omega)⟩
 ·intro i x nR r
  simp only[U9,Nat.blt_eq]at nR
  simp only[M9]at r
  cases r with
  |im hi=>cases hi
  |mp _ r hi h=>exact .mp i r nR (by rw[←hθ i nR];exact h)
 ·intro i ver k off x nR r
  simp only[U9,Nat.blt_eq]at nR
  simp only[M9]at r
  refine .elt i ver k off x nR fun e sz v l hl=>?_
  cases r with
  |im hi=>cases hi
  |elt _ _ _ _ _ hi h =>
   obtain⟨h1,h2⟩:=h e sz _ l (od i nR e sz v l hl)
   exact⟨by omega,fun e=>by rw[←hθ i nR];exact h2 (by omega)⟩
 ·intro f l _ x _ r;cases r with|im hi=>exact .im (tj hi)
 ·intro x _ r;cases r with|im hi=>exact .im (tj hi)
 ·intro f l ih x nR r
  simp only[U9]at nR
  simp only[M9,P2]at r
  have:∃cs:List Value,x=Rg f cs.toArray∧(l.map (M9 ρ s)).length=cs.length∧∀(j:Nat) u z,(l.map (M9 ρ s))[j]?=some u→cs[j]?=some z→D7 c' u z:=by
   generalize l.map (M9 ρ s)=l' at r
   cases r with
   |im hi=>cases hi
   |fo f l cs hl hc=>exact⟨cs,rfl,hl,hc⟩
  obtain⟨cs,rfl,hl,hr⟩:=this
  refine .fo f l cs (by simpa using hl) fun j u z hu hz=>ih nR j u z hu ?_
  exact hr j _ z (by simp[hu]) hz
 ·intro e sz l _ x _ _;exact .im (.own e sz l x)
 ·intro i ver lo len x nR r
  simp only[U9,Nat.blt_eq]at nR
  simp only[M9]at r
  refine .sub i ver lo len x nR fun e sz v l hl=>?_
  cases r with
  |im hi=>cases hi
  |sub _ _ _ _ _ hi h =>
   obtain⟨h1,h2⟩:=h e sz _ l (od i nR e sz v l hl)
   exact⟨by omega,fun e=>by rw[←hθ i nR];exact h2 (by omega)⟩
 ·intro _ j u x hu;simp at hu
 ·intro a l iha sJ nR j u x hu r
  simp only[S0,Bool.and_eq_true]at nR
  cases j with
  |zero=>simp at hu;subst hu;exact iha nR.1 r
  |succ j=>exact sJ nR.2 j u x (by simpa using hu) r
 ·trivial
 ·intros;trivial
structure Ie(X:Nat→Prop)(θ:Th)(nx:Nat)(hp:Hp)(w:World):Prop where
 owns:∀i b,A5 hp i=some b→i<nx∧L4 ⟨θ,nx,hp,X,w⟩ i b
 apart:∀i j b b' k,A5 hp i=some b→A5 hp j=some b'→FP θ i b k→FP θ j b' k→i=j
 fresh:∀i b k,A5 hp i=some b→FP θ i b k→¬X k
def owned(θ:Th)(hp:Hp)(k:Nat):Prop:=∃i b,A5 hp i=some b∧FP θ i b k
theorem Ie.nodf{X:Nat→Prop}{θ:Th}{nx:Nat}{hp:Hp}{w:World}(h:Ie X θ nx hp w){k:Nat}(ho:owned θ hp k){d:Option (List Deferred)}:w.heap[k]?≠some (Obj.deferred d):=by
 obtain⟨i,b,hi,hk⟩:=ho
 exact(h.owns i b hi).2.nodf hk
theorem Pp(ρ s:Nat→Nat)(i:Nat)(b:C9):S8 (j4 ρ s i b)=S8 b:=by cases b<;>rfl
theorem FP.ren{θ θ':Th}{ρ s:Nat→Nat}{i k:Nat}{b:C9}(h1:θ' (ρ i)=θ i)(h2:θ'.N (ρ i)=θ.N i):FP θ' (ρ i) (j4 ρ s i b) k↔FP θ i b k:=by
 unfold FP
 rw[Pp,h1,h2]
structure Eg(X:Nat→Prop)(θ:Th)(w:World)(m0:Nat)(hp0:Hp)(m1:Nat)(hp1:Hp)(r:AV)(e:Ending)(w':World):Prop where
 out:∃v θ',e=.returned v∧D7 ⟨θ',m1,hp1,X,w'⟩ r v∧Ie X θ' m1 hp1 w'∧(∀i b k,A5 hp1 i=some b→FP θ' i b k→owned θ hp0 k∨w.heap.size≤k)∧(∀i,i<m0→θ' i=θ i∨(∃x n k,θ i=.slice x n k)∧¬Kept hp1 i)
 os:w'.os=w.os
 tape:w'.tape=w.tape
 output:w'.output=w.output
 size:w.heap.size≤w'.heap.size
 block:∀k,k<w.heap.size→¬owned θ hp0 k→w'.heap[k]?=w.heap[k]?
def B6(P:Program)(f m0:Nat)(hp0:Hp)(args:List AV)(m1:Nat)(hp1:Hp)(r:AV):Prop:=OT P f ∧
 ∀(X:Nat→Prop) (θ:Th) (w:World) (vs:List Value),(∀k,X k→k<w.heap.size)→Q4 (fun k=>X k∨owned θ hp0 k) w→Ie X θ m0 hp0 w→args.length=vs.length→(∀(j:Nat) a v,args[j]?=some a→vs[j]?=some v→D7 ⟨θ,m0,hp0,X,w⟩ a v) →
  Calls P f vs.toArray w fun e w'=>Eg X θ w m0 hp0 m1 hp1 r e w'
def S9:ResultVar→Nat
 |.tmp t=>t
 |.cell t _=>t
def Fs(σ:St):List ResultVar→St
 |[]=>σ
 |.tmp _::r=>Fs σ r
 |.cell t _::r=>match look σ.sl t with
  |some (.ref i 0)=>match A5 σ.hp i with
   |some (.bx _ l)=>Fs (σ.put t (.agg l)) r
   |_=>σ
  |_=>σ
def SU(P:Program)(n:Nat)(σ:St):List ResultVar→Prop
 |[]=>True
 |.tmp _::r=>SU P n σ r
 |.cell t T::r=>∃i l sz,look σ.sl t=some (.ref i 0)∧A5 σ.hp i=some (.box l)∧G2 P T true sz∧l.length=sz∧Nat.blt t n=true∧SU P n (σ.put t (.agg l)) r
def SV:List ResultVar→List AV→List (Nat×AV)
 |v::r,a::s=>(S9 v,a)::SV r s
 |_,_=>[]
def fx:List AV→AV
 |[a]=>a
 |l=>.tup l
def CO:List ResultVar→Bool
 |[]=>true
 |v::r=>(r.all fun u=>!(Nat.beq (S9 u) (S9 v))) && CO r
theorem SW{tmps tmps':Array Value}{rv:ResultVar}(h:tmps.getD (S9 rv) undef=tmps'.getD (S9 rv) undef):V0 tmps rv=V0 tmps' rv:=by
 cases rv with
 |tmp t=>simp only[V0];rw[show tmps.getD t undef=tmps'.getD t undef from h]
 |cell t T=>simp only[V0];rw[show tmps.getD t undef=tmps'.getD t undef from h]
theorem LC{a:Act}{d s:Nat}{v:Value}(h:d≠s):(a.put (some d) v).tmps.getD s undef=a.tmps.getD s undef:=by
 simp[Act.put,Array.getD_eq_getD_getElem?,Array.getElem?_setIfInBounds_ne h]
theorem VF{a:Act}{d:Nat}{v:Value}(h:d<a.tmps.size):(a.put (some d) v).tmps.getD d undef=v:=by
 simp[Act.put,Array.getD,h]
theorem JL{P:Program}{E:Env}{n:Nat}{θ:Th}{w:World}:∀{rvs:List ResultVar} {σ:St} {a:Act},J0 E n θ σ a w→SU P n σ rvs→CO rvs=true →
  ∃a',J0 E n θ (Fs σ rvs) a' w∧(∀rv∈rvs,(V0 a.tmps rv).run P w=.ok (a'.tmps.getD (S9 rv) undef) w)∧∀s,(∀rv∈rvs,S9 rv≠s)→a'.tmps.getD s undef=a.tmps.getD s undef
 |[],σ,a,hs,_,_=>⟨a,hs,(fun rv h=>by (cases h)),fun s _=>rfl⟩
 |.tmp t::r,σ,a,hs,pM,qU=>by
  simp only[CO,Bool.and_eq_true,List.all_eq_true,Bool.not_eq_true']at qU
  obtain⟨a',h1,h2,h3⟩:=JL (rvs:=r) hs pM qU.2
  refine⟨a',h1,fun rv tW=>?_,fun s oP=>h3 s fun rv h=>oP rv (by simp[h])⟩
  rcases List.mem_cons.1 tW with rfl|tW
  ·have:=h3 t (fun rv h e=>by
    have h4:=qU.1 rv h
    have e':S9 rv=S9 (.tmp t):=e
    rw[e']at h4
    simp at h4)
   simp[V0,S9,Sem.run_pure,this]
  ·exact h2 rv tW
 |.cell t T::r,σ,a,hs,pM,qU=>by
  simp only[CO,Bool.and_eq_true,List.all_eq_true,Bool.not_eq_true']at qU
  obtain⟨i,l,sz,h1,h2,tv,sK,hn,pM⟩:=pM
  have xt:=Nat.blt_eq▸hn
  obtain⟨b1,hθ,hv,_⟩:=j8 (hs.slots t _ h1)
  obtain⟨b',ny,T',oc,hh,hsz,hr⟩:=(hs.owns i _ h2).2
  have pn:θ i=.pointer (some ⟨b1,0,none⟩):=hθ
  have qJ:θ i=.pointer (some ⟨b',0,none⟩):=oc
  rw[pn]at qJ
  cases qJ
  have vI:w.heap[b1]?=some (.cells ny T' (0,0)):=hh
  have oz:D7 (cx E θ σ w) (.agg l) (.agg ny):=by
   have:=D7.agg (c:=cx E θ σ w) l ny.toList (by simp[hsz]) (fun j x y hx hy=>hr j x y hx (by simpa using hy))
   simpa using this
  have uS:=hs.put xt oz
  have qO:=Q6 (P:=P) (T:=T) (sz:=sz) (w:=w) (a:=⟨b1,0,none⟩) (cs:=ny.toList) (by rw[Array.length_toList,hsz,sK]) (fun j v hj=>by rw[G7,J7 vI];simpa using hj)
  obtain⟨a',h3,h4,h5⟩:=JL (rvs:=r) uS pM qU.2
  have hne:∀rv∈r,S9 rv≠t:=fun rv h e=>by
   have h6:=qU.1 rv h
   have e':S9 rv=S9 (.cell t T):=e
   rw[e']at h6
   simp at h6
  have qm:Fs σ (.cell t T::r)=Fs (σ.put t (.agg l)) r:=by simp only[Fs,h1,h2]
  refine⟨a',qm▸h3,fun rv tW=>?_,fun s oP=>?_⟩
  ·rcases List.mem_cons.1 tW with rfl|tW
   ·have h6:=h5 t hne
    rw[VF (by rw[hs.size];exact xt)]at h6
    show _=Result.ok (a'.tmps.getD t undef) w
    rw[h6]
    simp[V0,hv,Sem.run_bind,Sem.run_pure,asAddr,qO]
   ·rw[←h4 rv tW]
    rw[SW (tmps:=a.tmps) (tmps':=(a.put (some t) (.agg ny)).tmps)]
    exact(LC (Ne.symm (hne rv tW))).symm
  ·rw[h5 s fun rv h=>oP rv (by simp[h]),LC]
   exact oP (.cell t T) (by simp)
theorem Pq:∀{rvs:List ResultVar} {as:List AV},rvs.length=as.length→CO rvs=true→∀(j:Nat) rv a,rvs[j]?=some rv→as[j]?=some a→look (SV rvs as) (S9 rv)=some a
 |[],_,_,_,j,rv,a,h,_=>by simp at h
 |v::r,[],hl,_,_,_,_,_,_=>by simp at hl
 |v::r,b::s,hl,qU,j,rv,a,hj,ha=>by
  simp only[CO,Bool.and_eq_true,List.all_eq_true,Bool.not_eq_true']at qU
  simp only[SV,E4]
  cases j with
  |zero=>simp at hj ha;subst hj ha;simp
  |succ j =>
   have np:r[j]?=some rv:=by simpa using hj
   have hne:S9 v≠S9 rv:=fun e=>by
    have h6:=qU.1 rv (List.mem_of_getElem? np)
    rw[←e]at h6
    simp at h6
   rw[if_neg hne]
   exact Pq (by simpa using hl) qU.2 j rv a np (by simpa using ha)
def dJ(P:Program)(E:Env)(n:Nat)(rs:Array ResultVar)(m1:Nat)(hp1:Hp)(r:AV)(σ:St):Prop :=
 (∃rvs as,rs=rvs.toArray∧SU P n σ rvs∧CO rvs=true∧rvs.length=as.length∧St.le E n (Fs σ rvs) ⟨SV rvs as,m1,hp1⟩∧r=fx as) ∨
 (∃t,rs=#[.tmp t]∧St.le E n σ ⟨[(t,r)],m1,hp1⟩) ∨
 (∃t u a b,rs=#[.tmp t,.tmp u]∧St.le E n σ ⟨[(t,a),(u,b)],m1,hp1⟩∧t≠u∧r=.tup [a,b]) ∨
 (∃t T i τ l sz,rs=#[.cell t T]∧G2 P T true sz∧l.length=sz∧St.le E n σ ⟨[(t,.ref i 0)],m1,hp1⟩∧A5 hp1 i=some (.bx τ l)∧r=.agg l)
def C8(P:Program)(E:Env)(n:Nat)(rs:Array ResultVar)(m1:Nat)(hp1:Hp)(r:AV):Exit→St→Prop
 |.ret,σ=>dJ P E n rs m1 hp1 r σ
 |.normal,σ=>dJ P E n rs m1 hp1 r σ
 |_,_=>False
section rules
variable {P:Program} {E:Env} {n:Nat} {ops:Array Oper} {rest:List Oper} {σ:St} {K:St→Prop} {Q:Exit→St→Prop}
variable {d:Nat} {ty:TypeId} {pos:String} {after:Array Edge} {x y:Operand}
theorem G9{t m1:Nat}{hp1:Hp}{r:AV}(h:St.le E n σ ⟨[(t,r)],m1,hp1⟩):C8 P E n #[.tmp t] m1 hp1 r .ret σ:=.inr (.inl ⟨t,rfl,h⟩)
theorem L8{rvs:List ResultVar}{vs:List AV}{m1:Nat}{hp1:Hp}{r:AV}(pM:SU P n σ rvs)(qU:CO rvs=true)(hl:rvs.length=vs.length)(h:St.le E n (Fs σ rvs) ⟨SV rvs vs,m1,hp1⟩)(hr:fx vs=r):C8 P E n rvs.toArray m1 hp1 r .ret σ:=.inl ⟨rvs,vs,rfl,pM,qU,hl,h,hr.symm⟩
theorem Pr{t T i m1 sz τ:Nat}{hp1:Hp}{l:List AV}[tv:G2 P T true sz](hl:l.length=sz)(h:St.le E n σ ⟨[(t,.ref i 0)],m1,hp1⟩)(hb:A5 hp1 i=some (.bx τ l)):C8 P E n #[.cell t T] m1 hp1 (.agg l) .ret σ :=
 .inr (.inr (.inr ⟨t,T,i,τ,l,sz,rfl,tv,hl,h,hb,rfl⟩))
theorem SX{f:Nat}{fn:Func}{code:Code}{args:List AV}{r:AV}{rs:Array ResultVar}{m0 m1:Nat}{hp0 hp1:Hp}(hf:P.funcs[f]?=some fn)(hb:fn.body=some code)(hn:fn.ntmps=n)(sH:fn.results=rs)
  (ns:Nat.ble args.length n=true) {X:Nat→Prop} {θ:Th} {w:World} {vs:List Value} (hX:∀k,X k→k<w.heap.size) (oM:Q4 (fun k=>X k∨owned θ hp0 k) w) (rM:Ie X θ m0 hp0 w) (hl:args.length=vs.length) (pz:∀(j:Nat) a v,args[j]?=some a→vs[j]?=some v→D7 ⟨θ,m0,hp0,X,w⟩ a v)
  (h:D0 P ⟨w,X,owned θ hp0,θ.v,m0,oM,false⟩ n code ⟨BC args 0,m0,hp0⟩ (C8 P ⟨w,X,owned θ hp0,θ.v,m0,oM,false⟩ n rs m1 hp1 r)):Calls P f vs.toArray w fun e w'=>Eg X θ w m0 hp0 m1 hp1 r e w':=by
 subst hn sH
 refine calls_of_wp hf hb ?_
 have ob:args.length≤fn.ntmps:=Nat.ble_eq▸ns
 have start:e7 ⟨w,X,owned θ hp0,θ.v,m0,oM,false⟩ fn.ntmps ⟨BC args 0,m0,hp0⟩ { tmps:=vs.toArray++Array.replicate (fn.ntmps-vs.toArray.size) undef,defers:=[] } w:=by
  refine⟨θ,?_,.nil,⟨rfl,rfl,rfl,Nat.le_refl _,fun _ _ _=>rfl⟩,fun s x hs=>?_,rM.owns,rM.apart,fun i b k hi hk=>⟨rM.fresh i b k hi hk,.inl ⟨i,b,hi,hk⟩⟩,hX,⟨Nat.le_refl _,fun i hi=>.inl rfl⟩⟩
  ·simp;omega
  ·obtain⟨_,hx⟩:=Ec args 0 s x hs
   rw[Nat.sub_zero]at hx
   have nR:s<vs.length:=by rw[←hl];exact(List.getElem?_eq_some_iff.1 hx).1
   have hv:vs[s]?=some vs[s]:=List.getElem?_eq_getElem nR
   have e:(vs.toArray++Array.replicate (fn.ntmps-vs.toArray.size) undef).getD s undef=vs[s]:=by
    rw[Array.getD_eq_getD_getElem?,Array.getElem?_append]
    simp[nR]
   rw[e]
   exact pz s x _ hx hv
 refine wp_mono (h _ w start) ?_
 rintro e a w' ⟨σ',hq,rD⟩
 have fin:dJ P ⟨w,X,owned θ hp0,θ.v,m0,oM,false⟩ fn.ntmps fn.results m1 hp1 r σ'→bodyPost P fn (fun e qq=>Eg X θ w m0 hp0 m1 hp1 r e qq) .ret a w':=by
  intro sv
  have post:∀{sl:List (Nat×AV)} {v:Value} {θ':Th},J0 ⟨w,X,owned θ hp0,θ.v,m0,oM,false⟩ fn.ntmps θ' ⟨sl,m1,hp1⟩ a w'→D7 ⟨θ',m1,hp1,X,w'⟩ r v→Eg X θ w m0 hp0 m1 hp1 r (.returned v) w':=by
   intro sl v θ' hs hv
   exact⟨⟨v,θ',rfl,hv,⟨hs.owns,hs.apart,fun i b k hi hk=>(hs.mine i b k hi hk).1⟩,fun i b k hi hk=>(hs.mine i b k hi hk).2,hs.base.2⟩,hs.fr.os,hs.fr.tape,hs.fr.output,hs.fr.size,hs.fr.block⟩
  rcases sv with ⟨rvs,as,h1,pM,qU,nO,h2,hr⟩|⟨t,h1,h2⟩|⟨t,u,a1,b1,h1,h2,hne,rfl⟩|⟨t,T,i,τ,l,sz,h1,tv,nO,h2,h3,rfl⟩
  ·obtain⟨θ0,tn⟩:=rD
   obtain⟨a',uS,nv,_⟩:=JL tn pM qU
   obtain⟨θ',hs⟩:=h2 a' w' ⟨θ0,uS⟩
   have oz:∀(j:Nat) rv b,rvs[j]?=some rv→as[j]?=some b→D7 ⟨θ',m1,hp1,X,w'⟩ b (a'.tmps.getD (S9 rv) undef):=fun j rv b hj hb=>hs.slots _ b (Pq nO qU j rv b hj hb)
   have ui:∀{v:Value},D7 ⟨θ',m1,hp1,X,w'⟩ r v→Eg X θ w m0 hp0 m1 hp1 r (.returned v) w':=fun hv =>
    ⟨⟨_,θ',rfl,hv,⟨hs.owns,hs.apart,fun i b k hi hk=>(hs.mine i b k hi hk).1⟩,fun i b k hi hk=>(hs.mine i b k hi hk).2,hs.base.2⟩,hs.fr.os,hs.fr.tape,hs.fr.output,hs.fr.size,hs.fr.block⟩
   have tup:rvs.length≠1→r=.tup as→∃v,(results fn a.tmps).run P w'=.ok v w'∧Eg X θ w m0 hp0 m1 hp1 r (.returned v) w':=by
    intro hne hr
    refine⟨_,LB (vs:=rvs.map fun rv=>a'.tmps.getD (S9 rv) undef) h1 hne (by simp) (fun j rv v hj hv=>?_),ui ?_⟩
    ·simp only[List.getElem?_map,hj,Option.map_some,Option.some.injEq]at hv
     subst hv
     exact nv rv (List.mem_of_getElem? hj)
    ·rw[hr]
     refine .tup as _ (by simp[nO]) fun j b v hb hv=>?_
     simp only[List.getElem?_map,Option.map_eq_some_iff]at hv
     obtain⟨rv,hj,rfl⟩:=hv
     exact oz j rv b hj hb
   match rvs,as,nO,hr,h1,nv,oz,tup with
   |[rv],[b],_,hr,h1,nv,oz,_ =>
    have hr:r=b:=hr
    subst hr
    exact⟨tn.defers.1 rfl,_,SM h1 (nv rv (by simp)),ui (oz 0 rv _ rfl rfl)⟩
   |[],[],_,hr,_,_,_,tup=>obtain⟨v,tR,rJ⟩:=tup (by simp) hr;exact⟨tn.defers.1 rfl,v,tR,rJ⟩
   |_::_::_,_::_::_,_,hr,_,_,_,tup=>obtain⟨v,tR,rJ⟩:=tup (by simp) hr;exact⟨tn.defers.1 rfl,v,tR,rJ⟩
  ·obtain⟨θ',hs⟩:=h2 a w' rD
   exact⟨hs.defers.1 rfl,_,results_tmp h1 _ _ _,post hs (hs.slots t r (by simp[look]))⟩
  ·obtain⟨θ',hs⟩:=h2 a w' rD
   refine⟨hs.defers.1 rfl,_,results_tmp2 h1 _ _ _,post hs (.tup [a1,b1] [_,_] rfl fun j x y hx hy=>?_)⟩
   match j,hx,hy with
   |0,hx,hy=>cases hx;cases hy;exact hs.slots t _ (by simp[look])
   |1,hx,hy=>cases hx;cases hy;exact hs.slots u _ (by rw[E4,if_neg hne,E4,if_pos rfl])
  ·obtain⟨θ',hs⟩:=h2 a w' rD
   obtain⟨b,hθ,hv,_⟩:=j8 (hs.slots t (.ref i 0) (by simp[look]))
   obtain⟨b',ny,T',oc,hh,hsz,hr⟩:=(hs.owns i _ h3).2
   have pn:θ' i=.pointer (some ⟨b,0,none⟩):=hθ
   have qJ:θ' i=.pointer (some ⟨b',0,none⟩):=oc
   rw[pn]at qJ
   cases qJ
   have vI:w'.heap[b]?=some (.cells ny T' (0,0)):=hh
   refine⟨hs.defers.1 rfl,.agg ny,?_,post hs ?_⟩
   ·have qO:=Q6 (P:=P) (T:=T) (sz:=sz) (w:=w') (a:=⟨b,0,none⟩) (cs:=ny.toList) (by rw[Array.length_toList,hsz,nO]) (fun j v hj=>by rw[G7,J7 vI];simpa using hj)
    rw[Array.getD_eq_getD_getElem?]at hv
    simp[results,h1,hv,Sem.run_bind,Sem.run_pure,asAddr,qO]
   ·have:=D7.agg (c:=⟨θ',m1,hp1,X,w'⟩) l ny.toList (by simp[hsz]) (fun j x y hx hy=>hr j x y hx (by simpa using hy))
    simpa using this
 cases e with
 |normal=>exact fin hq
 |ret=>exact fin hq
 |exit id=>exact hq.elim
 |goto l=>exact hq.elim
 |panic c=>exact hq.elim
 |outgrown=>exact hq.elim
theorem VG {f : Nat} {fn : Func} {code : Code} {args : List AV} {r : AV} {rs : Array ResultVar} {m0 m1 : Nat} {hp0 hp1 : Hp} (hf : P.funcs[f]? = some fn) (pA : (fn.name == "runtime.NumGoroutine") = false) (hb : fn.body = some code) (hn : fn.ntmps = n) (sH : fn.results = rs)
  (ns:Nat.ble args.length n=true) (h:∀E,E.n0=m0→D0 P E n code ⟨BC args 0,m0,hp0⟩ (C8 P E n rs m1 hp1 r)):B6 P f m0 hp0 args m1 hp1 r :=
 ⟨⟨fn,hf,pA,by rw[hb];rfl⟩,fun X θ w vs hX oM rM hl pz=>SX hf hb hn sH ns hX oM rM hl pz (h _ rfl)⟩
def S5(ρ s:Nat→Nat):Hp→Hp
 |[]=>[]
 |(k,b)::r=>(ρ k,b.map (j4 ρ s k))::S5 ρ s r
theorem HV{ρ s:Nat→Nat}{m:Nat}(uK:∀i j,i<m→j<m→ρ i=ρ j→i=j):∀(hp h:Hp),H8 m hp=true→∀j,j<m→look (S5 ρ s hp++h) (ρ j)=match look hp j with
  |some b=>some (b.map (j4 ρ s j))
  |none=>look h (ρ j)
 |[],h,_,j,hj=>rfl
 |(k,b)::r,h,nR,j,hj=>by
  have hk:k<m∧H8 m r=true:=by
   match b,nR with
   |none,nR=>simp only[H8,Bool.and_eq_true,Nat.blt_eq]at nR;exact nR
   |some (.bx τ l),nR=>simp only[H8,Bool.and_eq_true,Nat.blt_eq]at nR;exact⟨nR.1.1,nR.2⟩
   |some (.row ..),nR=>simp only[H8,Bool.and_eq_true,Nat.blt_eq]at nR;exact⟨nR.1,nR.2.2⟩
   |some (.map ..),nR=>simp only[H8,Bool.and_eq_true,Nat.blt_eq]at nR;exact nR
   |some (.it ..),nR=>simp only[H8,Bool.and_eq_true,Nat.blt_eq]at nR;exact nR
  simp only[S5,List.cons_append,E4]
  by_cases e:k=j
  ·subst e;simp
  ·have:ρ k≠ρ j:=fun h2=>e (uK k j hk.1 hj h2)
   simp only[if_neg this,if_neg e]
   exact HV uK r h hk.2 j hj
theorem Bs{ρ s:Nat→Nat}{m:Nat}:∀(hp h:Hp),H8 m hp=true→∀i,(∀j,j<m→ρ j≠i)→look (S5 ρ s hp++h) i=look h i
 |[],h,_,i,_=>rfl
 |(k,b)::r,h,nR,i,hi=>by
  have hk:k<m∧H8 m r=true:=by
   match b,nR with
   |none,nR=>simp only[H8,Bool.and_eq_true,Nat.blt_eq]at nR;exact nR
   |some (.bx τ l),nR=>simp only[H8,Bool.and_eq_true,Nat.blt_eq]at nR;exact⟨nR.1.1,nR.2⟩
   |some (.row ..),nR=>simp only[H8,Bool.and_eq_true,Nat.blt_eq]at nR;exact⟨nR.1,nR.2.2⟩
   |some (.map ..),nR=>simp only[H8,Bool.and_eq_true,Nat.blt_eq]at nR;exact nR
   |some (.it ..),nR=>simp only[H8,Bool.and_eq_true,Nat.blt_eq]at nR;exact nR
  simp only[S5,List.cons_append,E4,if_neg (hi k hk.1)]
  exact Bs r h hk.2 i hi
def K0(ι:List Nat)(i:Nat):Nat:=ι.getD i 0
def Xp(h:Hp)(i:Nat):Nat:=match A5 h i with
 |some (.row e _ v _)=>cond (X7 e) v (v+1)
 |_=>0
def Do(h hp0:Hp)(ι off:List Nat):Nat→Prop
 |0=>True
 |m+1=>A5 h (K0 ι m)=(A5 hp0 m).map (j4 (K0 ι) (K0 off) m)∧Do h hp0 ι off m
theorem NP{h hp0:Hp}{ι off:List Nat}:∀{m:Nat},Do h hp0 ι off m→∀i,i<m→A5 h (K0 ι i)=(A5 hp0 i).map (j4 (K0 ι) (K0 off) i)
 |0,_,i,hi=>absurd hi (Nat.not_lt_zero _)
 |m+1,hb,i,hi=>by
  by_cases e:i=m
  ·subst e;exact hb.1
  ·exact NP hb.2 i (by omega)
def Al(hp0 hp1:Hp):Nat→Bool
 |0=>true
 |m+1=>(look hp1 m).isSome && (match A5 hp1 m,A5 hp0 m with
  |some (.row e sz _ _),some (.row e' nU _ _)=>Nat.beq sz nU && (X7 e == X7 e')
  |some (.row ..),_=>false
  |_,_=>true) && Al hp0 hp1 m
theorem LD{hp0 hp1:Hp}:∀{m:Nat},Al hp0 hp1 m=true→∀i,i<m→(look hp1 i).isSome=true∧∀e sz v l,A5 hp1 i=some (.row e sz v l)→∃e' v' l',A5 hp0 i=some (.row e' sz v' l')∧X7 e=X7 e'
 |0,_,i,hi=>absurd hi (Nat.not_lt_zero _)
 |m+1,hb,i,hi=>by
  simp only[Al,Bool.and_eq_true]at hb
  by_cases e:i=m
  ·subst e
   refine⟨hb.1.1,fun e sz v l hl=>?_⟩
   have h2:=hb.1.2
   rw[hl]at h2
   split at h2
   ·rename_i h3 h4
    cases h3
    rw[Bool.and_eq_true]at h2
    refine⟨_,_,_,by rw[h4,Nat.eq_of_beq_eq_true h2.1],?_⟩
    exact eq_of_beq h2.2
   ·cases h2
   ·rename_i h4 h3
    first|exact absurd rfl (h3 e sz v l)|exact absurd rfl (h4 e sz v l)|exact(h3 e sz v l rfl).elim|exact(h4 e sz v l rfl).elim
  ·exact LD hb.2 i (by omega)
def Cj(ι:List Nat)(nx:Nat):Bool:=match ι with
 |[]=>true
 |i::r=>Nat.blt i nx && !(r.contains i) && Cj r nx
theorem NQ:∀{ι:List Nat} {nx:Nat},Cj ι nx=true→(∀i,i<ι.length→K0 ι i<nx)∧∀i j,i<ι.length→j<ι.length→K0 ι i=K0 ι j→i=j
 |[],nx,_=>⟨fun i hi=>absurd hi (Nat.not_lt_zero _),fun i j hi=>absurd hi (Nat.not_lt_zero _)⟩
 |a::r,nx,h=>by
  simp only[Cj,Bool.and_eq_true,Nat.blt_eq,Bool.not_eq_true']at h
  obtain⟨h1,h2⟩:=NQ h.2
  have oZ:∀i,i<r.length→K0 r i∈r:=fun i hi=>by simp[K0,List.getD,hi]
  have yN:a∉r:=by simpa using h.1.2
  refine⟨fun i hi=>?_,fun i j hi hj he=>?_⟩
  ·cases i with
   |zero=>exact h.1.1
   |succ i=>exact h1 i (by simpa using hi)
  ·cases i with
   |zero =>
    cases j with
    |zero=>rfl
    |succ j=>exact absurd (show a∈r from (show a=K0 r j from he)▸oZ j (by simpa using hj)) yN
   |succ i =>
    cases j with
    |zero=>exact absurd (show a∈r from (show K0 r i=a from he)▸oZ i (by simpa using hi)) yN
    |succ j=>exact congrArg (·+1) (h2 i j (by simpa using hi) (by simpa using hj) he)
def gρ(ι:List Nat)(m0 nx:Nat)(i:Nat):Nat:=cond (Nat.blt i m0) (K0 ι i) (nx+(i-m0))
def gs(ι:List Nat)(m0:Nat)(h:Hp)(i:Nat):Nat:=cond (Nat.blt i m0) (Xp h (K0 ι i)) 0
theorem KN{ι:List Nat}{m0 nx i:Nat}(h:i<m0):gρ ι m0 nx i=K0 ι i:=by
 have:Nat.blt i m0=true:=Nat.blt_eq▸h
 simp[gρ,this]
theorem HW{ι:List Nat}{m0 nx i:Nat}(h:¬i<m0):gρ ι m0 nx i=nx+(i-m0):=by
 have:Nat.blt i m0=false:=by
  cases hb:Nat.blt i m0
  ·rfl
  ·exact absurd (Nat.blt_eq▸hb) h
 simp[gρ,this]
theorem aG{c c':Cx}{ρ s:Nat→Nat}(hθ:∀i,i<c.nx→c'.θ (ρ i)=c.θ i)(hN:∀i,i<c.nx→c'.θ.N (ρ i)=c.θ.N i)(hw:c'.w=c.w)(hU:∀k,c.U k→c'.U k)
  (od:∀i,i<c.nx→∀e sz v l,A5 c.hp i=some (.row e sz v l)→A5 c'.hp (ρ i)=some (.row e sz (v+s i) l))
  {i:Nat} {b:C9} (hi:i<c.nx) (zK:∀τ l,b=.bx τ l→S0 c.nx l=true) (o:L4 c' (ρ i) (j4 ρ s i b)) (uE:∀e sz v l,b=.row e sz v l→FB e=false):L4 c i b:=by
 have tj:∀{a:AV} {x:Value},Im c'.U c'.w a x→Im c.U c.w a x:=fun hi=>hi.mono (fun k _ _=>by rw[hw]) fun k _ hu=>hU k hu
 cases b with
 |bx τ l =>
  obtain⟨b',ny,T,e1,e2,e3,e4⟩:=o
  refine⟨b',ny,T,by rw[←hθ i hi];exact e1,by rw[←hw];exact e2,by rw[P2,List.length_map]at e3;exact e3,fun j u z hu hz=>?_⟩
  refine Po hθ hw hU od (Ag (zK τ l rfl) u (List.mem_of_getElem? hu)) (e4 j _ z ?_ hz)
  rw[P2];simp[hu]
 |row e sz v l =>
  obtain⟨xs,e1,e2,e3,e4⟩:=o
  refine⟨xs,by rw[←hθ i hi,←hw];exact e1,e2,fun k el hk j x hx=>?_,fun hne=>⟨fun k p hk=>by rw[←hw];exact(e4 hne).1 k p (by rw[hN i hi];exact hk),fun k el hk j e' nU l' hj=>?_⟩⟩
  ·obtain⟨y,hy,hi⟩:=e3 k el hk j x hx
   exact⟨y,hy,tj hi⟩
  ·rcases(e4 hne).2 k el hk j e' nU l' hj with ⟨q0,_⟩|⟨g,m,cap,y,ys,q1,q2,q3,q4,q5,q6,q7⟩
   ·rw[uE _ _ _ _ rfl]at q0;cases q0
   exact .inr ⟨g,m,cap,y,ys,by rw[←hθ i hi];exact q1,by rw[←hw];exact q2,by rw[←hw];exact q3,q4,q5,fun q og hq j' x hx=>by
    obtain⟨z,hz,hi⟩:=q6 q og hq j' x hx
    exact⟨z,hz,tj hi⟩,fun b hb=>by rw[←hN i hi];exact q7 b hb⟩
 |map m =>
  obtain⟨r,es,clock,e1,e2,e3,e4⟩:=o
  exact⟨r,es,clock,by rw[←hθ i hi];exact e1,by rw[←hw];exact e2,e3,fun j q e hj he=>⟨(e4 j q e hj he).1,tj (e4 j q e hj he).2⟩⟩
 |it t p =>
  obtain⟨r,e1,e2⟩:=o
  exact⟨r,by rw[←hθ i hi];exact e1,by rw[←hw];exact e2⟩
theorem aH{C:Cx}{A B:List AV}{x y:List Value}(h1:A.length=x.length)(ha:∀(j:Nat) u v,A[j]?=some u→x[j]?=some v→D7 C u v)(hb:∀(j:Nat) u v,B[j]?=some u→y[j]?=some v→D7 C u v):∀(j:Nat) u v,(A++B)[j]?=some u→(x++y)[j]?=some v→D7 C u v:=fun j u v hu hv=>by
 by_cases hj:j<A.length
 ·rw[List.getElem?_append_left hj]at hu
  rw[List.getElem?_append_left (by omega)]at hv
  exact ha j u v hu hv
 ·rw[List.getElem?_append_right (by omega)]at hu
  rw[List.getElem?_append_right (by omega),←h1]at hv
  exact hb _ u v hu hv
theorem HX{Cl:List Value→World→(Ending→World→Prop)→Prop}(wj:∀{vs:List Value} {w:World} {R R':Ending→World→Prop},Cl vs w R→(∀e w',R e w'→R' e w')→Cl vs w R')
  {A args:List AV} {r:AV} {m0 m1:Nat} {hp0 hp1:Hp} (ι off:List Nat) {θ:Th} {a:Act} {w:World} (hs:J0 E n θ σ a w) {vs:List Value} (yd:A.length=vs.length) (hr:∀(j:Nat) x v,A[j]?=some x→vs[j]?=some v→D7 (cx E θ σ w) x v)
  (hL:Ak (K0 ι) (K0 off) args=A) (ns:S0 m0 args=true) (hι:Nat.beq ι.length m0=true) (uC:Cj ι σ.nx=true) (oG:Do σ.hp hp0 ι off m0) (nr:Al hp0 hp1 m0=true)
  (rR:H8 m0 hp0=true) (om:H8 m1 hp1=true) (hm:Nat.ble m0 m1=true)
  (hc:∀(X:Nat→Prop) (θc:Th),(∀k,X k→k<w.heap.size)→Q4 (fun k=>X k∨owned θc hp0 k) w→Ie X θc m0 hp0 w→(∀k,owned θc hp0 k→(cx E θ σ w).own k)→(∀k,E.X k→X k)→(∀k,X k→(cx E θ σ w).U k)→args.length=vs.length→(∀(j:Nat) a v,args[j]?=some a→vs[j]?=some v→D7 ⟨θc,m0,hp0,X,w⟩ a v) →
   Cl vs w (Eg X θc w m0 hp0 m1 hp1 r)) :
  Cl vs w fun e w'=>∃v Θ,e=.returned v∧J0 E n Θ ⟨σ.sl,σ.nx+(m1-m0),S5 (gρ ι m0 σ.nx) (gs ι m0 σ.hp) hp1++σ.hp⟩ a w' ∧
   D7 (cx E Θ ⟨σ.sl,σ.nx+(m1-m0),S5 (gρ ι m0 σ.nx) (gs ι m0 σ.hp) hp1++σ.hp⟩ w') (M9 (gρ ι m0 σ.nx) (gs ι m0 σ.hp) r) v∧w.heap.size≤w'.heap.size∧∀k,k<w.heap.size→¬(cx E θ σ w).own k→w'.heap[k]?=w.heap[k]?:=by
 have hι:=Nat.eq_of_beq_eq_true hι
 have hm:=Nat.ble_eq▸hm
 obtain⟨uA,tV⟩:=NQ uC
 rw[hι]at uA tV
 have oG:=NP oG
 have nr:=LD nr
 let C:=cx E θ σ w
 let θc:Th:=⟨fun i=>θ (K0 ι i),fun i=>θ.N (K0 ι i)⟩
 let Xc:Nat→Prop:=fun k=>C.U k∧¬owned θc hp0 k
 let c0:Cx:=⟨θc,m0,hp0,Xc,w⟩
 have po:∀k,owned θc hp0 k→∃i b0,i<m0∧A5 hp0 i=some b0∧A5 σ.hp (K0 ι i)=some (j4 (K0 ι) (K0 off) i b0)∧FP θ (K0 ι i) (j4 (K0 ι) (K0 off) i b0) k:=by
  rintro k ⟨i,b,hi,hk⟩
  have nR:=(CM rR hi).1
  exact⟨i,b,nR,hi,by rw[oG i nR,hi];rfl,(FP.ren (θ:=θc) rfl rfl).2 hk⟩
 have zl:∀k,c0.U k→C.U k:=by
  rintro k (hk|hk)
  ·exact hk.1
  ·obtain⟨i,b0,_,_,h1,h2⟩:=po k hk
   exact .inr ⟨_,_,h1,h2⟩
 have qk:∀i,i<c0.nx→∀e sz v l,A5 c0.hp i=some (.row e sz v l)→A5 C.hp (K0 ι i)=some (.row e sz (v+K0 off i) l):=by
  intro i hi e sz v l hl
  have:=oG i hi
  have oE:A5 hp0 i=some (.row e sz v l):=hl
  rw[oE]at this
  exact this
 have nO:args.length=vs.length:=by
  have:=congrArg List.length hL
  rw[P2,List.length_map]at this
  rw[this,yd]
 have xT:Ie Xc θc m0 hp0 w:=by
  refine⟨fun i b hi=>?_,fun i j b b' k hi hj vV wa=>?_,fun i b k hi hk hX=>hX.2 ⟨i,b,hi,hk⟩⟩
  ·obtain⟨nR,wo⟩:=CM rR hi
   have h1:A5 σ.hp (K0 ι i)=some (j4 (K0 ι) (K0 off) i b):=by rw[oG i nR,hi];rfl
   exact⟨nR,aG (c:=c0) (c':=C) (fun i _=>rfl) (fun i _=>rfl) rfl zl qk nR wo (hs.owns _ _ h1).2 fun e sz v l e2=>Gj rR (e2▸hi)⟩
  ·have h1:=(CM rR hi).1
   have h2:=(CM rR hj).1
   refine tV i j h1 h2 (hs.apart _ _ (j4 (K0 ι) (K0 off) i b) (j4 (K0 ι) (K0 off) j b') k (by rw[oG i h1,hi];rfl) (by rw[oG j h2,hj];rfl) ((FP.ren (θ:=θc) rfl rfl).2 vV) ((FP.ren (θ:=θc) rfl rfl).2 wa))
 have wY:∀k,owned θc hp0 k→C.own k:=fun k hk=>by
  obtain⟨i,b0,_,_,h1,h2⟩:=po k hk
  exact⟨_,_,h1,h2⟩
 have rB:=hc Xc θc (fun k hk=>hs.evT.Ult k hk.1) (hs.evT.tab.mono (fun k _ hk=>hk.elim (fun h=>h.1) (fun h=>zl k (.inr h))) fun _ _ _=>rfl) xT wY (fun k hk=>⟨.inl hk,fun ho=>by
  obtain⟨i,b0,_,_,h1,h2⟩:=po k ho
  exact(hs.mine _ _ k h1 h2).1 hk⟩) (fun _ hk=>hk.1) nO fun j av v hj hv=>by
  refine Po (c:=c0) (c':=C) (ρ:=K0 ι) (s:=K0 off) (fun i _=>rfl) rfl zl qk (Ag ns av (List.mem_of_getElem? hj)) (hr j _ v ?_ hv)
  rw[←hL,P2];simp[hj]
 refine wj rB ?_
 rintro e w' ⟨⟨v,θ',rfl,hv,rH,oA,oc⟩,rz,qP,rL,nY,oh⟩
 let ρ:=gρ ι m0 σ.nx
 let s:=gs ι m0 σ.hp
 have tU:∀i j,i<m1→j<m1→ρ i=ρ j→i=j:=by
  intro i j hi hj he
  by_cases h1:i<m0<;>by_cases h2:j<m0
  ·exact tV i j h1 h2 (by simpa only[ρ,KN h1,KN h2]using he)
  ·have:=uA i h1
   simp only[ρ,KN h1,HW h2]at he
   omega
  ·have:=uA j h2
   simp only[ρ,HW h1,KN h2]at he
   omega
  ·simp only[ρ,HW h1,HW h2]at he
   omega
 have xf:∀j,j<m1→ρ j<σ.nx+(m1-m0):=by
  intro j hj
  by_cases h1:j<m0
  ·have:=uA j h1;simp only[ρ,KN h1];omega
  ·simp only[ρ,HW h1];omega
 have tE:∀j,j<m1→ρ j<σ.nx→j<m0:=by
  intro j hj nR
  by_cases h1:j<m0
  ·exact h1
  ·simp only[ρ,HW h1]at nR;omega
 let Θ:Th:=⟨fun i=>open Classical in if h:∃j,j<m1∧ρ j=i then θ' (Classical.choose h)else θ i,fun i=>open Classical in if h:∃j,j<m1∧ρ j=i then θ'.N (Classical.choose h)else θ.N i⟩
 have xK:∀j,j<m1→Θ (ρ j)=θ' j:=by
  intro j hj
  have hex:∃j',j'<m1∧ρ j'=ρ j:=⟨j,hj,rfl⟩
  have:Classical.choose hex=j:=tU _ _ (Classical.choose_spec hex).1 hj (Classical.choose_spec hex).2
  simp only[Θ,dif_pos hex,this]
 have wG:∀j,j<m1→Θ.N (ρ j)=θ'.N j:=by
  intro j hj
  have hex:∃j',j'<m1∧ρ j'=ρ j:=⟨j,hj,rfl⟩
  have:Classical.choose hex=j:=tU _ _ (Classical.choose_spec hex).1 hj (Classical.choose_spec hex).2
  simp only[Θ,dif_pos hex,this]
 have vl:∀i,(∀j,j<m1→ρ j≠i)→Θ.N i=θ.N i:=by
  intro i hi
  have:¬∃j,j<m1∧ρ j=i:=fun ⟨j,hj,he⟩=>hi j hj he
  simp only[Θ,dif_neg this]
 have xq:∀i,(∀j,j<m1→ρ j≠i)→Θ i=θ i:=by
  intro i hi
  have:¬∃j,j<m1∧ρ j=i:=fun ⟨j,hj,he⟩=>hi j hj he
  simp only[Θ,dif_neg this]
 have vp:∀{j:Nat} {b:C9} {k:Nat},j<m1→FP Θ (ρ j) (j4 ρ s j b) k→FP θ' j b k:=fun hj h=>(FP.ren (xK _ hj) (wG _ hj)).1 h
 have vZ:∀{i:Nat} {b:C9} {k:Nat},(∀j,j<m1→ρ j≠i)→FP Θ i b k→FP θ i b k:=fun hi h=>by
  unfold FP at h ⊢
  rwa[xq _ hi,vl _ hi]at h
 let HP:=S5 ρ s hp1++σ.hp
 let σ':St:=⟨σ.sl,σ.nx+(m1-m0),HP⟩
 have qK:∀i,σ.nx≤i→A5 σ.hp i=none:=by
  intro i hi
  cases hx:A5 σ.hp i with
  |none=>rfl
  |some b=>have:=(hs.owns i b hx).1;omega
 have qL:∀j,j<m1→A5 HP (ρ j)=(A5 hp1 j).map (j4 ρ s j):=by
  intro j hj
  have:=HV (ρ:=ρ) (s:=s) tU hp1 σ.hp om j hj
  unfold A5
  rw[this]
  cases hx:look hp1 j with
  |some b=>cases b<;>rfl
  |none =>
   simp only[Option.map_none]
   have px:¬j<m0:=fun h=>by have:=(nr j h).1;rw[hx]at this;cases this
   have h2:=qK (ρ j) (by simp only[ρ,HW px];omega)
   exact h2
 have pW:∀i,(∀j,j<m1→ρ j≠i)→A5 HP i=A5 σ.hp i:=by
  intro i hi
  unfold A5
  rw[Bs (ρ:=ρ) (s:=s) hp1 σ.hp om i hi]
 have qu:∀j,j<m0→ρ j=K0 ι j:=fun j hj=>KN hj
 have ut:∀k,owned θc hp0 k→C.own k:=fun k hk=>by
  obtain⟨i,b0,_,_,h1,h2⟩:=po k hk
  exact⟨_,_,h1,h2⟩
 have tG:∀k,owned θc hp0 k→¬E.X k∧(E.O k∨E.w0.heap.size≤k):=fun k hk=>by
  obtain⟨i,b0,_,_,h1,h2⟩:=po k hk
  exact hs.mine _ _ k h1 h2
 have qj:∀i b k,A5 σ.hp i=some b→(∀j,j<m1→ρ j≠i)→FP θ i b k→¬owned θc hp0 k:=fun i b k hi nf hk ho=>by
  obtain⟨j,b0,hj,_,h1,h2⟩:=po k ho
  have:=hs.apart _ _ _ _ k hi h1 hk h2
  exact nf j (by omega) (by rw[qu j hj];exact this.symm)
 let C':=cx E Θ σ' w'
 have le:C.le C':=by
  refine⟨Nat.le_add_right _ _,fun i hi=>?_,fun i hi e' nU v' l' hl=>?_,nY,fun k hk hu=>oh k hk fun ho=>hu (.inr (ut k ho)),fun k hk hu=>?_⟩
  ·by_cases hex:∃j,j<m1∧ρ j=i
   ·obtain⟨j,hj,rfl⟩:=hex
    have ph:=tE j hj hi
    have h1:=oc j ph
    have h2:θc j=θ (ρ j):=by rw[qu j ph]
    rw[h2]at h1
    show Θ (ρ j)=θ (ρ j)∨_
    rw[xK j hj]
    exact h1.imp id (·.1)
   ·exact .inl (xq i fun j hj he=>hex ⟨j,hj,he⟩)
  ·by_cases hex:∃j,j<m1∧ρ j=i
   ·obtain⟨j,hj,rfl⟩:=hex
    have ph:=tE j hj hi
    have h1:A5 HP (ρ j)=some (.row e' nU v' l'):=hl
    rw[qL j hj,Option.map_eq_some_iff]at h1
    obtain⟨b,hb,py⟩:=h1
    cases b with
    |bx τ l=>cases py
    |map m=>cases py
    |it _ _=>cases py
    |row e1 se v1 l1 =>
     simp only[j4]at py
     cases py
     obtain⟨e0,v0,l0,h0,qD⟩:=(nr j ph).2 _ _ _ _ hb
     have h3:=qk j ph e0 nU v0 l0 h0
     refine⟨e0,v0+K0 off j,l0,by rw[qu j ph];exact h3,?_⟩
     have qd:A5 σ.hp (K0 ι j)=some (.row e0 nU (v0+K0 off j) l0):=h3
     have nt:Nat.blt j m0=true:=Nat.blt_eq▸ph
     by_cases hk:X7 e0=true
     ·have hsj:s j=v0+K0 off j:=by
       simp only[s,gs,nt,Xp,qd,hk,cond]
      by_cases hv0:v1=0
      ·have ya:θ' j=θ (K0 ι j):=(oc j ph).resolve_right fun h=>h.2 ⟨_,_,_,_,hb,qD.trans hk⟩
       obtain⟨x1,o1,_⟩:=(rH.owns j _ hb).2
       obtain⟨x2,o2,_⟩:=(hs.owns _ _ qd).2
       have o1':Q3 w' e' nU (θ' j) l'.length x1:=o1
       have o2':Q3 w e0 nU (θ (K0 ι j)) l0.length x2:=o2
       rw[ya]at o1'
       refine .inr ⟨by rw[hsj];omega,o2'.len o1',?_⟩
       show Θ (ρ j)=θ (ρ j)
       rw[xK j hj,ya,qu j ph]
      ·exact .inl (by rw[hsj];omega)
     ·have:s j=v0+K0 off j+1:=by
       have ni:X7 e0=false:=by
        cases hx:X7 e0 with
        |false=>rfl
        |true=>exact absurd hx hk
       simp only[s,gs,nt,Xp,qd,ni,cond]
      exact .inl (by omega)
   ·have h1:A5 HP i=some (.row e' nU v' l'):=hl
    have nf:∀j,j<m1→ρ j≠i:=fun j hj he=>hex ⟨j,hj,he⟩
    rw[pW i nf]at h1
    exact⟨e',v',l',h1,.inr ⟨rfl,rfl,xq i nf⟩⟩
  ·rcases hu with hu|⟨i,b,hi,oH⟩
   ·exact .inl hu
   ·have oa:A5 HP i=some b:=hi
    have ni:FP Θ i b k:=oH
    by_cases hex:∃j,j<m1∧ρ j=i
    ·obtain⟨j,hj,rfl⟩:=hex
     rw[qL j hj,Option.map_eq_some_iff]at oa
     obtain⟨b1,oo,rfl⟩:=oa
     rcases oA j b1 k oo (vp hj ni)with h|h
     ·exact .inr (ut k h)
     ·have rT:k<w.heap.size:=hk
      omega
    ·have nf:∀j,j<m1→ρ j≠i:=fun j hj he=>hex ⟨j,hj,he⟩
     rw[pW i nf]at oa
     exact .inr ⟨i,b,oa,vZ nf ni⟩
 have ren:Ren ⟨θ',m1,hp1,Xc,w'⟩ C' ρ s:=by
  refine⟨xf,xK,wG,rfl,fun k hu=>?_,fun j hj e sz v' l hl=>?_⟩
  ·rcases hu with hu|⟨i,b,hi,hk⟩
   ·exact .inl ⟨.inl hu,fun ho=>(tG k ho).1 hu⟩
   ·have oa:A5 HP i=some b:=hi
    have ni:FP Θ i b k:=hk
    by_cases hex:∃j,j<m1∧ρ j=i
    ·obtain⟨j,hj,rfl⟩:=hex
     rw[qL j hj,Option.map_eq_some_iff]at oa
     obtain⟨b1,oo,rfl⟩:=oa
     exact .inr ⟨j,b1,oo,vp hj ni⟩
    ·have nf:∀j,j<m1→ρ j≠i:=fun j hj he=>hex ⟨j,hj,he⟩
     rw[pW i nf]at oa
     have ni:=vZ nf ni
     exact .inl ⟨.inr ⟨i,b,oa,ni⟩,qj i b k oa nf ni⟩
  ·have h1:A5 HP (ρ j)=some (.row e sz v' l):=hl
   rw[qL j hj,Option.map_eq_some_iff]at h1
   obtain⟨b,hb,py⟩:=h1
   cases b with
   |bx τ l=>cases py
   |map m=>cases py
   |it _ _=>cases py
   |row e1 se v1 l1 =>
    simp only[j4]at py
    cases py
    exact⟨v1,hb,rfl⟩
 have qo:J0 E n Θ σ' a w':=by
  refine⟨hs.size,hs.defers.mono fun k hd=>oh k (HI hd) fun ho=>(xT.nodf ho) hd,⟨rz.trans hs.fr.os,qP.trans hs.fr.tape,rL.trans hs.fr.output,Nat.le_trans hs.fr.size nY,fun k hk hO=>?_⟩,fun t x hx=>(hs.slots t x hx).mono le,fun i b hi=>?_,fun i1 i2 b1 b2 k h1 h2 pk ni=>?_,fun i b k hi hk=>?_,hs.X,⟨by have:=hs.base.1;show E.n0≤σ.nx+_;omega,fun i hi=>?_⟩⟩
  ·have h1:=hs.fr.size
   rw[oh k (by omega) fun ho=>?_]
   ·exact hs.fr.block k hk hO
   ·rcases(tG k ho).2 with h2|h2
    ·exact hO h2
    ·omega
  ·have oa:A5 HP i=some b:=hi
   by_cases hex:∃j,j<m1∧ρ j=i
   ·obtain⟨j,hj,rfl⟩:=hex
    rw[qL j hj,Option.map_eq_some_iff]at oa
    obtain⟨b1,oo,rfl⟩:=oa
    exact⟨xf j hj,WJ ren hj (rH.owns j b1 oo).2 fun e sz v l e2=>Gj om (e2▸oo)⟩
   ·have nf:∀j,j<m1→ρ j≠i:=fun j hj he=>hex ⟨j,hj,he⟩
    rw[pW i nf]at oa
    obtain⟨h1,h2⟩:=hs.owns i b oa
    refine⟨by show i<σ.nx+_;omega,h2.mono le (xq i nf) (fun k=>congrFun (vl i nf) k) fun k hk=>oh k (h2.lt hk) (qj i b k oa nf hk)⟩
  ·have oB:A5 HP i1=some b1:=h1
   have oI:A5 HP i2=some b2:=h2
   by_cases e1:∃j,j<m1∧ρ j=i1<;>by_cases e2:∃j,j<m1∧ρ j=i2
   ·obtain⟨j1,vC,rfl⟩:=e1
    obtain⟨j2,qH,rfl⟩:=e2
    rw[qL j1 vC,Option.map_eq_some_iff]at oB
    rw[qL j2 qH,Option.map_eq_some_iff]at oI
    obtain⟨c1,qC,rfl⟩:=oB
    obtain⟨c2,pc,rfl⟩:=oI
    rw[rH.apart j1 j2 c1 c2 k qC pc (vp vC pk) (vp qH ni)]
   ·obtain⟨j1,vC,rfl⟩:=e1
    have nf:∀j,j<m1→ρ j≠i2:=fun j hj he=>e2 ⟨j,hj,he⟩
    rw[qL j1 vC,Option.map_eq_some_iff]at oB
    obtain⟨c1,qC,rfl⟩:=oB
    have pk:=vp vC pk
    rw[pW i2 nf]at oI
    have ni:=vZ nf ni
    rcases oA j1 c1 k qC pk with h|h
    ·exact absurd h (qj i2 b2 k oI nf ni)
    ·have:=(hs.owns i2 b2 oI).2.lt ni
     have h3:k<w.heap.size:=this
     omega
   ·obtain⟨j2,qH,rfl⟩:=e2
    have nf:∀j,j<m1→ρ j≠i1:=fun j hj he=>e1 ⟨j,hj,he⟩
    rw[qL j2 qH,Option.map_eq_some_iff]at oI
    obtain⟨c2,pc,rfl⟩:=oI
    have ni:=vp qH ni
    rw[pW i1 nf]at oB
    have pk:=vZ nf pk
    rcases oA j2 c2 k pc ni with h|h
    ·exact absurd h (qj i1 b1 k oB nf pk)
    ·have:=(hs.owns i1 b1 oB).2.lt pk
     have h3:k<w.heap.size:=this
     omega
   ·have tA:∀j,j<m1→ρ j≠i1:=fun j hj he=>e1 ⟨j,hj,he⟩
    have wX:∀j,j<m1→ρ j≠i2:=fun j hj he=>e2 ⟨j,hj,he⟩
    rw[pW i1 tA]at oB
    rw[pW i2 wX]at oI
    exact hs.apart i1 i2 b1 b2 k oB oI (vZ tA pk) (vZ wX ni)
  ·have oa:A5 HP i=some b:=hi
   by_cases hex:∃j,j<m1∧ρ j=i
   ·obtain⟨j,hj,rfl⟩:=hex
    rw[qL j hj,Option.map_eq_some_iff]at oa
    obtain⟨c1,qC,rfl⟩:=oa
    rcases oA j c1 k qC (vp hj hk)with h|h
    ·exact tG k h
    ·have h1:=hs.fr.size
     exact⟨fun hx=>by have:=hs.X k hx;omega,.inr (by omega)⟩
   ·have nf:∀j,j<m1→ρ j≠i:=fun j hj he=>hex ⟨j,hj,he⟩
    rw[pW i nf]at oa
    exact hs.mine i b k oa (vZ nf hk)
  ·have nz:i<σ.nx:=by have:=hs.base.1;omega
   show Θ i=_∨_∧¬Kept HP i
   by_cases hex:∃j,j<m1∧ρ j=i
   ·obtain⟨j,hj,rfl⟩:=hex
    have ph:=tE j hj nz
    have h1:=oc j ph
    have h2:θc j=θ (ρ j):=by rw[qu j ph]
    rw[h2]at h1
    rw[xK j hj]
    by_cases hkp:Kept HP (ρ j)
    ·obtain⟨e,sz,v,l,hl,hk⟩:=hkp
     have oF:=hl
     rw[qL j hj,Option.map_eq_some_iff]at oF
     obtain⟨b,hb,py⟩:=oF
     cases b with
     |bx _ _=>cases py
     |map _=>cases py
     |it _ _=>cases py
     |row e1 se v1 l1 =>
      simp only[j4]at py
      cases py
      have ya:=h1.resolve_right fun h=>h.2 ⟨_,_,_,_,hb,hk⟩
      obtain⟨e0,v0,l0,h0,qD⟩:=(nr j ph).2 _ _ _ _ hb
      have h3:=qk j ph _ _ _ _ h0
      rw[ya]
      rcases hs.base.2 (ρ j) hi with h4|⟨_,h4⟩
      ·exact .inl h4
      ·exact absurd ⟨_,_,_,_,(by rw[qu j ph];exact h3),qD.symm.trans hk⟩ h4
    ·rcases h1 with h1|⟨⟨x,m,k,h1⟩,_⟩
     ·rw[h1]
      exact(hs.base.2 _ hi).imp id fun h=>⟨h.1,hkp⟩
     ·rcases hs.base.2 _ hi with h4|⟨h4,_⟩
      ·exact .inr ⟨⟨x,m,k,by rw[←h4,h1]⟩,hkp⟩
      ·exact .inr ⟨h4,hkp⟩
   ·have nf:∀j,j<m1→ρ j≠i:=fun j hj he=>hex ⟨j,hj,he⟩
    rw[xq i nf]
    refine(hs.base.2 i hi).imp id fun ⟨h1,h2⟩=>⟨h1,fun ⟨e,sz,v,l,hl,hk⟩=>h2 ⟨e,sz,v,l,?_,hk⟩⟩
    rw[←pW i nf];exact hl
 exact⟨v,Θ,rfl,qo,Of ren hv,nY,fun k hk nf=>oh k hk fun ho=>nf (wY k ho)⟩
theorem Ps{f:Nat}{g:Operand}{xs:List Operand}{ts:Array TypeId}{L args caps capF:List AV}{r:AV}{m0 m1:Nat}{hp0 hp1:Hp}(ι off:List Nat)(hc:B6 P f m0 hp0 args m1 hp1 r)
  (hg:(capF=[]∧caps=[]∧g=.func f)∨(capF=[]∧f<HE∧E9 σ g=some (.fo f caps))∨(caps=[]∧E9 σ g=some (.fo (HE+f) capF))) (pf:e8 (E9 σ) xs=some L) (hL:Ak (K0 ι) (K0 off) args=capF++L++caps) (ns:S0 m0 args=true) (hι:Nat.beq ι.length m0=true) (uC:Cj ι σ.nx=true) (oG:Do σ.hp hp0 ι off m0) (nr:Al hp0 hp1 m0=true)
  (rR:H8 m0 hp0=true) (om:H8 m1 hp1=true) (hm:Nat.ble m0 m1=true) (hd:Nat.blt d n=true)
  (k:B0 P E n ops rest (St.put ⟨σ.sl,σ.nx+(m1-m0),S5 (gρ ι m0 σ.nx) (gs ι m0 σ.hp) hp1++σ.hp⟩ d (M9 (gρ ι m0 σ.nx) (gs ι m0 σ.hp) r)) K) :
  B0 P E n ops (⟨some d,.call ⟨.value g,⟨xs⟩,ts⟩,ty,pos,after,none⟩::rest) σ K:=by
 intro a w ⟨θ,hs⟩
 obtain⟨hl,pS⟩:=Af hs.evT xs L pf
 let C:=cx E θ σ w
 obtain⟨cf,cs,px,pF,wT,nl,ow⟩:∃cf cs:List Value,a.eval g=.func (.func f) cf.toArray cs.toArray∧capF.length=cf.length∧(∀(j:Nat) x c,capF[j]?=some x→cf[j]?=some c→D7 C x c)∧caps.length=cs.length∧∀(j:Nat) x c,caps[j]?=some x→cs[j]?=some c→D7 C x c:=by
  rcases hg with ⟨rfl,rfl,rfl⟩|⟨rfl,hf,hg⟩|⟨rfl,hg⟩
  ·exact⟨[],[],rfl,rfl,fun j x c hx=>by simp at hx,rfl,fun j x c hx=>by simp at hx⟩
  ·have:=hs.ev hg
   generalize a.eval g=v at this
   cases this with
   |im hi=>cases hi
   |fo f l cs hl hc=>exact⟨[],cs,by unfold Rg;rw[if_pos hf],rfl,fun j x c hx=>by simp at hx,hl,hc⟩
  ·have:=hs.ev hg
   generalize a.eval g=v at this
   generalize hF:HE+f=F at this
   cases this with
   |im hi=>cases hi
   |fo F l cs hl hc=>exact⟨cs,[],by unfold Rg;rw[if_neg (by omega),←hF,Nat.add_sub_cancel_left],hl,hc,rfl,fun j x c hx=>by simp at hx⟩
 have vA:L.length=(xs.map a.eval).length:=by rw[List.length_map,←hl]
 have hr:∀(j:Nat) x v,(capF++L++caps)[j]?=some x→(cf++xs.map a.eval++cs)[j]?=some v→D7 C x v :=
  aH (by rw[List.length_append,List.length_append,pF,vA]) (aH pF wT pS) ow
 unfold wpList
 rw[if_pos (by simp[Region.wanted])]
 left
 simp only[Oper.wp]
 rw[Zj hc.1 px]
 simp only[Oper.upon]
 rw[show cf.toArray++(xs.map a.eval).toArray++cs.toArray=(cf++xs.map a.eval++cs).toArray by simp]
 refine Calls.mono (HX (Cl:=fun vs w R=>Calls P f vs.toArray w R) (fun h hr=>Calls.mono h hr) (args:=args) (r:=r) (hp1:=hp1) ι off hs (by rw[List.length_append,List.length_append,List.length_append,List.length_append,vA,pF,nl]) hr hL ns hι uC oG nr rR om hm fun X θc hX ht hb _ _ _ hl hv=>hc.2 X θc w _ hX ht hb hl hv) ?_
 rintro e w' ⟨v,Θ,rfl,qo,oz,_⟩
 exact k _ _ ⟨Θ,qo.put (Nat.blt_eq▸hd) oz⟩
theorem Y9{f:Nat}{xs:List Operand}{ts:Array TypeId}{L args:List AV}{r:AV}{m0 m1:Nat}{hp0 hp1:Hp}(ι off:List Nat)(hc:B6 P f m0 hp0 args m1 hp1 r)
  (pf:e8 (E9 σ) xs=some L) (hL:Ak (K0 ι) (K0 off) args=L) (ns:S0 m0 args=true) (hι:Nat.beq ι.length m0=true) (uC:Cj ι σ.nx=true) (oG:Do σ.hp hp0 ι off m0) (nr:Al hp0 hp1 m0=true)
  (rR:H8 m0 hp0=true) (om:H8 m1 hp1=true) (hm:Nat.ble m0 m1=true) (hd:Nat.blt d n=true)
  (k:B0 P E n ops rest (St.put ⟨σ.sl,σ.nx+(m1-m0),S5 (gρ ι m0 σ.nx) (gs ι m0 σ.hp) hp1++σ.hp⟩ d (M9 (gρ ι m0 σ.nx) (gs ι m0 σ.hp) r)) K) :
  B0 P E n ops (⟨some d,.call ⟨.value (.func f),⟨xs⟩,ts⟩,ty,pos,after,none⟩::rest) σ K :=
 Ps (caps:=[]) (capF:=[]) ι off hc (.inl ⟨rfl,rfl,rfl⟩) pf (by rw[List.append_nil,List.nil_append];exact hL) ns hι uC oG nr rR om hm hd k
theorem F6{f:Nat}{xs:List Operand}{ts:Array TypeId}{L args:List AV}{r:AV}{m0 m1:Nat}{hp0 hp1:Hp}(ι off:List Nat)(hc:B6 P f m0 hp0 args m1 hp1 r)
  (pf:e8 (E9 σ) xs=some L) (hL:Ak (K0 ι) (K0 off) args=L) (ns:S0 m0 args=true) (hι:Nat.beq ι.length m0=true) (uC:Cj ι σ.nx=true) (oG:Do σ.hp hp0 ι off m0) (nr:Al hp0 hp1 m0=true)
  (rR:H8 m0 hp0=true) (om:H8 m1 hp1=true) (hm:Nat.ble m0 m1=true) (hd:Nat.blt d n=true)
  (k:S3 (M9 (gρ ι m0 σ.nx) (gs ι m0 σ.hp) r) fun r2=>S4 (S5 (gρ ι m0 σ.nx) (gs ι m0 σ.hp) hp1++σ.hp) fun hp2=>G5 (σ.nx+(m1-m0)) fun sV=>B0 P E n ops rest (St.put ⟨σ.sl,sV,hp2⟩ d r2) K) :
  B0 P E n ops (⟨some d,.call ⟨.value (.func f),⟨xs⟩,ts⟩,ty,pos,after,none⟩::rest) σ K :=
 Y9 ι off hc pf hL ns hι uC oG nr rR om hm hd (D8 (Q9 (Ee k)))
theorem WK{f:Nat}{g:Operand}{xs:List Operand}{ts:Array TypeId}{L args caps:List AV}{r:AV}{m0 m1:Nat}{hp0 hp1:Hp}(ι off:List Nat)(hc:B6 P f m0 hp0 args m1 hp1 r)
  (hg:E9 σ g=some (.fo f caps)) (pf:e8 (E9 σ) xs=some L) (hL:Ak (K0 ι) (K0 off) args=L++caps) (ns:S0 m0 args=true) (hι:Nat.beq ι.length m0=true) (uC:Cj ι σ.nx=true) (oG:Do σ.hp hp0 ι off m0) (nr:Al hp0 hp1 m0=true)
  (rR:H8 m0 hp0=true) (om:H8 m1 hp1=true) (hm:Nat.ble m0 m1=true) (hd:Nat.blt d n=true)
  (k:S3 (M9 (gρ ι m0 σ.nx) (gs ι m0 σ.hp) r) fun r2=>S4 (S5 (gρ ι m0 σ.nx) (gs ι m0 σ.hp) hp1++σ.hp) fun hp2=>G5 (σ.nx+(m1-m0)) fun sV=>B0 P E n ops rest (St.put ⟨σ.sl,sV,hp2⟩ d r2) K) (hf:Nat.blt f HE=true:=by rfl) :
  B0 P E n ops (⟨some d,.call ⟨.value g,⟨xs⟩,ts⟩,ty,pos,after,none⟩::rest) σ K :=
 Ps (capF:=[]) ι off hc (.inr (.inl ⟨rfl,by simpa using hf,hg⟩)) pf (by rw[List.nil_append];exact hL) ns hι uC oG nr rR om hm hd (D8 (Q9 (Ee k)))
theorem Lu{f:Nat}{xs:List Operand}{caps l:List AV}(ha:e8 (E9 σ) xs=some caps)(hd:Nat.blt d n=true)(k:B0 P E n ops rest (σ.put d (.fo f caps)) K)(hf:Nat.blt f HE=true:=by rfl):
  Z7 P E n ops ⟨some d,.makeFunc (.func f) ⟨[]⟩ ⟨xs⟩,ty,pos,after,none⟩ rest l σ K :=
 ⟨Ip (SC ha (by simpa using hf)) hd k⟩
end rules
section pure
variable {P:Program} {E:Env} {nx:Nat} {hp:Hp} {ev:Operand→Option AV} {ty:TypeId} {x y:Operand} {F:AV→Prop} {T T2:TypeId}
theorem kF{av:AV}(hx:ev x=some av):Dw P E nx hp ev (.move x) ty av:=fun _ _ _ _ _ _ h=>⟨_,fun _=>rfl,h.rel hx⟩
theorem dK{av:AV}(hx:ev x=some av):Dw P E nx hp ev (.assign x) ty av:=fun _ _ _ _ _ _ h=>⟨_,fun _=>rfl,h.rel hx⟩
theorem SY{op:BinOp}{k:IntKind}{a b:Int}{r:Value}(hx:ev x=some (.v (.int k a)))(hy:ev y=some (.v (.int k b)))(hr:CZ op k a b=some r):
  Dw P E nx hp ev (.binOp op T x y T2) ty (.v r) :=
 fun _ _ _ _ _ _ h=>⟨r,fun w=>J8 (by rw[(h.rel hx).val,(h.rel hy).val];exact z8 ..) (by rw[(h.rel hx).val,(h.rel hy).val];exact Rn hr T w),.im (.v _)⟩
theorem kG{a b:List UInt8}(hx:ev x=some (.str a))(hy:ev y=some (.str b))(hr:a.length+b.length≤9223372036854775807):
  Dw P E nx hp ev (.binOp .add T x y T2) ty (.str (a++b)) :=
 fun _ _ _ _ _ _ h=>⟨_,fun w=>J8 (by rw[(h.rel hx).sval,(h.rel hy).sval];exact GL ..) (by rw[(h.rel hx).sval,(h.rel hy).sval];exact Ro hr T w),.im (.str _)⟩
theorem VH{S f off sz:Nat}[tf:D9 P S f off sz]{i o:Nat}(hx:ev x=some (.ref i o))(hz:Nat.blt 0 sz=true):Dw P E nx hp ev (.fieldAddr S x f) ty (.ref i (o+off)) :=
 fun _ _ _ θ a w h=>by
  obtain⟨b,hθ,hv,nz⟩:=j8 (h.rel hx)
  refine⟨.pointer (some ⟨b,o+off,none⟩),fun w=>?_,.ref i _ b nz hθ⟩
  simp only[execOp,hv,Sem.run_bind,AA (P:=P) (S:=S) (f:=f) (off:=off) (sz:=sz) (Nat.blt_eq▸hz),Result.andThen_ok,G7]
  rfl
theorem SZ{S f off sz:Nat}[tf:D9 P S f off sz]{l:List AV}(hx:ev x=some (.iptr l))(hz:Nat.blt 0 sz=true):Dw P E nx hp ev (.fieldAddr S x f) ty (.iptr (l.drop off)) :=
 fun _ _ _ θ a w h=>by
  obtain⟨p,g,hv,hu,hc,hr⟩:=FF (h.rel hx)
  refine⟨.pointer (some (p.add off)),fun w=>?_,.im (.iptr _ _ (fun j=>g (off+j)) (fun hne=>?_) (fun j hj=>?_) fun j u qe=>?_)⟩
  ·simp only[execOp,hv,Sem.run_bind,AA (P:=P) (S:=S) (f:=f) (off:=off) (sz:=sz) (Nat.blt_eq▸hz),Result.andThen_ok]
   rfl
  ·rw[k8];exact hu (by rintro rfl;simp at hne)
  ·rw[DW];exact hc _ (by simp at hj;omega)
  ·rw[List.getElem?_drop]at qe;exact hr _ _ qe
theorem VI{S f off sz:Nat}[tf:D9 P S f off sz]{i ver k o e wb:Nat}{l:List (List AV)}(hx:ev x=some (.elt i ver k o))(hb:A5 hp i=some (.row e wb ver l))(hz:Nat.blt 0 sz=true):Dw P E nx hp ev (.fieldAddr S x f) ty (.elt i ver k (o+off)) :=
 fun _ _ _ θ a w h=>by
  obtain⟨g,m,cap,hθ,hv,nz⟩:=CJ (h.rel hx) hb
  refine⟨.pointer (some ⟨g,k*wb+o+off,none⟩),fun w=>?_,.elt i ver k _ _ nz fun e' nU v' l' oE=>?_⟩
  ·simp only[execOp,hv,Sem.run_bind,AA (P:=P) (S:=S) (f:=f) (off:=off) (sz:=sz) (Nat.blt_eq▸hz),Result.andThen_ok,G7]
   rfl
  ·have:A5 hp i=some (.row e' nU v' l'):=oE
   rw[hb]at this
   cases this
   exact⟨Nat.le_refl _,fun _=>⟨g,m,cap,hθ,by rw[Nat.add_assoc]⟩⟩
theorem mD{b:Bool}(hx:ev x=some (.v (.bool b))):Dw P E nx hp ev (.unOp .not T x) ty (.v (.bool (!b))) :=
 fun _ _ _ _ _ _ h=>⟨_,fun w=>by simp[execOp,Op.unary,(h.rel hx).val,Sem.run_bind,Sem.run_pure],.im (.v _)⟩
theorem aI[ts:j3 P T]{l:List UInt8}(hx:ev x=some (.str l)):Dw P E nx hp ev (.call ⟨.builtin .len,#[x],#[T]⟩) ty (.i l.length) :=
 fun _ _ _ _ _ _ h=>⟨_,fun w=>by rw[Q7,(h.rel hx).sval];simp[builtin,run_len_string w T ty _ ts.out,Sem.run_bind,Sem.run_pure,goInt,ByteArray.size],.im (.v _)⟩
theorem dL{e sz:Nat}[ts:L7 P T e sz]{nU:Nat}{l:List (List AV)}(hx:ev x=some (.sl nU l)):Dw P E nx hp ev (.call ⟨.builtin .len,#[x],#[T]⟩) ty (.i l.length) :=
 fun _ _ _ _ _ _ h=>by
  obtain⟨_,p,cap,hv⟩:=Ze (h.rel hx)
  exact⟨_,fun w=>by rw[Q7,hv];simp[builtin,run_len_slice ts.out.1,Sem.run_bind,Sem.run_pure],.im (.v _)⟩
theorem aJ{e sz:Nat}[ts:L7 P T e sz]{i ver len e' nU:Nat}{l:List (List AV)}(hx:ev x=some (.row i ver len))(hb:A5 hp i=some (.row e' nU ver l)):Dw P E nx hp ev (.call ⟨.builtin .len,#[x],#[T]⟩) ty (.i len) :=
 fun _ _ _ θ a w h=>by
  obtain⟨hl,hv,_⟩:=p8 (h.rel hx) hb
  obtain⟨xs,nT,_⟩:=h.row hb
  obtain⟨p,cap,hs,_⟩:=j9 nT
  have oY:a.eval x=.slice p l.length cap:=by rw[hv];exact hs
  exact⟨_,fun w=>by rw[Q7,oY,hl];simp[builtin,run_len_slice ts.out.1,Sem.run_bind,Sem.run_pure],.im (.v _)⟩
theorem VJ{e sz:Nat}[ts:L7 P T e sz]{i ver len e':Nat}{l:List (List AV)}{k:IntKind}{j:Int}(hx:ev x=some (.row i ver len))(hb:A5 hp i=some (.row e' sz ver l))(hy:ev y=some (.v (.int k j)))(h0:0≤j)(h1:j<len):
  Dw P E nx hp ev (.indexAddr T x y) ty (.elt i ver j.toNat 0) :=
 fun _ _ _ θ a w h=>by
  obtain⟨hl,hv,nz⟩:=p8 (h.rel hx) hb
  obtain⟨xs,nT,hsz,_⟩:=h.row hb
  have hj:=(h.rel hy).val
  rcases nT.2 with ⟨hθ,hn⟩|⟨g,cap,nV,hθ,_,hg,_⟩
  ·omega
  ·have oY:a.eval x=.slice (some ⟨g,0,none⟩) l.length cap:=by rw[hv];exact hθ
   refine⟨.pointer (some ⟨g,j.toNat*sz,none⟩),fun w=>?_,.elt i ver _ 0 _ nz fun e2 ov v2 l2 oF=>?_⟩
   ·simp only[execOp,oY,hj,Sem.run_bind]
    rw[Dk (P:=P) (T:=T) (e:=e) (sz:=sz) h0 (by omega),G7,Nat.zero_add]
    rfl
   ·have:A5 hp i=some (.row e2 ov v2 l2):=oF
    rw[hb]at this
    cases this
    exact⟨Nat.le_refl _,fun _=>⟨g,l.length,cap,hθ,by simp⟩⟩
theorem Xq{e sz:Nat}[ts:L7 P T e sz]{l:List (List AV)}{k:IntKind}{i:Int}{el:List AV}(hx:ev x=some (.sl sz l))(hy:ev y=some (.v (.int k i)))(h0:0≤i)(nN:l[i.toNat]?=some el):Dw P E nx hp ev (.indexAddr T x y) ty (.iptr el) :=
 fun _ _ _ θ a w h=>by
  have nR:i.toNat<l.length:=(List.getElem?_eq_some_iff.1 nN).1
  have hi:=(h.rel hy).val
  rcases FG (h.rel hx)with ⟨_,e⟩|⟨p,cap,f,hv,h3,h4,h5,h6,h7,h8⟩
  ·subst e;simp at nR
  ·have hsz:=h6 _ (List.mem_of_getElem? nN)
   refine⟨.pointer (some (p.add (i.toNat*sz))),fun w=>?_,.im (.iptr _ _ (f i.toNat) (fun hne=>?_) (fun j hj=>?_) fun j u hu=>h8 _ _ nN j u hu)⟩
   ·simp only[execOp,hv,hi,Sem.run_bind]
    rw[Dk (P:=P) (T:=T) (e:=e) (sz:=sz) h0 (by omega)]
    rfl
   ·rw[k8]
    refine h5 (by intro e;simp[e]at nR) ?_
    have h9:=List.length_pos_iff.2 hne
    omega
   ·rw[DW]
    exact h7 _ nR _ (by omega)
def dM:Op→Bool
 |.move _|.assign _|.fieldAddr ..|.build ..=>true
 |.binOp .quo ..|.binOp .rem ..|.binOp .shl ..|.binOp .shr ..=>false
 |.binOp ..=>true
 |_=>false
def aK(ev:Operand→Option AV):Op→Bool
 |.indexAddr _ x _=>match ev x with
  |some (.row ..)=>true
  |some (.sl ..)=>true
  |_=>false
 |.call ⟨.builtin .len,⟨[x]⟩,_⟩=>match ev x with
  |some (.row ..)=>true
  |some (.sl ..)=>true
  |some (.str ..)=>true
  |_=>false
 |.unOp .not _ x=>match ev x with
  |some (.v (.bool _))=>true
  |_=>false
 |op=>dM op
def PV(P:Program)(op:Op)(ev:Operand→Option AV)(hp:Hp)(F:AV→Prop):Prop :=
 match op with
 |.move x=>U7 (ev x) F
 |.assign x=>U7 (ev x) F
 |.binOp op _ x y _=>match op,ev x,ev y with
  |.add,some (.v (.int .i64 a)),some (.v (.int .i64 b))=>F5 (-9223372036854775808≤a+b∧a+b≤9223372036854775807) (F (.v (.int .i64 (a+b))))
  |.sub,some (.v (.int .i64 a)),some (.v (.int .i64 b))=>F5 (-9223372036854775808≤a-b∧a-b≤9223372036854775807) (F (.v (.int .i64 (a-b))))
  |.add,some (.str a),some (.str b)=>F5 (a.length+b.length≤9223372036854775807) (F (.str (a++b)))
  |op,some (.v (.int k a)),some (.v (.int k' b))=>cond (decide (k=k')) (match CZ op k a b with
   |some r=>F (.v r)
   |none=>False) False
  |_,_,_=>False
 |.fieldAddr S x f=>Oc P S f fun off sz=>cond (Nat.blt 0 sz) (match ev x with
  |some (.ref i o)=>F (.ref i (o+off))
  |some (.iptr l)=>F (.iptr (l.drop off))
  |some (.elt i ver k o)=>(match A5 hp i with
   |some (.row _ _ oC _)=>F5 (ver=oC) (F (.elt i ver k (o+off)))
   |_=>False)
  |_=>False) False
 |.build T ⟨parts⟩=>match BU ev parts with
  |some ps=>JB P T fun zs pl=>Dy hp ps (U7 ((Bg pl zs ps).map AV.agg) F)
  |none=>False
 |.indexAddr T x y=>(match ev x,ev y with
  |some (.sl sz l),some (.v (.int _ i))=>Ic P T fun _ nU=>cond (Nat.beq sz nU) (O6 l i fun el=>F (.iptr el)) False
  |some (.row r ver len),some (.v (.int _ i))=>(match A5 hp r with
   |some (.row _ sz oC _)=>F5 (ver=oC) (Ic P T fun _ nU=>cond (Nat.beq sz nU) (F5 (0≤i∧i<len) (F (.elt r ver i.toNat 0))) False)
   |_=>False)
  |_,_=>False)
 |.call ⟨.builtin .len,⟨[x]⟩,⟨[T]⟩⟩=>(match ev x with
  |some (.sl _ l)=>Ic P T fun _ _=>Ob l fun m=>F (.i m)
  |some (.str s)=>Dn P T (F (.i s.length))
  |some (.row r ver len)=>(match A5 hp r with
   |some (.row _ _ oC _)=>F5 (ver=oC) (Ic P T fun _ _=>F (.i len))
   |_=>False)
  |_=>False)
 |.unOp .not _ x=>(match ev x with
  |some (.v (.bool b))=>F (.v (.bool (!b)))
  |_=>False)
 |_=>False
theorem kH{op:Op}(h:PV P op ev hp F):∃av,Dw P E nx hp ev op ty av∧F av:=by
 unfold PV at h
 split at h
 ·obtain⟨a,hx,h⟩:=I2 h;exact⟨a,kF hx,h⟩
 ·obtain⟨a,hx,h⟩:=I2 h;exact⟨a,dK hx,h⟩
 ·split at h
  ·rename_i hx hy;exact⟨_,SY hx hy (by simp only[CZ,O5 h.h]),h.k⟩
  ·rename_i hx hy;exact⟨_,SY hx hy (by simp only[CZ,O5 h.h]),h.k⟩
  ·rename_i hx hy;exact⟨_,kG hx hy h.h,h.k⟩
  ·rename_i hx hy
   obtain⟨hk,hq⟩:=cond_false h
   have hk:=of_decide_eq_true hk
   subst hk
   split at hq
   ·rename_i hr;exact⟨_,SY hx hy hr,hq⟩
   ·exact hq.elim
  ·exact h.elim
 ·obtain⟨⟨off,sz,tf,h⟩⟩:=h
  obtain⟨hz,h⟩:=cond_false h
  split at h
  ·rename_i hx;exact⟨_,VH (off:=off) (sz:=sz) hx hz,h⟩
  ·rename_i hx;exact⟨_,SZ (off:=off) (sz:=sz) hx hz,h⟩
  ·rename_i hx
   split at h
   ·rename_i hb
    obtain⟨rfl,h⟩:=h
    exact⟨_,VI (off:=off) (sz:=sz) hx hb hz,h⟩
   ·exact h.elim
  ·exact h.elim
 ·split at h
  ·rename_i ps sG
   obtain⟨⟨zs,pl,tz,tp,h⟩⟩:=h
   obtain⟨hf,h⟩:=o0 h
   obtain⟨a,ha,h⟩:=I2 h
   rw[Option.map_eq_some_iff]at ha
   obtain⟨l,hl,rfl⟩:=ha
   exact⟨_,WA (T:=_) sG hf hl,h⟩
  ·exact h.elim
 ·split at h
  ·rename_i hx hy
   obtain⟨⟨e,nU,ts,h⟩⟩:=h
   obtain⟨hc,hq⟩:=cond_false h
   have hc:=Nat.eq_of_beq_eq_true hc
   subst hc
   obtain⟨h0,h1,hk⟩:=hq
   rename_i sz l kk i
   have nR:i.toNat<l.length:=by omega
   have nN:l[i.toNat]?=some l[i.toNat]:=List.getElem?_eq_getElem nR
   exact⟨_,Xq (e:=e) hx hy h0 nN,hk _ nN⟩
  ·rename_i hx hy
   split at h
   ·rename_i hb
    obtain⟨rfl,h⟩:=h
    obtain⟨⟨e,nU,ts,h⟩⟩:=h
    obtain⟨hc,hq⟩:=cond_false h
    have hc:=Nat.eq_of_beq_eq_true hc
    subst hc
    exact⟨_,VJ (e:=e) hx hb hy hq.h.1 hq.h.2,hq.k⟩
   ·exact h.elim
  ·exact h.elim
 ·split at h
  ·rename_i hx
   obtain⟨⟨e,nU,ts,h⟩⟩:=h
   exact⟨_,dL (e:=e) (sz:=nU) hx,h.k⟩
  ·rename_i hx
   obtain⟨ts,h⟩:=h
   exact⟨_,aI hx,h⟩
  ·rename_i hx
   split at h
   ·rename_i hb
    obtain⟨rfl,h⟩:=h
    obtain⟨⟨e,nU,ts,h⟩⟩:=h
    exact⟨_,aJ (e:=e) (sz:=nU) hx hb,h⟩
   ·exact h.elim
  ·exact h.elim
 ·split at h
  ·rename_i hx;exact⟨_,mD hx,h⟩
  ·exact h.elim
 ·exact h.elim
end pure
def k5(ops:Array Oper):List (List Nat):=ops.toList.map fun o=>(o.after.toList.filter fun e=>Region.binds .any e).map (·.on)
def Z8(all:List Bool):Nat→List (List Nat)→List Bool→List Nat
 |k,e::es,b::bs=>cond b (Z8 all (k+1) es bs) (cond (e.all fun j=>all.getD j false) (k::Z8 all (k+1) es bs) (Z8 all (k+1) es bs))
 |_,_,_=>[]
theorem Ck{all:List Bool}:∀(es:List (List Nat)) (bs:List Bool) (k i:Nat),i∈Z8 all k es bs↔∃j e,i=k+j∧es[j]?=some e∧bs[j]?=some false∧(∀x∈e,all.getD x false=true)
 |[],bs,k,i=>by simp[Z8]
 |e::es,[],k,i=>by simp[Z8]
 |e::es,b::bs,k,i=>by
  have ih:=Ck (all:=all) es bs (k+1) i
  have key:(∃j e',i=k+j∧(e::es)[j]?=some e'∧(b::bs)[j]?=some false∧(∀x∈e',all.getD x false=true))↔(i=k∧b=false∧∀x∈e,all.getD x false=true)∨i∈Z8 all (k+1) es bs:=by
   rw[ih]
   constructor
   ·rintro ⟨j,e',h1,h2,h3,h4⟩
    cases j with
    |zero=>simp at h2 h3;subst h2;exact .inl ⟨by omega,h3,h4⟩
    |succ j=>exact .inr ⟨j,e',by omega,by simpa using h2,by simpa using h3,h4⟩
   ·rintro (⟨h1,h2,h3⟩|⟨j,e',h1,h2,h3,h4⟩)
    ·exact⟨0,e,by omega,rfl,by simp[h2],h3⟩
    ·exact⟨j+1,e',by omega,by simpa using h2,by simpa using h3,h4⟩
  rw[key]
  have oX:(e.all fun j=>all.getD j false)=true↔∀x∈e,all.getD x false=true:=by rw[List.all_eq_true]
  cases b with
  |true=>simp[Z8]
  |false =>
   simp only[Z8,Bool.cond_false]
   cases ha:e.all fun j=>all.getD j false with
   |true =>
    rw[ha]at oX
    simp only[true_iff]at oX
    simp only[Bool.cond_true,List.mem_cons]
    constructor
    ·intro h
     rcases h with h|h
     ·exact Or.inl ⟨h,by first|trivial|rfl,by first|exact oX|trivial⟩
     ·exact Or.inr h
    ·intro h
     rcases h with h|h
     ·exact Or.inl h.1
     ·exact Or.inr h
   |false =>
    rw[ha]at oX
    simp only[Bool.false_eq_true,false_iff]at oX
    simp only[Bool.cond_false]
    constructor
    ·exact Or.inr
    ·intro h
     rcases h with h|h
     ·exact absurd h.2.2 oX
     ·exact h
theorem V2{ops:Array Oper}{l:List Bool}(hl:l.length=ops.size)(i:Nat):i∈Region.ready .any ops l.toArray↔i∈Z8 l 0 (k5 ops) l:=by
 rw[mem_ready,Ck]
 constructor
 ·rintro ⟨h1,o,ho,h2⟩
  have nR:i<ops.size:=(Array.getElem?_eq_some_iff.1 ho).1
  refine⟨i,_,by omega,by simp[k5,ho];rfl,?_,?_⟩
  ·have pQ:i<l.length:=by omega
   simp[pQ]at h1 ⊢
   exact h1
  ·intro x hx
   simp only[List.mem_map,List.mem_filter,Array.mem_toList_iff]at hx
   obtain⟨e,⟨he,hb⟩,rfl⟩:=hx
   have:=h2 e he hb
   simpa using this
 ·rintro ⟨j,e,h0,h1,h2,h3⟩
  have:j=i:=by omega
  subst this
  simp only[k5,List.getElem?_map,Option.map_eq_some_iff,Array.getElem?_toList]at h1
  obtain⟨o,ho,rfl⟩:=h1
  refine⟨by simp[h2],o,ho,fun e he hb=>?_⟩
  have:=h3 e.on (List.mem_map.2 ⟨e,List.mem_filter.2 ⟨by simpa using he,hb⟩,rfl⟩)
  simpa using this
theorem Lv{P:Program}{o:Oper}{a:Act}{w:World}{K K':Act→World→Prop}{Q Q':Exit→Act→World→Prop}(hQ:∀e a w,Q e a w→e=.normal)(h:∀a w,K a w→K' a w)(hh:o.wp P a w K Q):o.wp P a w K' Q':=by
 unfold Oper.wp at *
 generalize (execOp a.eval o).run P w=r at *
 cases r with
 |ok n w' =>
  cases n<;>simp only[Oper.upon]at hh ⊢ <;>
   first
    |exact h _ _ hh
    |exact Calls.mono hh (fun e qq he=>by
      cases e with
      |returned v=>exact h _ _ he
      |panicked c=>exact absurd (hQ _ _ _ he) (by simp)
      |outgrown=>obtain⟨a,w,hx⟩:=he;exact absurd (hQ _ _ _ hx) (by simp))
    |exact Rows.mono hh (fun _ _ he=>h _ _ he)
 |halt x w' =>
  cases x<;>simp only[Oper.upon]at hh ⊢
  exact absurd (hQ _ _ _ hh) (by simp)
theorem Og{P:Program}{ops:Array Oper}{Q Q':Exit→Act→World→Prop}(hQ:∀e a w,Q e a w→e=.normal)(h:∀a w,Q .normal a w→Q' .normal a w):∀(nS:Nat) (listed:Array Bool) (a:Act) (w:World),wpAny P .any ops Q nS listed a w→wpAny P .any ops Q' nS listed a w:=by
 intro nS
 induction nS with
 |zero=>intro l a w hx;exact⟨hx.1,h a w hx.2⟩
 |succ nS ih =>
  intro l a w hx
  refine⟨fun hr=>h a w (hx.1 hr),fun i hi=>?_⟩
  have h1:=hx.2 i hi
  unfold wpOp at h1 ⊢
  split at h1
  ·exact ih _ _ _ h1
  ·split at h1
   ·rename_i hw
    rw[if_pos hw]
    rcases h1 with h1|⟨_,a1,w1,hx⟩
    ·exact .inl (Lv hQ (fun a' w' hn=>ih _ _ _ hn) h1)
    ·exact absurd (hQ _ _ _ hx) (by simp)
   ·rename_i hw
    rw[if_neg hw]
    exact ih _ _ _ h1
section rules
variable {P:Program} {E:Env} {n:Nat} {ops:Array Oper} {σ:St} {K:St→Prop} {Q:Exit→St→Prop}
def D2(P:Program)(E:Env)(n:Nat)(ops:Array Oper)(nS:Nat)(l:List Bool)(σ:St)(K:St→Prop):Prop :=
 ∀a w,e7 E n σ a w→wpAny P .any ops (fun e a' w'=>e=.normal∧∃σ',K σ'∧e7 E n σ' a' w') nS l.toArray a w
def dN(P:Program)(E:Env)(n:Nat)(ops:Array Oper)(nS:Nat)(l:List Bool)(σ:St)(K:St→Prop):List Nat→Prop
 |[]=>True
 |i::r=>(match ops[i]? with
  |some o=>B0 P E n ops [o] σ fun σ'=>D2 P E n ops nS (l.set i true) σ' K
  |none=>False)∧dN P E n ops nS l σ K r
theorem Sa{nS:Nat}{l:List Bool}:∀{r:List Nat},dN P E n ops nS l σ K r→∀i∈r,∃o,ops[i]?=some o∧B0 P E n ops [o] σ fun σ'=>D2 P E n ops nS (l.set i true) σ' K
 |[],_,i,hi=>by cases hi
 |j::r,h,i,hi=>by
  rcases List.mem_cons.1 hi with rfl|hi
  ·have:=h.1
   split at this
   ·rename_i o ho;exact⟨o,ho,this⟩
   ·exact this.elim
  ·exact Sa h.2 i hi
structure Xr(P:Program)(E:Env)(n:Nat)(ops:Array Oper)(nS:Nat)(l:List Bool)(σ:St)(K:St→Prop)(r:List Nat):Prop where
 h:dN P E n ops nS l σ K r
def JM(ev:Operand→Option AV)(ops:Array Oper)(l:List Bool):List Nat→Option Nat
 |[]=>none
 |i::r=>match ops[i]? with
  |some ⟨some _,op,_,_,_,none⟩=>cond (aK ev op) (some i) (JM ev ops l r)
  |_=>JM ev ops l r
structure Xs(p:Prop)(A:Prop):Prop where
 h:p
 k:A
def kI(P:Program)(E:Env)(n:Nat)(ops:Array Oper)(nS:Nat)(l:List Bool)(σ:St)(K:St→Prop):Prop :=
 match Z8 l 0 (k5 ops) l with
 |[]=>K σ
 |i::r=>match nS with
  |0=>False
  |nS+1=>match JM (E9 σ) ops l (i::r)with
   |some i=>match ops[i]? with
    |some ⟨some d,op,_,_,_,none⟩=>Xs (Region.free .any ops l.toArray i=true∧i∈Z8 l 0 (k5 ops) l) (cond (Nat.blt d n) (PV P op (E9 σ) σ.hp fun av=>D2 P E n ops nS (l.set i true) (σ.put d av) K) False)
    |_=>False
   |none=>Xr P E n ops nS l σ K (i::r)
theorem U8(l:List Bool)(i:Nat):l.toArray.setIfInBounds i true=(l.set i true).toArray:=by simp
theorem gb{nS:Nat}{l:List Bool}(yo:Region.noSelect ops=true)(hl:Nat.beq l.length ops.size=true)(h:kI P E n ops nS l σ K):D2 P E n ops nS l σ K:=by
 have hl:=Nat.eq_of_beq_eq_true hl
 unfold kI at h
 split at h
 ·rename_i hr
  intro a w hs
  have pj:Region.ready .any ops l.toArray=[]:=by
   cases hx:Region.ready .any ops l.toArray with
   |nil=>rfl
   |cons i r=>have:=(V2 hl i).1 (by rw[hx];simp);rw[hr]at this;cases this
  exact wpAny_done pj ⟨rfl,σ,h,hs⟩ _
 ·rename_i i r hr
  split at h
  ·exact h.elim
  ·rename_i nS
   split at h
   ·rename_i i' tr
    split at h
    ·rename_i d op ty pos after pd
     obtain⟨⟨hf,yt⟩,h⟩:=h
     obtain⟨hd,h⟩:=cond_false h
     obtain⟨av,hp,h⟩:=kH (E:=E) (nx:=σ.nx) (ty:=ty) h
     rintro a w ⟨θ,hs⟩
     obtain⟨v,tR,rJ⟩:=hp (some d) pos after θ a w hs.evT
     refine wpAny_take pd yo hf (by simpa using (V2 hl i').2 yt) (fun c a w hc=>by cases hc.1) (v:=v) (.inl ⟨by simp[Region.wanted],tR⟩) ?_
     rw[U8]
     exact h _ _ ⟨θ,hs.put (Nat.blt_eq▸hd) rJ⟩
    ·exact h.elim
   ·intro a w hs
    refine⟨fun pj=>?_,fun j hj=>?_⟩
    ·have:=(V2 hl i).2 (by rw[hr];simp)
     rw[pj]at this
     cases this
    ·have np:=(V2 hl j).1 hj
     rw[hr]at np
     obtain⟨o,ho,hA⟩:=Sa h.h j np
     have hw:=hA a w hs
     unfold wpOp
     simp only[ho]
     unfold wpList at hw
     split
     ·rename_i pC
      rw[if_pos pC]at hw
      rcases hw with hw|⟨_,a1,w1,hx⟩
      ·refine .inl (Lv (fun e a w h=>h.1) (fun a' w' hn=>?_) hw)
       obtain⟨_,σ',hk,oP⟩:=hn
       rw[U8]
       exact hk a' w' oP
      ·exact absurd hx.1 (by simp)
     ·rename_i pC
      rw[if_neg pC]at hw
      obtain⟨_,σ',hk,oP⟩:=hw
      rw[U8]
      exact hk _ _ oP
def O3(ops:Array Oper):List Bool:=ops.toList.map fun _=>false
theorem JN{id:Nat}[hm:JH P](S:St)(h:D2 P E n ops ops.size (O3 ops) σ fun σ'=>St.le E n σ' S)(k:Q .normal S):Ch P E n id ops σ Q:=by
 refine⟨fun a w ⟨θ,hs⟩=>wp_region_any hm.out ?_⟩
 have hb:Below w.heap.size w { w with drawn:=w.drawn+1 }:=Below.drew (Below.refl _ _)
 have h1:=h a { w with drawn:=w.drawn+1 } ⟨θ,hs.below hb⟩
 have e:(O3 ops).toArray=Array.replicate ops.size false:=by
  apply Array.ext'
  simp[O3,List.map_const']
 rw[e]at h1
 exact Og (fun e a w hx=>hx.1) (fun a w hx=>by
  obtain⟨_,σ',ob,oP⟩:=hx
  exact⟨S,k,ob a w oP⟩) _ _ _ _ h1
theorem C2{σ1 σ2 σ3:St}(h:St.le E n σ1 σ2)(h':St.le E n σ2 σ3):St.le E n σ1 σ3:=fun a w hs=>h' a w (h a w hs)
theorem A7{σ1:St}:St.le E n σ1 σ1:=fun a w hs=>hs
def swp(i j k:Nat):Nat:=cond (Nat.beq k i) j (cond (Nat.beq k j) i k)
theorem Gm(i j k:Nat):swp i j k=if k=i then j else if k=j then i else k:=by
 unfold swp
 cases h1:Nat.beq k i with
 |true=>rw[if_pos (Nat.eq_of_beq_eq_true h1)];rfl
 |false =>
  have:k≠i:=by intro e;subst e;simp at h1
  rw[if_neg this]
  cases h2:Nat.beq k j with
  |true=>rw[if_pos (Nat.eq_of_beq_eq_true h2)];rfl
  |false =>
   have:k≠j:=by intro e;subst e;simp at h2
   rw[if_neg this];rfl
theorem DY(i j k:Nat):swp i j (swp i j k)=k:=by
 rw[Gm i j k]
 split
 ·rename_i h;subst h
  rw[Gm]
  split
  ·rename_i h;exact h
  ·rw[if_pos rfl]
 ·split
  ·rename_i h;subst h;rw[Gm,if_pos rfl]
  ·rename_i h1 h2;rw[Gm,if_neg h1,if_neg h2]
theorem BZ(i j:Nat){m:Nat}(h0:E.n0=m)(hb:(Nat.ble m i && Nat.ble m j && Nat.blt i σ.nx && Nat.blt j σ.nx)=true)(nR:H8 σ.nx σ.hp=true):
  St.le E n σ ⟨AY (M9 (swp i j) fun _=>0) σ.sl,σ.nx,S5 (swp i j) (fun _=>0) σ.hp⟩:=by
 simp only[Bool.and_eq_true,Nat.ble_eq,Nat.blt_eq]at hb
 obtain⟨⟨⟨hi0,ph⟩,hi⟩,hj⟩:=hb
 have xn:∀k,k<σ.nx→swp i j k<σ.nx:=fun k hk=>by
  rw[Gm]
  split
  ·exact hj
  ·split
   ·exact hi
   ·exact hk
 have uK:∀a b,a<σ.nx→b<σ.nx→swp i j a=swp i j b→a=b:=fun a b _ _ h=>by rw[←DY i j a,h,DY]
 have uj:∀q,q<σ.nx→A5 (S5 (swp i j) (fun _=>0) σ.hp) (swp i j q)=(A5 σ.hp q).map (j4 (swp i j) (fun _=>0) q):=by
  intro q hq
  have:=HV (ρ:=swp i j) (s:=fun _=>0) uK σ.hp [] nR q hq
  rw[List.append_nil]at this
  unfold A5
  rw[this]
  cases look σ.hp q with
  |none=>rfl
  |some b=>cases b<;>rfl
 have nf:∀k,σ.nx≤k→A5 (S5 (swp i j) (fun _=>0) σ.hp) k=none:=by
  intro k hk
  have:=Bs (ρ:=swp i j) (s:=fun _=>0) (m:=σ.nx) σ.hp [] nR k (fun q hq he=>by have:=xn q hq;omega)
  rw[List.append_nil]at this
  unfold A5
  rw[this]
  rfl
 rintro a w ⟨θ,hs⟩
 let σ':St:=⟨AY (M9 (swp i j) fun _=>0) σ.sl,σ.nx,S5 (swp i j) (fun _=>0) σ.hp⟩
 let θ':Th:=⟨fun k=>θ (swp i j k),fun k=>θ.N (swp i j k)⟩
 have back:∀k b,A5 σ'.hp k=some b→∃q b0,k=swp i j q∧q<σ.nx∧A5 σ.hp q=some b0∧b=j4 (swp i j) (fun _=>0) q b0∧∀z,FP θ' k b z→FP θ q b0 z:=by
  intro k b hb
  by_cases hk:k<σ.nx
  ·have pR:A5 (S5 (swp i j) (fun _=>0) σ.hp) (swp i j (swp i j k))=some b:=by rw[DY];exact hb
   rw[uj _ (xn k hk),Option.map_eq_some_iff]at pR
   obtain⟨b0,h1,h2⟩:=pR
   refine⟨swp i j k,b0,(DY i j k).symm,xn k hk,h1,h2.symm,fun z hz=>?_⟩
   subst h2
   unfold FP at hz ⊢
   rwa[Pp]at hz
  ·rw[nf k (by omega)]at hb;cases hb
 have ren:Ren (cx E θ σ w) (cx E θ' σ' w) (swp i j) (fun _=>0):=by
  refine⟨xn,fun k hk=>by show θ (swp i j (swp i j k))=_;rw[DY];rfl,fun k hk=>by show θ.N (swp i j (swp i j k))=_;rw[DY];rfl,rfl,fun k hu=>?_,fun q hq e sz v' l hl=>?_⟩
  ·rcases hu with hu|⟨q,b,hb,hk⟩
   ·exact .inl hu
   ·obtain⟨q',b0,rfl,hq,h1,h2,h3⟩:=back q b hb
    exact .inr ⟨q',b0,h1,h3 k hk⟩
  ·have h1:A5 (S5 (swp i j) (fun _=>0) σ.hp) (swp i j q)=some (.row e sz v' l):=hl
   rw[uj q hq,Option.map_eq_some_iff]at h1
   obtain⟨b,hb,py⟩:=h1
   cases b with
   |bx τ l=>cases py
   |map m=>cases py
   |it _ _=>cases py
   |row e1 se v1 l1 =>
    simp only[j4]at py
    cases py
    exact⟨v1,hb,rfl⟩
 refine⟨θ',hs.size,hs.defers,hs.fr,fun s x hx=>?_,fun k b hb=>?_,fun k1 k2 b1 b2 k h1 h2 pk ni=>?_,fun k b q hb hk=>?_,hs.X,⟨hs.base.1,fun k hk=>?_⟩⟩
 ·have pq:look (AY (M9 (swp i j) fun _=>0) σ.sl) s=some x:=hx
  rw[Cd,Option.map_eq_some_iff]at pq
  obtain⟨x0,h1,rfl⟩:=pq
  exact Of ren (hs.slots s x0 h1)
 ·obtain⟨q,b0,rfl,hq,h1,rfl,h3⟩:=back k b hb
  exact⟨xn q hq,WJ ren hq (hs.owns q b0 h1).2 fun e sz v l e2=>Gj nR (e2▸h1)⟩
 ·obtain⟨q1,c1,rfl,_,g1,_,g2⟩:=back k1 b1 h1
  obtain⟨q2,c2,rfl,_,g3,_,g4⟩:=back k2 b2 h2
  rw[hs.apart q1 q2 c1 c2 k g1 g3 (g2 k pk) (g4 k ni)]
 ·obtain⟨q1,c1,rfl,_,g1,_,g2⟩:=back k b hb
  exact hs.mine q1 c1 q g1 (g2 q hk)
 ·have:swp i j k=k:=by rw[Gm,if_neg (by omega),if_neg (by omega)]
  show θ (swp i j k)=_∨_
  rw[this]
  refine(hs.base.2 k hk).imp id fun ⟨h1,h2⟩=>⟨h1,fun ⟨e,sz,v,l,hl,ou⟩=>h2 ?_⟩
  obtain⟨q,b0,hq,_,pE,pn,_⟩:=back k _ hl
  have hqk:q=k:=(DY i j q).symm.trans ((congrArg (swp i j) hq.symm).trans this)
  subst hqk
  cases b0 with
  |bx τ l=>cases pn
  |map m=>cases pn
  |it _ _=>cases pn
  |row e1 se v1 l1 =>
   simp only[j4]at pn
   cases pn
   exact⟨_,_,_,_,pE,ou⟩
theorem kJ{nS:Nat}{l:List Bool}:Xr P E n ops nS l σ K []:=⟨trivial⟩
theorem kK{nS:Nat}{l:List Bool}{i:Nat}{r:List Nat}(h1:match ops[i]? with
  |some o=>B0 P E n ops [o] σ fun σ'=>D2 P E n ops nS (l.set i true) σ' K
  |none=>False) (h2:Xr P E n ops nS l σ K r):Xr P E n ops nS l σ K (i::r):=⟨⟨h1,h2.h⟩⟩
theorem kL{p A:Prop}(h:p)(k:A):Xs p A:=⟨h,k⟩
end rules
def MV(P:Program)(op:Op)(ev:Operand→Option AV)(F:AV→Prop):Prop :=
 match op with
 |.move x=>U7 (ev x) F
 |.assign x=>U7 (ev x) F
 |.binOp op T x y _=>SK P T op (ev x) (ev y) F
 |.load T x=>match ev x with
  |some (.iptr l)=>NF P T [] (some (.iptr l)) F
  |_=>False
 |.fieldAddr S x f=>match ev x with
  |some (.iptr l)=>Oc P S f fun off sz=>cond (Nat.blt 0 sz) (F (.iptr (l.drop off))) False
  |some (.ref i o)=>Oc P S f fun off sz=>cond (Nat.blt 0 sz) (F (.ref i (o+off))) False
  |_=>False
 |.indexAddr T x y=>match ev x with
  |some (.sl sz l)=>JF P T [] (some (.sl sz l)) (ev y) F
  |_=>False
 |.call ⟨.builtin .len,⟨[x]⟩,⟨[T]⟩⟩=>match ev x with
  |some (.sl sz l)=>HS P T [] (some (.sl sz l)) F
  |some (.str s)=>HS P T [] (some (.str s)) F
  |some (.v (.slice none 0 0))=>HS P T [] (some (.v (.slice none 0 0))) F
  |_=>False
 |.call ⟨.builtin .max,⟨[x,y]⟩,⟨[_,_]⟩⟩=>match ev x,ev y with
  |some (.v (.int .i64 a)),some (.v (.int .i64 b))=>F (.v (.int .i64 (max a b)))
  |_,_=>False
 |.call ⟨.value (.func f),⟨args⟩,_⟩=>match e8 ev args with
  |some l=>cond (I1 l) (RR P f (l++[]) F) False
  |none=>False
 |.build T ⟨parts⟩=>match BU ev parts with
  |some ps=>JB P T fun zs pl=>Dy [] ps (U7 ((Bg pl zs ps).map AV.agg) F)
  |none=>False
 |.buildSlice T len ⟨parts⟩=>match BU ev parts with
  |some ps=>FN P T fun _ sz _ _=>cond (Ca 0 ps && p9 sz (M0 ps) && Nat.beq ps.length len && Nat.blt 0 sz) (F5 (len*sz≤16777216) (Dy [] ps (ND (M0 ps) (F (.sl sz (M0 ps)))))) False
  |none=>False
 |.convert S T x=>U7 (ev x) fun a=>BB P S T a F
 |.extract x k=>match ev x with
  |some (.tup l)=>U7 (l[k]?) F
  |_=>False
 |.slice T x lo hi none=>match ev x with
  |some (.str s)=>Dn P T (match AX ev 0 lo,AX ev s.length hi with
   |some l,some h=>F5 (0≤l∧l≤h∧h≤s.length) (F (.str ((s.take h.toNat).drop l.toNat)))
   |_,_=>False)
  |_=>False
 |.unOp .not _ x=>match ev x with
  |some (.v (.bool b))=>F (.v (.bool (!b)))
  |_=>False
 |.index T x y=>match ev x,ev y with
  |some (.str s),some (.v (.int _ i))=>Dn P T (O6 s i fun b=>F (.v (.int .u8 b.toNat)))
  |_,_=>False
 |_=>False
theorem gf{hp:Hp}{a:AV}(h:One [] a):One hp a:=by
 cases h with
 |row hl=>cases hl
 |v h=>exact .v h
 |str l=>exact .str l
 |sl s l=>exact .sl s l
 |iptr l=>exact .iptr l
 |ref i o=>exact .ref i o
 |mp i=>exact .mp i
 |fn f l=>exact .fn f l
 |fo f l=>exact .fo f l
theorem dO{hp:Hp}{a:AV}(h:Fits [] a):Fits hp a:=by
 cases a<;>first|exact trivial|exact gf h
theorem JO{hp:Hp}:∀{ps:List (Nat×AV)},Dl [] ps→Dl hp ps
 |[],_=>trivial
 |(_,a)::r,h=>⟨dO h.1,JO h.2⟩
theorem mc{P:Program}{op:Op}{ev:Operand→Option AV}{F:AV→Prop}(h:MV P op ev F):∃av,(∀(E:Env) (nx:Nat) (hp:Hp) (ty:TypeId),F7 P E nx hp ev op ty av)∧F av:=by
 unfold MV at h
 split at h
 ·obtain⟨a,hx,h⟩:=I2 h;exact⟨a,fun _ _ _ _=>Zb hx,h⟩
 ·obtain⟨a,hx,h⟩:=I2 h;exact⟨a,fun _ _ _ _=>Rm hx,h⟩
 ·rename_i op T x y T2
  unfold SK at h
  split at h
  ·rename_i hx hy;exact⟨_,fun _ _ _ _=>fg hx hy h.h,h.k⟩
  ·rename_i hx hy;exact⟨_,fun _ _ _ _=>fh hx hy h.h,h.k⟩
  ·rename_i hx hy
   obtain⟨hk,hq⟩:=cond_false h
   clear h
   have hk:=of_decide_eq_true hk
   subst hk
   unfold SI at hq
   split at hq
   ·exact⟨_,fun _ _ _ _=>Dx hx hy (by simp only[CZ,O5 hq.h]),hq.k⟩
   ·exact⟨_,fun _ _ _ _=>Dx hx hy (by simp only[CZ,O5 hq.h]),hq.k⟩
   ·exact⟨_,fun _ _ _ _=>Dx hx hy (by simp only[CZ,O5 hq.h]),hq.k⟩
   ·refine⟨_,fun E nx hp ty=>?_,hq.k⟩
    have pI:=RN (P:=P) (E:=E) (nx:=nx) (hp:=hp) (ty:=ty) (T:=T) (T2:=T2) hx hy hq.h.1
    rw[O5 hq.h.2]at pI
    exact pI
   ·exact⟨_,fun _ _ _ _=>RN hx hy hq.h,hq.k⟩
   ·exact⟨_,fun _ _ _ _=>ff hx hy hq.h,hq.k⟩
   ·split at hq
    ·rename_i hr;exact⟨_,fun _ _ _ _=>Dx hx hy hr,hq⟩
    ·exact hq.elim
  ·rename_i s t hx hy
   unfold cl at h
   split at h
   ·exact⟨_,fun _ _ _ _=>Zd hx hy h.h,h.k⟩
   ·split at h
    ·rename_i hr;exact⟨_,fun _ _ _ _=>Zc hx hy hr,h⟩
    ·exact h.elim
  ·rename_i a b hx hy
   unfold Xi at h
   split at h
   ·have:=h.h;exact⟨_,fun _ _ _ _=>RO (T:=T) false hx hy,h.k⟩
   ·have:=h.h;exact⟨_,fun _ _ _ _=>RO (T:=T) true hx hy,h.k⟩
   ·exact h.elim
  ·rename_i l m hx hy
   unfold Cg at h
   split at h
   ·obtain⟨hk,hq⟩:=cond_false h
    obtain⟨rfl,rfl⟩:=of_decide_eq_true hk
    have:=hq.h;exact⟨_,fun _ _ _ _=>HK (T:=T) false hx hy,hq.k⟩
   ·obtain⟨hk,hq⟩:=cond_false h
    obtain⟨rfl,rfl⟩:=of_decide_eq_true hk
    have:=hq.h;exact⟨_,fun _ _ _ _=>HK (T:=T) true hx hy,hq.k⟩
   ·obtain⟨hk,hq⟩:=cond_false h
    obtain⟨rfl,rfl,rfl⟩:=of_decide_eq_true hk
    have:=hq.h;exact⟨_,fun _ _ _ _=>HM (T:=T) false hx hy,hq.k⟩
   ·obtain⟨hk,hq⟩:=cond_false h
    obtain⟨rfl,rfl,rfl⟩:=of_decide_eq_true hk
    have:=hq.h;exact⟨_,fun _ _ _ _=>HM (T:=T) true hx hy,hq.k⟩
   ·obtain⟨hk,hq⟩:=cond_false h
    obtain rfl:=of_decide_eq_true hk
    have:=hq.h;exact⟨_,fun _ _ _ _=>Mo (T:=T) false hx hy,hq.k⟩
   ·obtain⟨hk,hq⟩:=cond_false h
    obtain rfl:=of_decide_eq_true hk
    have:=hq.h;exact⟨_,fun _ _ _ _=>Mo (T:=T) true hx hy,hq.k⟩
   ·exact h.elim
  ·exact h.elim
 ·rename_i T x
  split at h
  ·rename_i l hx
   unfold NF at h
   obtain⟨⟨ag,sz,tv,h⟩⟩:=h
   cases ag with
   |true =>
    change cond (Nat.beq l.length sz) _ _ at h
    cases hc:Nat.beq l.length sz with
    |true =>
     rw[hc]at h
     exact⟨_,fun _ _ _ _=>AW (sz:=sz) hx (by rw[←Nat.eq_of_beq_eq_true hc,List.take_length]) (Nat.eq_of_beq_eq_true hc),h⟩
    |false =>
     rw[hc]at h
     exact⟨_,fun _ _ _ _=>AW (sz:=sz) hx rfl h.h,h.k⟩
   |false =>
    cases l with
    |nil=>exact h.elim
    |cons av r=>exact⟨_,fun _ _ _ _=>Kr (sz:=sz) hx,h⟩
  ·exact h.elim
 ·split at h
  ·rename_i hx
   obtain⟨⟨off,sz,tf,h⟩⟩:=h
   obtain⟨hz,h⟩:=cond_false h
   exact⟨_,fun _ _ _ _=>Iq (off:=off) (sz:=sz) hx hz,h⟩
  ·rename_i hx
   obtain⟨⟨off,sz,tf,h⟩⟩:=h
   obtain⟨hz,h⟩:=cond_false h
   exact⟨_,fun _ _ _ _=>Ks (off:=off) (sz:=sz) hx hz,h⟩
  ·exact h.elim
 ·split at h
  ·rename_i hx
   unfold JF at h
   split at h
   ·rename_i xc hy
    cases xc
    obtain⟨⟨e,nU,ts,h⟩⟩:=h
    obtain⟨hz,hq⟩:=cond_false h
    clear h
    have:=Nat.eq_of_beq_eq_true hz
    subst this
    obtain⟨h0,h1,hk⟩:=hq
    exact⟨_,fun _ _ _ _=>Ml (e:=e) hx hy h0 (List.getElem?_eq_getElem (by omega)),hk _ (List.getElem?_eq_getElem (by omega))⟩
   ·rename_i xc _;cases xc
   ·rename_i xc _;cases xc
   ·exact h.elim
  ·exact h.elim
 ·split at h
  ·rename_i hx
   unfold HS at h
   obtain⟨⟨e,sz,ts,h⟩⟩:=h
   exact⟨_,fun _ _ _ _=>Rr (e:=e) (sz:=sz) hx,h.k⟩
  ·rename_i hx
   unfold HS at h
   obtain⟨ts,h⟩:=h
   exact⟨_,fun _ _ _ _=>Pd hx,h⟩
  ·rename_i hx
   unfold HS at h
   obtain⟨⟨e,sz,ts,h⟩⟩:=h
   exact⟨_,fun _ _ _ _=>Pe (e:=e) (sz:=sz) hx,h⟩
  ·exact h.elim
 ·split at h
  ·rename_i hx hy;exact⟨_,fun _ _ _ _=>fj hx hy,h⟩
  ·exact h.elim
 ·split at h
  ·rename_i l hl
   obtain⟨hc,h⟩:=cond_false h
   obtain⟨⟨r,hr,h⟩⟩:=h
   rw[List.append_nil]at hr
   exact⟨_,fun _ _ _ _=>OU hr hl hc,h⟩
  ·exact h.elim
 ·split at h
  ·rename_i ps sG
   obtain⟨⟨zs,pl,tz,tp,h⟩⟩:=h
   obtain⟨hf,h⟩:=o0 h
   obtain⟨a,ha,h⟩:=I2 h
   rw[Option.map_eq_some_iff]at ha
   obtain⟨l,hl,rfl⟩:=ha
   exact⟨_,fun _ _ _ _=>WB (T:=_) sG (JO hf) hl,h⟩
  ·exact h.elim
 ·split at h
  ·rename_i ps sG
   obtain⟨⟨e,sz,bs,z,ts,tz,tb,hz,h⟩⟩:=h
   obtain⟨hc,h⟩:=cond_false h
   simp only[Bool.and_eq_true,Nat.beq_eq,Nat.blt_eq]at hc
   obtain⟨hs,h⟩:=h
   obtain⟨hf,h⟩:=o0 h
   obtain⟨hi,h⟩:=Eb h
   exact⟨_,fun _ _ _ _=>Ix (e:=e) (z:=z) sG (JO hf) hc.1.1.1 hc.1.1.2 hc.1.2 hz hs hc.2 hi,h⟩
  ·exact h.elim
 ·obtain⟨a,hx,h⟩:=I2 h
  obtain⟨⟨r,hr,h⟩⟩:=h
  cases hr with
  |bytes l hl=>rename_i e sz _ _ _;exact⟨_,fun _ _ _ _=>Kv (e:=e) (sz:=sz) hx hl,h⟩
  |back l=>rename_i e sz _ _ _;exact⟨_,fun _ _ _ _=>Kw (e:=e) (sz:=sz) hx,h⟩
  |int m=>exact⟨_,fun _ _ _ _=>Mm hx,h⟩
  |rune m=>exact⟨_,fun _ _ _ _=>Kx hx,h⟩
 ·split at h
  ·rename_i hx
   obtain⟨a,ha,h⟩:=I2 h
   exact⟨_,fun _ _ _ _=>Ph hx ha,h⟩
  ·exact h.elim
 ·split at h
  ·rename_i hx
   obtain⟨ts,h⟩:=h
   split at h
   ·rename_i hl hh;exact⟨_,fun _ _ _ _=>Kz hx hl hh h.h.1 h.h.2.1 h.h.2.2,h.k⟩
   ·exact h.elim
  ·exact h.elim
 ·split at h
  ·rename_i hx;exact⟨_,fun _ _ _ _=>fi hx,h⟩
  ·exact h.elim
 ·split at h
  ·rename_i s k i hx hy
   obtain⟨ts,h0,h1,hk⟩:=h
   have nR:i.toNat<s.length:=by omega
   have nN:s[i.toNat]?=some s[i.toNat]:=List.getElem?_eq_getElem nR
   exact⟨_,fun _ _ _ _=>Kt hx hy h0 nN,hk _ nN⟩
  ·exact h.elim
 ·exact h.elim
structure MB where
 i:Nat
 d:Nat
 av:AV
 rd:List (Nat×AV)
 mh:Hp
def Oh(mh hp:Hp):Prop:=∀p∈mh,A5 hp p.1=p.2
def me(P:Program)(ops:Array Oper)(m:MB):Prop:=∃op ty pos after,ops[m.i]?=some ⟨some m.d,op,ty,pos,after,none⟩∧∀(E:Env) (nx:Nat) (hp:Hp) (ty:TypeId),Oh m.mh hp→F7 P E nx hp (E9 ⟨m.rd,0,[]⟩) op ty m.av
def EX(ops:Array Oper)(i:Nat):List Nat:=(k5 ops).getD i []
def K5:List MB→List (Nat×AV)
 |[]=>[]
 |⟨_,d,av,_,_⟩::r=>(d,av)::K5 r
def W3(l:List Bool)(mb:List MB):List MB:=mb.filter fun m=>l.getD m.i false
def nF(ops:Array Oper)(mb:List MB)(sl:List (Nat×AV)):Prop:=∀m∈mb,∀p∈m.rd,look sl p.1=some p.2∨∃m'∈mb,m'.d=p.1∧m'.av=p.2∧m'.i∈EX ops m.i
def Bj(n:Nat)(sl:List (Nat×AV)):List MB→Bool
 |[]=>true
 |m::r=>Nat.blt m.d n && (look sl m.d).isNone && (r.all fun u=>!(Nat.beq u.d m.d) && !(Nat.beq u.i m.i)) && Bj n sl r
theorem Ft{n:Nat}{sl:List (Nat×AV)}:∀{mb:List MB},Bj n sl mb=true→(∀m∈mb,m.d<n∧look sl m.d=none)∧(∀m∈mb,∀m'∈mb,m.d=m'.d→m=m')∧∀m∈mb,∀m'∈mb,m.i=m'.i→m=m'
 |[],_=>⟨(fun m hm=>by cases hm),(fun m hm=>by cases hm),fun m hm=>by cases hm⟩
 |a::r,h=>by
  simp only[Bj,Bool.and_eq_true,List.all_eq_true,Bool.not_eq_true',Nat.blt_eq,Option.isNone_iff_eq_none]at h
  obtain⟨⟨⟨h1,h2⟩,h3⟩,h4⟩:=h
  obtain⟨i1,i2,i3⟩:=Ft h4
  have uN:∀u∈r,u.d≠a.d∧u.i≠a.i:=fun u hu=>by
   have h5:=h3 u hu
   refine⟨fun e=>?_,fun e=>?_⟩
   ·have:=h5.1;rw[e]at this;simp at this
   ·have:=h5.2;rw[e]at this;simp at this
  refine⟨fun m hm=>?_,fun m hm m' oT e=>?_,fun m hm m' oT e=>?_⟩
  ·rcases List.mem_cons.1 hm with rfl|hm
   ·exact⟨h1,h2⟩
   ·exact i1 m hm
  ·rcases List.mem_cons.1 hm with h5|h5<;>rcases List.mem_cons.1 oT with h6|h6
   ·rw[h5,h6]
   ·subst h5;exact absurd e.symm (uN _ h6).1
   ·subst h6;exact absurd e (uN _ h5).1
   ·exact i2 m h5 m' h6 e
  ·rcases List.mem_cons.1 hm with h5|h5<;>rcases List.mem_cons.1 oT with h6|h6
   ·rw[h5,h6]
   ·subst h5;exact absurd e.symm (uN _ h6).2
   ·subst h6;exact absurd e (uN _ h5).2
   ·exact i3 m h5 m' h6 e
theorem Q2(l m:List (Nat×AV))(s:Nat):look (l++m) s=match look l s with
  |some x=>some x
  |none=>look m s:=by
 induction l with
 |nil=>rfl
 |cons a r ih =>
  obtain⟨k,x⟩:=a
  simp only[List.cons_append,E4]
  by_cases e:k=s
  ·simp[e]
  ·simp[e,ih]
theorem Gn{T:List MB}{s:Nat}(h:∀m∈T,m.d≠s):look (K5 T) s=none:=by
 induction T with
 |nil=>rfl
 |cons a r ih =>
  obtain⟨ai,ad,xr,xV,wJ⟩:=a
  have h0:ad≠s:=h ⟨ai,ad,xr,xV,wJ⟩ (by simp)
  simp only[K5,E4]
  rw[if_neg h0,ih fun m hm=>h m (by simp[hm])]
theorem Dz{T:List MB}{m:MB}(hu:∀m∈T,∀m'∈T,m.d=m'.d→m=m')(hm:m∈T):look (K5 T) m.d=some m.av:=by
 induction T with
 |nil=>cases hm
 |cons a r ih =>
  obtain⟨ai,ad,xr,xV,wJ⟩:=a
  simp only[K5,E4]
  by_cases e:ad=m.d
  ·rw[if_pos e,←hu ⟨ai,ad,xr,xV,wJ⟩ (by simp) m hm e]
  ·rw[if_neg e]
   rcases List.mem_cons.1 hm with rfl|hm
   ·exact absurd rfl e
   ·exact ih (fun x hx y hy=>hu x (by simp[hx]) y (by simp[hy])) hm
theorem r8{T:List MB}{s:Nat}{x:AV}(h:look (K5 T) s=some x):∃m∈T,m.d=s∧m.av=x:=by
 induction T with
 |nil=>cases h
 |cons a r ih =>
  obtain⟨ai,ad,xr,xV,wJ⟩:=a
  simp only[K5,E4]at h
  by_cases e:ad=s
  ·rw[if_pos e]at h;cases h;exact⟨⟨ai,ad,_,xV,wJ⟩,by simp,e,rfl⟩
  ·rw[if_neg e]at h
   obtain⟨m,hm,h1,h2⟩:=ih h
   exact⟨m,by simp[hm],h1,h2⟩
theorem HY{E:Env}{n nx:Nat}{hp:Hp}{sl sl':List (Nat×AV)}{a:Act}{w:World}(e:∀s x,look sl' s=some x→look sl s=some x)(h:e7 E n ⟨sl,nx,hp⟩ a w):e7 E n ⟨sl',nx,hp⟩ a w:=by
 obtain⟨θ,h⟩:=h
 exact⟨θ,h.size,h.defers,h.fr,fun s x hs=>h.slots s x (e s x hs),h.owns,h.apart,h.mine,h.X,h.base⟩
def C7(P:Program)(E:Env)(n:Nat)(ops:Array Oper)(done:List Bool)(mb:List MB)(σ:St)(K:St→Prop):Prop :=
 (∀m∈mb,me P ops m)→nF ops mb σ.sl→(∀m∈mb,Oh m.mh σ.hp)→Bj n σ.sl mb=true →
 ∀(nS:Nat) (l:List Bool) (a:Act) (w:World),l.length=ops.size→(∀i,done.getD i false=true→l.getD i false=true)→(∀i,l.getD i false=true→done.getD i false=true∨∃m∈mb,m.i=i)→l.count false≤nS →
  e7 E n ⟨K5 (W3 l mb)++σ.sl,σ.nx,σ.hp⟩ a w→wpAny P .any ops (fun e a' w'=>e=.normal∧∃σ',K σ'∧e7 E n σ' a' w') nS l.toArray a w
def r9(ops:Array Oper)(mb:List MB)(i:Nat):List MB:=mb.filter fun m=>(EX ops i).contains m.i
def k9(ops:Array Oper)(mb:List MB)(i:Nat):List MB:=mb.filter fun m=>!((EX ops i).contains m.i)
def JP(ops:Array Oper)(done:List Bool)(mb:List MB)(i:Nat):List Bool:=(r9 ops mb i).foldl (fun l m=>l.set m.i true) (done.set i true)
def AD:List MB→List Nat
 |[]=>[]
 |m::r=>m.rd.map (·.1)++AD r
def FO:List MB→List Nat
 |[]=>[]
 |m::r=>m.mh.map (·.1)++FO r
theorem gg{hp sM:Hp}:∀{mb:List MB},(FO mb).map (A5 sM)=(FO mb).map (A5 hp)→∀m∈mb,∀p∈m.mh,A5 sM p.1=A5 hp p.1
 |[],_,m,hm,_,_=>by cases hm
 |a::r,h,m,hm,p,hp0=>by
  refine List.map_inj_left.1 h p.1 ?_
  have key:∀L:List MB,m∈L→p.1∈FO L:=by
   intro L
   induction L with
   |nil=>intro h;cases h
   |cons b t ih =>
    intro h
    simp only[FO,List.mem_append,List.mem_map]
    rcases List.mem_cons.1 h with rfl|h
    ·exact .inl ⟨p,hp0,rfl⟩
    ·exact .inr (ih h)
  exact key _ hm
structure NR(P:Program)(E:Env)(n:Nat)(ops:Array Oper)(done:List Bool)(mb:List MB)(K:St→Prop)(base:List (Nat×AV))(k:Nat)(ex:List (Nat×AV))(vB:Hp)(σ':St):Prop where
 mh:(FO mb).map (A5 σ'.hp)=(FO mb).map (A5 vB)
 sl:σ'.sl=σ'.sl.take k++ex
 rd:(AD mb).map (look (σ'.sl.take k))=(AD mb).map (look base)
 chk:Bj n (σ'.sl.take k) mb=true
 go:C7 P E n ops done mb ⟨σ'.sl.take k,σ'.nx,σ'.hp⟩ K
def NS(P:Program)(E:Env)(n:Nat)(ops:Array Oper)(done:List Bool)(mb:List MB)(σ:St)(K:St→Prop)(i:Nat):Prop :=
 match ops[i]? with
 |some o=>∀ex:List (Nat×AV),B0 P E n ops [o] ⟨K5 (r9 ops mb i)++(σ.sl++ex),σ.nx,σ.hp⟩ fun σ'=>NR P E n ops (JP ops done mb i) (k9 ops mb i) K (K5 (r9 ops mb i)++σ.sl) (match o.dst,o.guard with
  |some _,some _=>(r9 ops mb i).length+σ.sl.length+2
  |some _,none=>(r9 ops mb i).length+σ.sl.length+1
  |none,_=>(r9 ops mb i).length+σ.sl.length) ex σ.hp σ'
 |none=>False
def Xt(P:Program)(E:Env)(n:Nat)(ops:Array Oper)(done:List Bool)(mb:List MB)(σ:St)(K:St→Prop):List Nat→Prop
 |[]=>True
 |i::r=>NS P E n ops done mb σ K i∧Xt P E n ops done mb σ K r
theorem Sb{P:Program}{E:Env}{n:Nat}{ops:Array Oper}{done:List Bool}{mb:List MB}{σ:St}{K:St→Prop}:∀{r:List Nat},Xt P E n ops done mb σ K r→∀i∈r,NS P E n ops done mb σ K i
 |[],_,i,hi=>by cases hi
 |j::r,h,i,hi=>by
  rcases List.mem_cons.1 hi with rfl|hi
  ·exact h.1
  ·exact Sb h.2 i hi
def JQ(ops:Array Oper)(done:List Bool)(mb:List MB):List Nat :=
 (List.range ops.size).filter fun i=>!(done.getD i false) && !(mb.any fun m=>Nat.beq m.i i) && (EX ops i).all fun j=>done.getD j false || mb.any fun m=>Nat.beq m.i j
def Ey(ops:Array Oper):Bool:=(List.range ops.size).all fun i=>(EX ops i).all fun j=>Nat.blt j i
def NT(ops:Array Oper)(done:List Bool)(mb:List MB):Bool:=(List.range ops.size).all fun i=>done.getD i false || mb.any fun m=>Nat.beq m.i i
theorem HZ(l:List Bool)(i j:Nat):(l.set i true).getD j false=if i=j∧i<l.length then true else l.getD j false:=by
 simp only[List.getD_eq_getElem?_getD,List.getElem?_set]
 by_cases e:i=j
 ·subst e
  by_cases h:i<l.length
  ·simp[h]
  ·simp[h]
 ·simp[e]
theorem Pt:∀(l:List Bool) (i:Nat),l[i]?=some false→(l.set i true).count false+1=l.count false
 |[],i,h=>by simp at h
 |b::r,0,h=>by simp at h;subst h;simp
 |b::r,i+1,h=>by
  have:=Pt r i (by simpa using h)
  rw[List.set_cons_succ,List.count_cons,List.count_cons]
  omega
theorem Gp:∀(T:List MB) (l:List Bool) (j:Nat),(∀m∈T,m.i<l.length)→((T.foldl (fun l m=>l.set m.i true) l).getD j false=true↔l.getD j false=true∨∃m∈T,m.i=j)
 |[],l,j,_=>by simp
 |m::r,l,j,h=>by
  rw[List.foldl_cons,Gp r _ j (fun x hx=>by rw[List.length_set];exact h x (by simp[hx])),HZ]
  have hm:=h m (by simp)
  by_cases e:m.i=j
  ·subst e
   constructor
   ·intro _;exact .inr ⟨m,by simp,rfl⟩
   ·intro _;left;rw[if_pos ⟨rfl,hm⟩]
  ·rw[if_neg (fun h=>e h.1)]
   constructor
   ·rintro (h1|⟨x,hx,e2⟩)
    ·exact .inl h1
    ·exact .inr ⟨x,by simp[hx],e2⟩
   ·rintro (h1|⟨x,hx,e2⟩)
    ·exact .inl h1
    ·rcases List.mem_cons.1 hx with rfl|hx
     ·exact absurd e2 e
     ·exact .inr ⟨x,hx,e2⟩
theorem WL{ops:Array Oper}{i:Nat}(h:i<ops.size):(k5 ops)[i]?=some (EX ops i):=by
 have hl:i<(k5 ops).length:=by simp[k5];exact h
 rw[EX,List.getD_eq_getElem?_getD,List.getElem?_eq_getElem hl];rfl
theorem WM{P:Program}{E:Env}{n:Nat}{ops:Array Oper}{done:List Bool}{mb:List MB}{σ:St}{K:St→Prop}(nO:Nat.beq done.length ops.size=true)(nr:Ey ops=true)
  (pX:NT ops done mb=true→K ⟨K5 mb++σ.sl,σ.nx,σ.hp⟩) (oX:Xt P E n ops done mb σ K (JQ ops done mb)):C7 P E n ops done mb σ K:=by
 have nO:=Nat.eq_of_beq_eq_true nO
 intro pM nQ yV oU
 obtain⟨qC,pc,vJ⟩:=Ft oU
 have tF:∀m∈mb,m.i<ops.size:=fun m hm=>by
  obtain⟨op,ty,pos,after,h,_⟩:=pM m hm
  exact(Array.getElem?_eq_some_iff.1 h).1
 have qW:∀l,∀m∈W3 l mb,m∈mb∧l.getD m.i false=true:=fun l m hm=>by
  unfold W3 at hm
  exact List.mem_filter.1 hm
 have pK:∀l,∀m∈mb,l.getD m.i false=true→m∈W3 l mb:=fun l m hm h=>List.mem_filter.2 ⟨hm,h⟩
 have hu:∀l,∀m∈W3 l mb,∀m'∈W3 l mb,m.d=m'.d→m=m':=fun l m hm m' oT=>pc m (qW l m hm).1 m' (qW l m' oT).1
 -- a slot of the state is none of those that may be filled
 have qK:∀l s x,look σ.sl s=some x→look (K5 (W3 l mb)) s=none:=fun l s x hs=>Gn fun m hm e=>by
  have:=(qC m (qW l m hm).1).2
  rw[e,hs]at this
  cases this
 have fin:∀(l:List Bool) (a:Act) (w:World),(∀i,i<ops.size→l.getD i false=true)→(∀i,l.getD i false=true→done.getD i false=true∨∃m∈mb,m.i=i)→e7 E n ⟨K5 (W3 l mb)++σ.sl,σ.nx,σ.hp⟩ a w→(Exit.normal=Exit.normal∧∃σ',K σ'∧e7 E n σ' a w):=by
  intro l a w hl h2 hs
  refine⟨rfl,_,pX ?_,HY (fun s x h=>?_) hs⟩
  ·unfold NT
   rw[List.all_eq_true]
   intro i hi
   rcases h2 i (hl i (List.mem_range.1 hi))with h|⟨m,hm,e⟩
   ·rw[h];rfl
   ·have:(mb.any fun m=>Nat.beq m.i i)=true:=List.any_eq_true.2 ⟨m,hm,by simp[e]⟩
    rw[this];simp
  ·have:W3 l mb=mb:=List.filter_eq_self.2 fun m hm=>hl _ (tF m hm)
   rw[this];exact h
 have tq:∀(l:List Bool),l.length=ops.size→Region.ready .any ops l.toArray=[]→∀i,i<ops.size→l.getD i false=true:=by
  intro l hl hr i
  induction i using Nat.strongRecOn with
  |_ i ih =>
   intro hi
   cases hx:l.getD i false with
   |true=>rfl
   |false =>
    exfalso
    have oZ:i∈Z8 l 0 (k5 ops) l:=by
     rw[Ck]
     refine⟨i,EX ops i,by omega,WL hi,?_,fun x hxe=>?_⟩
     ·rw[List.getD_eq_getElem?_getD]at hx
      have h1:l[i]?=some (l[i]'(by omega)):=List.getElem?_eq_getElem (by omega)
      rw[h1]at hx ⊢
      simpa using hx
     ·unfold Ey at nr
      have h1:=List.all_eq_true.1 nr i (List.mem_range.2 hi)
      have h2:=List.all_eq_true.1 h1 x hxe
      have h3:x<i:=by simpa using h2
      exact ih x h3 (by omega)
    have:=(V2 hl i).2 oZ
    rw[hr]at this
    cases this
 intro nS
 induction nS with
 |zero =>
  intro l a w hl h1 h2 uy hs
  have h0:∀i,i<ops.size→l.getD i false=true:=by
   intro i hi
   have uI:l[i]?=some (l[i]'(by omega)):=List.getElem?_eq_getElem (by omega)
   rw[List.getD_eq_getElem?_getD,uI]
   cases hb:l[i]'(by omega)with
   |true=>rfl
   |false =>
    have:0<l.count false:=List.count_pos_iff.2 (hb▸List.getElem_mem _)
    omega
  refine⟨?_,fin l a w h0 h2 hs⟩
  cases hx:Region.ready .any ops l.toArray with
  |nil=>rfl
  |cons i r =>
   have:=(V2 hl i).1 (by rw[hx];simp)
   rw[Ck]at this
   obtain⟨j,e,e1,_,e2,_⟩:=this
   have hj:j<ops.size:=by rw[←hl];exact(List.getElem?_eq_some_iff.1 e2).1
   have:=h0 j hj
   rw[List.getD_eq_getElem?_getD,e2]at this
   cases this
 |succ nS ih =>
  intro l a w hl h1 h2 uy hs
  refine⟨fun hr=>fin l a w (tq l hl hr) h2 hs,fun i hi=>?_⟩
  have oa:=(V2 hl i).1 hi
  rw[Ck]at oa
  obtain⟨i',e,ei,he,hf,uV⟩:=oa
  obtain rfl:i=i':=by omega
  have his:i<ops.size:=by rw[←hl];exact(List.getElem?_eq_some_iff.1 hf).1
  rw[WL his]at he
  cases he
  have hlf:l.getD i false=false:=by rw[List.getD_eq_getElem?_getD,hf];rfl
  have oE:(l.set i true).length=ops.size:=by rw[List.length_set];exact hl
  have ud:(l.set i true).count false≤nS:=by have:=Pt l i hf;omega
  have oQ:∀j,(l.set i true).getD j false=true↔j=i∨l.getD j false=true:=by
   intro j
   rw[HZ]
   by_cases e:i=j
   ·subst e;simp;omega
   ·simp[e,Ne.symm e]
  by_cases hm:∃m∈mb,m.i=i
  ·obtain⟨m,hm,vW⟩:=hm
   subst vW
   obtain⟨op,ty,pos,after,ho,hq⟩:=pM m hm
   unfold wpOp
   simp only[ho]
   rw[if_pos (by simp[Region.wanted])]
   left
   obtain⟨θ,hs⟩:=hs
   have pf:p7 E θ σ.nx σ.hp (E9 ⟨m.rd,0,[]⟩) a w:=by
    have h0:=hs.evT
    refine⟨h0.fr,h0.owns,h0.X,fun {x av} hx=>h0.rel (x:=x) ?_,h0.apart,h0.fresh,h0.tab⟩
    cases x with
    |tmp t =>
     have pq:look m.rd t=some av:=hx
     show look (K5 (W3 l mb)++σ.sl) t=some av
     have oZ:∀(rd:List (Nat×AV)),look rd t=some av→(t,av)∈rd:=by
      intro rd
      induction rd with
      |nil=>intro h;cases h
      |cons p r ih =>
       obtain⟨k,x⟩:=p
       intro h
       rw[E4]at h
       by_cases e:k=t
       ·subst e;rw[if_pos rfl]at h;cases h;simp
       ·rw[if_neg e]at h;exact List.mem_cons_of_mem _ (ih h)
     rw[Q2]
     rcases nQ m hm (t,av) (oZ _ pq)with h|⟨m',oT,e1,e2,e3⟩
     ·rw[qK l t av h];exact h
     ·have h4:m'∈W3 l mb:=pK l m' oT (uV _ e3)
      have h5:=Dz (hu l) h4
      have e1:m'.d=t:=e1
      have e2:m'.av=av:=e2
      rw[e1,e2]at h5
      rw[h5]
    |const c=>exact hx
    |global g=>exact hx
    |func f=>exact hx
   refine Rl (hq E σ.nx σ.hp ty (yV m hm) (some m.d) pos after θ a w (fun v w'=>Below w.heap.size w w'∧D7 (kx E θ σ.nx σ.hp w') m.av v) pf fun v w' hb hr=>⟨hb,hr⟩) fun v w' yO=>?_
   rw[U8]
   refine ih (l.set m.i true) _ w' oE (fun j hj=>(oQ j).2 (.inr (h1 j hj))) (fun j hj=>?_) ud ?_
   ·rcases(oQ j).1 hj with e|e
    ·exact .inr ⟨m,hm,e.symm⟩
    ·exact h2 j e
   ·have qm:=(hs.below yO.1).put (d:=m.d) (qC m hm).1 (x:=m.av) (v:=v) yO.2
    refine HY (sl:=(m.d,m.av)::(K5 (W3 l mb)++σ.sl)) (fun s x h=>?_) ⟨θ,qm⟩
    rw[Q2]at h
    rw[E4,Q2]
    cases hx:look (K5 (W3 (l.set m.i true) mb)) s with
    |some y =>
     rw[hx]at h
     cases h
     obtain⟨m',oT,e1,e2⟩:=r8 hx
     obtain⟨h3,h4⟩:=qW _ m' oT
     by_cases e:m.d=s
     ·rw[if_pos e,pc m hm m' h3 (by rw[e,e1]),e2]
     ·rw[if_neg e]
      have h5:l.getD m'.i false=true:=by
       rcases(oQ _).1 h4 with h6|h6
       ·have:=vJ m' h3 m hm h6
        subst this
        exact absurd e1 e
       ·exact h6
      have:=Dz (hu l) (pK l m' h3 h5)
      rw[e1,e2]at this
      rw[this]
    |none =>
     rw[hx]at h
     have h':look σ.sl s=some x:=h
     have hne:m.d≠s:=fun e=>by have:=(qC m hm).2;rw[e,h']at this;cases this
     rw[if_neg hne,qK l s x h']
     exact h'
  ·have pN:∀m∈mb,m.i≠i:=fun m oT e=>hm ⟨m,oT,e⟩
   have un:done.getD i false=false:=by
    cases hx:done.getD i false with
    |false=>rfl
    |true=>rw[h1 i hx]at hlf;cases hlf
   have xD:(mb.any fun m=>Nat.beq m.i i)=false:=by
    rw[List.any_eq_false]
    intro m oT h
    exact pN m oT (Nat.eq_of_beq_eq_true h)
   have yn:i∈JQ ops done mb:=by
    unfold JQ
    rw[List.mem_filter]
    refine⟨List.mem_range.2 his,?_⟩
    rw[un,xD]
    simp only[Bool.not_false,Bool.true_and,List.all_eq_true]
    intro j hj
    rcases h2 j (uV j hj)with h|⟨m,oT,e⟩
    ·rw[h];rfl
    ·have:(mb.any fun m=>Nat.beq m.i j)=true:=List.any_eq_true.2 ⟨m,oT,by simp[e]⟩
     rw[this];simp
   have sC:=Sb oX i yn
   unfold NS at sC
   split at sC
   ·rename_i o ho
    have uw:∀m,m∈r9 ops mb i↔m∈mb∧m.i∈EX ops i:=fun m=>by simp[r9,List.mem_filter]
    have ql:∀m,m∈k9 ops mb i↔m∈mb∧m.i∉EX ops i:=fun m=>by simp[k9,List.mem_filter]
    have uS:e7 E n ⟨K5 (r9 ops mb i)++(σ.sl++K5 (W3 l (k9 ops mb i))),σ.nx,σ.hp⟩ a w:=by
     refine HY (fun s x h=>?_) hs
     rw[Q2]at h ⊢
     cases hx:look (K5 (r9 ops mb i)) s with
     |some y =>
      rw[hx]at h
      cases h
      obtain⟨m,oT,e1,e2⟩:=r8 hx
      obtain⟨h3,h4⟩:=(uw m).1 oT
      have:=Dz (hu l) (pK l m h3 (uV _ h4))
      rw[e1,e2]at this
      rw[this]
     |none =>
      rw[hx]at h
      have h:look (σ.sl++K5 (W3 l (k9 ops mb i))) s=some x:=h
      rw[Q2]at h
      cases hy:look σ.sl s with
      |some y =>
       rw[hy]at h
       cases h
       rw[qK l s _ hy]
      |none =>
       rw[hy]at h
       have h:look (K5 (W3 l (k9 ops mb i))) s=some x:=h
       obtain⟨m,oT,e1,e2⟩:=r8 h
       obtain⟨h3,h4⟩:=List.mem_filter.1 oT
       have:=Dz (hu l) (pK l m ((ql m).1 h3).1 h4)
       rw[e1,e2]at this
       rw[this]
    have hw:=sC (K5 (W3 l (k9 ops mb i))) a w uS
    have last:∀(kk:Nat) σ' a' w',NR P E n ops (JP ops done mb i) (k9 ops mb i) K (K5 (r9 ops mb i)++σ.sl) kk (K5 (W3 l (k9 ops mb i))) σ.hp σ'→e7 E n σ' a' w'→wpAny P .any ops (fun e a' w'=>e=.normal∧∃σ',K σ'∧e7 E n σ' a' w') nS (l.set i true).toArray a' w':=by
     intro kk σ' a' w' hp oP
     have qI:∀j,(JP ops done mb i).getD j false=true↔(done.getD j false=true∨j=i)∨∃m∈r9 ops mb i,m.i=j:=by
      intro j
      unfold JP
      rw[Gp _ _ _ (fun m oT=>by rw[List.length_set,nO];exact tF m ((uw m).1 oT).1),HZ]
      by_cases e:i=j
      ·subst e;simp;left;omega
      ·simp[e,Ne.symm e]
     have xX:∀m∈r9 ops mb i,look (K5 (r9 ops mb i)++σ.sl) m.d=some m.av:=fun m oT=>by
      rw[Q2,Dz (fun m h m' h'=>pc m ((uw m).1 h).1 m' ((uw m').1 h').1) oT]
     refine hp.go (fun m oT=>pM m ((ql m).1 oT).1) (fun m oT p wl=>?_) (fun m oT p wl=>(gg hp.mh m oT p wl).trans (yV m ((ql m).1 oT).1 p wl)) hp.chk nS (l.set i true) a' w' oE (fun j hj=>?_) (fun j hj=>?_) ud ?_
     ·have up:look (σ'.sl.take kk) p.1=look (K5 (r9 ops mb i)++σ.sl) p.1:=by
       have oZ:p.1∈AD (k9 ops mb i):=by
        have:∀(L:List MB),m∈L→p.1∈AD L:=by
         intro L
         induction L with
         |nil=>intro h;cases h
         |cons a r ih =>
          intro h
          simp only[AD,List.mem_append,List.mem_map]
          rcases List.mem_cons.1 h with rfl|h
          ·exact .inl ⟨p,wl,rfl⟩
          ·exact .inr (ih h)
        exact this _ oT
       obtain⟨t,ht,et⟩:=List.getElem_of_mem oZ
       have h3:=congrArg (fun L:List (Option AV)=>L[t]?) hp.rd
       simp only[List.getElem?_map,List.getElem?_eq_getElem ht,Option.map_some,Option.some.injEq,et]at h3
       exact h3
      rcases nQ m ((ql m).1 oT).1 p wl with h|⟨m',wH,e1,e2,e3⟩
      ·left
       rw[up,Q2,Gn (fun u qe e=>by
        have:=(qC u ((uw u).1 qe).1).2
        rw[e,h]at this
        cases this)]
       exact h
      ·by_cases xd:m'.i∈EX ops i
       ·left
        rw[up,←e1,xX m' ((uw m').2 ⟨wH,xd⟩),e2]
       ·exact .inr ⟨m',(ql m').2 ⟨wH,xd⟩,e1,e2,e3⟩
     ·rw[oQ]
      rcases(qI j).1 hj with (h|h)|⟨m,oT,e⟩
      ·exact .inr (h1 j h)
      ·exact .inl h
      ·exact .inr (e▸uV _ ((uw m).1 oT).2)
     ·rw[qI]
      rcases(oQ j).1 hj with h|h
      ·exact .inl (.inl (.inr h))
      ·rcases h2 j h with h|⟨m,oT,e⟩
       ·exact .inl (.inl (.inl h))
       ·by_cases xd:m.i∈EX ops i
        ·exact .inl (.inr ⟨m,(uw m).2 ⟨oT,xd⟩,e⟩)
        ·exact .inr ⟨m,(ql m).2 ⟨oT,xd⟩,e⟩
     ·have rA:=hp.sl
      obtain⟨c1,c2,c3⟩:=Ft hp.chk
      have:W3 (l.set i true) (k9 ops mb i)=W3 l (k9 ops mb i):=by
       unfold W3
       refine List.filter_congr fun m oT=>?_
       rw[HZ,if_neg (fun h=>pN m ((ql m).1 oT).1 h.1.symm)]
      rw[this]
      refine HY (sl:=σ'.sl) (fun s x h=>?_) oP
      rw[Q2]at h
      rw[rA,Q2]
      cases hx:look (K5 (W3 l (k9 ops mb i))) s with
      |some y =>
       rw[hx]at h
       cases h
       obtain⟨m,oT,e1,e2⟩:=r8 hx
       have h3:=(c1 m (List.mem_filter.1 oT).1).2
       rw[e1]at h3
       rw[h3]
      |none =>
       rw[hx]at h
       have h:look (σ'.sl.take kk) s=some x:=h
       rw[h]
    unfold wpOp
    simp only[ho]
    unfold wpList at hw
    split
    ·rename_i pC
     rw[if_pos pC]at hw
     rcases hw with hw|⟨_,a1,w1,hx⟩
     ·refine .inl (Lv (fun e a w h=>h.1) (fun a' w' hn=>?_) hw)
      obtain⟨_,σ',hk,oP⟩:=hn
      rw[U8]
      exact last _ σ' a' w' hk oP
     ·exact absurd hx.1 (by simp)
    ·rename_i pC
     rw[if_neg pC]at hw
     obtain⟨_,σ',hk,oP⟩:=hw
     rw[U8]
     exact last _ σ' _ _ hk oP
   ·exact sC.elim
def RU:List MB→(List MB→Prop)→Prop
 |[],F=>F []
 |⟨i,d,av,rd,mh⟩::r,F=>Bi rd fun rd2=>RU r fun s=>F (⟨i,d,av,rd2,mh⟩::s)
theorem NU:∀{l:List MB} {F:List MB→Prop},RU l F→F l
 |[],F,h=>h
 |⟨i,d,av,rd,mh⟩::r,F,h=>NU (l:=r) (F:=fun s=>F (⟨i,d,av,rd,mh⟩::s)) (Y0 h)
def GS(op:Op)(sl:List (Nat×AV)):List (Nat×AV):=op.operands.toList.filterMap fun x=>match x with
 |.tmp t=>(look sl t).map fun a=>(t,a)
 |_=>none
def KO(ops:Array Oper)(mb:List MB)(i:Nat)(op:Op):Bool:=op.operands.toList.all fun x=>match x with
 |.tmp t=>mb.all fun m=>!(Nat.beq m.d t) || (EX ops i).contains m.i
 |_=>true
def Sc(ev:Operand→Option AV)(x:Operand):Bool:=match ev x with
 |some a=>I8 a
 |none=>false
def nG(op:Op)(ev:Operand→Option AV):Bool :=
 match op with
 |.move x=>(ev x).isSome
 |.assign x=>(ev x).isSome
 |.binOp _ _ x y _=>Sc ev x && Sc ev y
 |.load _ x=>match ev x with
  |some (.iptr _)=>true
  |_=>false
 |.fieldAddr _ x _=>match ev x with
  |some (.iptr _)=>true
  |some (.ref _ _)=>true
  |_=>false
 |.indexAddr _ x y=>(match ev x with
  |some (.sl _ _)=>true
  |_=>false) && Sc ev y
 |.call ⟨.builtin .len,⟨[x]⟩,⟨[_]⟩⟩=>match ev x with
  |some (.sl _ _)=>true
  |some (.str _)=>true
  |some (.v (.slice none 0 0))=>true
  |_=>false
 |.call ⟨.builtin .max,⟨[x,y]⟩,⟨[_,_]⟩⟩=>match ev x,ev y with
  |some (.v (.int .i64 _)),some (.v (.int .i64 _))=>true
  |_,_=>false
 |.call ⟨.value (.func f),⟨args⟩,_⟩=>match e8 ev args with
  |some l=>I1 l
  |none=>false
 |.build _ ⟨parts⟩=>match BU ev parts with
  |some ps=>ps.all fun p=>I8 p.2
  |none=>false
 |.buildSlice _ _ ⟨parts⟩=>match BU ev parts with
  |some ps=>ps.all fun p=>I8 p.2
  |none=>false
 |.convert _ _ x=>Sc ev x
 |.extract x k=>match ev x with
  |some (.tup l)=>(l[k]?).isSome
  |_=>false
 |.slice _ x lo hi none=>(match ev x with
  |some (.str _)=>true
  |_=>false) && (match lo with
  |some o=>Sc ev o
  |none=>true) && (match hi with
  |some o=>Sc ev o
  |none=>true)
 |.unOp .not _ x=>match ev x with
  |some (.v (.bool _))=>true
  |_=>false
 |.index _ x y=>(match ev x with
  |some (.str _)=>true
  |_=>false) && Sc ev y
 |_=>false
def RV(ops:Array Oper)(n:Nat)(done:List Bool)(mb:List MB)(sl:List (Nat×AV))(i:Nat):Bool :=
 !(done.getD i false) && !(mb.any fun m=>Nat.beq m.i i) && ((EX ops i).all fun j=>done.getD j false || mb.any fun m=>Nat.beq m.i j) && match ops[i]? with
  |some ⟨some d,op,_,_,_,none⟩=>nG op (E9 ⟨K5 mb++sl,0,[]⟩) && Bj n sl (⟨i,d,.any,[],[]⟩::mb) && KO ops mb i op
  |_=>false
theorem dP{op:Op}{sl:List (Nat×AV)}{p:Nat×AV}(h:p∈GS op sl):look sl p.1=some p.2∧Operand.tmp p.1∈op.operands.toList:=by
 unfold GS at h
 rw[List.mem_filterMap]at h
 obtain⟨x,hx,h⟩:=h
 split at h
 ·rw[Option.map_eq_some_iff]at h
  obtain⟨a,ha,rfl⟩:=h
  exact⟨ha,hx⟩
 ·cases h
theorem Pu{P:Program}{E:Env}{n:Nat}{ops:Array Oper}{done:List Bool}{mb:List MB}{σ:St}{K:St→Prop}{i d:Nat}{op:Op}{ty:TypeId}{pos:String}{after:Array Edge}(pd:ops[i]?=some ⟨some d,op,ty,pos,after,none⟩)
  (uV:KO ops mb i op=true) (qg:Bj n σ.sl (⟨i,d,.any,[],[]⟩::mb)=true) (un:done.getD i false=false) {av:AV} {mh:Hp}
  (hq:∀(E:Env) (nx:Nat) (hp:Hp) (ty:TypeId),Oh mh hp→F7 P E nx hp (E9 ⟨GS op (K5 mb++σ.sl),0,[]⟩) op ty av) (hh:Oh mh σ.hp)
  (h:C7 P E n ops done (⟨i,d,av,GS op (K5 mb++σ.sl),mh⟩::mb) σ K):C7 P E n ops done mb σ K:=by
 intro pM nQ yV oU nS l a w hl h1 h2 uy hs
 obtain⟨c1,c2,c3⟩:=Ft qg
 have uI:l.getD i false=false:=by
  cases hx:l.getD i false with
  |false=>rfl
  |true =>
   exfalso
   rcases h2 i hx with h|⟨m,hm,e⟩
   ·rw[un]at h;cases h
   ·simp only[Bj,Bool.and_eq_true,List.all_eq_true,Bool.not_eq_true']at qg
    have h3:=(qg.1.2 m hm).2
    rw[e]at h3
    simp at h3
 refine h (fun m hm=>?_) (fun m hm p hp=>?_) (fun m hm=>?_) qg nS l a w hl h1 (fun j hj=>?_) uy ?_
 ·rcases List.mem_cons.1 hm with rfl|hm
  ·exact⟨op,ty,pos,after,pd,hq⟩
  ·exact pM m hm
 ·rcases List.mem_cons.1 hm with rfl|hm
  ·obtain⟨h3,h4⟩:=dP hp
   rw[Q2]at h3
   cases hx:look (K5 mb) p.1 with
   |none=>rw[hx]at h3;exact .inl h3
   |some y =>
    rw[hx]at h3
    cases h3
    obtain⟨m',oT,e1,e2⟩:=r8 hx
    refine .inr ⟨m',List.mem_cons_of_mem _ oT,e1,e2,?_⟩
    have h5:=List.all_eq_true.1 uV _ h4
    have h6:=List.all_eq_true.1 h5 m' oT
    rw[e1]at h6
    simpa using h6
  ·rcases nQ m hm p hp with h3|⟨m',oT,h4⟩
   ·exact .inl h3
   ·exact .inr ⟨m',List.mem_cons_of_mem _ oT,h4⟩
 ·rcases List.mem_cons.1 hm with rfl|hm
  ·exact hh
  ·exact yV m hm
 ·rcases h2 j hj with h3|⟨m,hm,e⟩
  ·exact .inl h3
  ·exact .inr ⟨m,List.mem_cons_of_mem _ hm,e⟩
 ·have:W3 l (⟨i,d,av,GS op (K5 mb++σ.sl),mh⟩::mb)=W3 l mb:=by
   unfold W3
   rw[List.filter_cons,if_neg (by simp only[uI];exact Bool.false_ne_true)]
  rw[this]
  exact hs
theorem Sd{P:Program}{E:Env}{n:Nat}{ops:Array Oper}{done:List Bool}{mb:List MB}{σ:St}{K:St→Prop}{i d:Nat}{op:Op}{ty:TypeId}{pos:String}{after:Array Edge}(pd:ops[i]?=some ⟨some d,op,ty,pos,after,none⟩)
  (uV:KO ops mb i op=true) (qg:Bj n σ.sl (⟨i,d,.any,[],[]⟩::mb)=true) (un:done.getD i false=false)
  (h:MV P op (E9 ⟨GS op (K5 mb++σ.sl),0,[]⟩) fun av=>C7 P E n ops done (⟨i,d,av,GS op (K5 mb++σ.sl),[]⟩::mb) σ K):C7 P E n ops done mb σ K:=by
 obtain⟨av,hq,h⟩:=mc h
 exact Pu pd uV qg un (fun E nx hp ty _=>hq E nx hp ty) (fun p hp=>by cases hp) h
def Se(P:Program)(T:Nat)(l:List AV)(off:Nat)(F:AV→Prop):Prop:=JA P T fun ag sz=>cond ag
 (cond (Nat.beq off 0 && Nat.beq l.length sz) (F (.agg l)) (F5 (((l.drop off).take sz).length=sz) (F (.agg ((l.drop off).take sz)))))
 (U7 (l[off]?) F)
theorem dQ{P:Program}{T off b τ:Nat}{l:List AV}{x:Operand}{ev:Operand→Option AV}{F:AV→Prop}(hx:ev x=some (.ref b off))(h:Se P T l off F):
  ∃av,(∀(E:Env) (nx:Nat) (hp:Hp) (ty:TypeId),Oh [(b,some (.bx τ l))] hp→F7 P E nx hp ev (.load T x) ty av)∧F av:=by
 unfold Se at h
 obtain⟨⟨ag,sz,tv,h⟩⟩:=h
 have hb:∀hp,Oh [(b,some (.bx τ l))] hp→A5 hp b=some (.bx τ l):=fun hp h=>h _ (List.mem_singleton.2 rfl)
 cases ag with
 |true =>
  change cond (Nat.beq off 0 && Nat.beq l.length sz) _ _ at h
  cases hc:Nat.beq off 0 && Nat.beq l.length sz with
  |true =>
   rw[hc]at h
   simp only[Bool.and_eq_true]at hc
   have h0:=Nat.eq_of_beq_eq_true hc.1
   subst h0
   exact⟨_,fun _ _ hp _ hh=>Mk (sz:=sz) hx (hb hp hh) (Nat.eq_of_beq_eq_true hc.2),h⟩
  |false =>
   rw[hc]at h
   exact⟨_,fun _ _ hp _ hh=>DV (sz:=sz) hx (hb hp hh) rfl h.h,h.k⟩
 |false =>
  obtain⟨av,ha,h⟩:=I2 h
  exact⟨av,fun _ _ hp _ hh=>Mj (sz:=sz) hx (hb hp hh) ha,h⟩
def mf(ops:Array Oper)(j:Nat):Bool:=match ops[j]? with
 |some o=>match o.op with
  |.store ..=>true
  |.mapUpdate ..=>true
  |.call ⟨.builtin .len,_,_⟩=>false
  |.call ⟨.builtin .max,_,_⟩=>false
  |.call ⟨.builtin .min,_,_⟩=>false
  |.call _=>true
  |_=>false
 |none=>false
def fy(ops:Array Oper)(n:Nat)(done:List Bool)(mb:List MB)(σ:St)(i:Nat):Bool :=
 !(done.getD i false) && !(mb.any fun m=>Nat.beq m.i i) && ((EX ops i).all fun j=>done.getD j false || mb.any fun m=>Nat.beq m.i j) && match ops[i]? with
  |some ⟨some d,.load T x,_,_,_,none⟩=>(match E9 ⟨K5 mb++σ.sl,0,[]⟩ x with
   |some (.ref b _)=>match A5 σ.hp b with
    |some (.bx _ _)=>true
    |_=>false
   |_=>false) && Bj n σ.sl (⟨i,d,.any,[],[]⟩::mb) && KO ops mb i (.load T x) && ((List.range ops.size).all fun j=>done.getD j false || !(mf ops j) || (EX ops j).contains i)
  |_=>false
structure kM(F:List (Nat×AV)→Prop):Prop where
 h:∀ex,F ex
theorem mg{F:List (Nat×AV)→Prop}(h:∀ex,F ex):kM F:=⟨h⟩
structure KP(P:Program)(E:Env)(n:Nat)(ops:Array Oper)(done:List Bool)(mb:List MB)(σ:St)(K:St→Prop)(r:List Nat):Prop where
 h:Xt P E n ops done mb σ K r
theorem gh{P:Program}{E:Env}{n:Nat}{ops:Array Oper}{done:List Bool}{mb:List MB}{σ:St}{K:St→Prop}:KP P E n ops done mb σ K []:=⟨trivial⟩
def Xu(P:Program)(E:Env)(n:Nat)(ops:Array Oper)(done:List Bool)(mb:List MB)(σ:St)(K:St→Prop)(i:Nat):Prop :=
 match ops[i]? with
 |some o=>Bi (K5 (r9 ops mb i)++σ.sl) fun xH=>kM fun ex=>B0 P E n ops [o] ⟨xH++ex,σ.nx,σ.hp⟩ fun σ'=>NR P E n ops (JP ops done mb i) (k9 ops mb i) K (K5 (r9 ops mb i)++σ.sl) (match o.dst,o.guard with
  |some _,some _=>(r9 ops mb i).length+σ.sl.length+2
  |some _,none=>(r9 ops mb i).length+σ.sl.length+1
  |none,_=>(r9 ops mb i).length+σ.sl.length) ex σ.hp σ'
 |none=>False
theorem Xv{P:Program}{E:Env}{n:Nat}{ops:Array Oper}{done:List Bool}{mb:List MB}{σ:St}{K:St→Prop}{i:Nat}(h:Xu P E n ops done mb σ K i):NS P E n ops done mb σ K i:=by
 unfold Xu at h
 unfold NS
 split at h
 ·have h2:=(Y0 h).h
  simp only[List.append_assoc]at h2
  exact h2
 ·exact h.elim
theorem gj{P:Program}{E:Env}{n:Nat}{ops:Array Oper}{done:List Bool}{mb:List MB}{σ:St}{K:St→Prop}{i:Nat}{r:List Nat}(h:Xu P E n ops done mb σ K i)(k:KP P E n ops done mb σ K r):KP P E n ops done mb σ K (i::r):=⟨⟨Xv h,k.h⟩⟩
theorem gk{P:Program}{E:Env}{n:Nat}{ops:Array Oper}{done:List Bool}{mb:List MB}{K:St→Prop}{base:List (Nat×AV)}{k:Nat}{ex:List (Nat×AV)}{vB:Hp}{σ':St}(h0:(FO mb).map (A5 σ'.hp)=(FO mb).map (A5 vB))(h1:σ'.sl=σ'.sl.take k++ex)(h2:(AD mb).map (look (σ'.sl.take k))=(AD mb).map (look base))(h3:Bj n (σ'.sl.take k) mb=true)
  (h4:Bi (σ'.sl.take k) fun xH=>S4 σ'.hp fun hp2=>G5 σ'.nx fun sV=>KM done fun sn=>RU mb fun yq=>C7 P E n ops sn yq ⟨xH,sV,hp2⟩ K):NR P E n ops done mb K base k ex vB σ' :=
 ⟨h0,h1,h2,h3,NU (Ef (D8 (Q9 (Y0 h4))))⟩
def kN(P:Program)(E:Env)(n:Nat)(ops:Array Oper)(done:List Bool)(mb:List MB)(σ:St)(K:St→Prop):Prop :=
 match (List.range ops.size).find? (RV ops n done mb σ.sl)with
 |some i=>match ops[i]? with
  |some ⟨some d,op,_,_,_,none⟩=>Bi (GS op (K5 mb++σ.sl)) fun rd=>MV P op (E9 ⟨rd,0,[]⟩) fun av=>C7 P E n ops done (⟨i,d,av,rd,[]⟩::mb) σ K
  |_=>False
 |none=>match (List.range ops.size).find? (fy ops n done mb σ)with
  |some i=>match ops[i]? with
   |some ⟨some d,.load T x,_,_,_,none⟩=>Bi (GS (.load T x) (K5 mb++σ.sl)) fun rd=>match E9 ⟨rd,0,[]⟩ x with
    |some (.ref b off)=>match A5 σ.hp b with
     |some (.bx τ l)=>Se P T l off fun av=>C7 P E n ops done (⟨i,d,av,rd,[(b,some (.bx τ l))]⟩::mb) σ K
     |_=>False
    |_=>False
   |_=>False
  |none=>NN (JQ ops done mb) fun L=>match L with
   |[]=>cond (NT ops done mb) (K ⟨K5 mb++σ.sl,σ.nx,σ.hp⟩) False
   |i::r=>KP P E n ops done mb σ K (i::r)
theorem Pv{P:Program}{E:Env}{n:Nat}{ops:Array Oper}{done:List Bool}{mb:List MB}{σ:St}{K:St→Prop}(nO:Nat.beq done.length ops.size=true)(nr:Ey ops=true)
  (h:NN (JQ ops done mb) fun L=>match L with
   |[]=>cond (NT ops done mb) (K ⟨K5 mb++σ.sl,σ.nx,σ.hp⟩) False
   |i::r=>KP P E n ops done mb σ K (i::r)):C7 P E n ops done mb σ K:=by
 have h:=NO h
 split at h
 ·rename_i hr
  obtain⟨ha,h⟩:=cond_false h
  exact WM nO nr (fun _=>h) (by rw[hr];trivial)
 ·rename_i i r hr
  refine WM nO nr (fun ha=>?_) (by rw[hr];exact h.h)
  exfalso
  have oZ:i∈JQ ops done mb:=by rw[hr];simp
  unfold JQ at oZ
  rw[List.mem_filter]at oZ
  have h2:=List.all_eq_true.1 ha i oZ.1
  have h3:=oZ.2
  simp only[Bool.and_eq_true,Bool.not_eq_true']at h3
  rw[h3.1.1,h3.1.2]at h2
  cases h2
theorem Pw{P:Program}{E:Env}{n:Nat}{ops:Array Oper}{done:List Bool}{mb:List MB}{σ:St}{K:St→Prop}(nO:Nat.beq done.length ops.size=true)(nr:Ey ops=true)(h:kN P E n ops done mb σ K):C7 P E n ops done mb σ K:=by
 unfold kN at h
 split at h
 ·rename_i i hi
  have hc:=List.find?_some hi
  split at h
  ·rename_i d op ty pos after pd
   simp only[RV,pd,Bool.and_eq_true,Bool.not_eq_true']at hc
   exact Sd pd hc.2.2 hc.2.1.2 hc.1.1.1 (Y0 h)
  ·exact h.elim
 ·split at h
  ·rename_i i hi
   have hc:=List.find?_some hi
   split at h
   ·rename_i d T x ty pos after pd
    have h:=Y0 h
    split at h
    ·rename_i b off hx
     split at h
     ·rename_i τ l hb
      simp only[fy,pd,Bool.and_eq_true,Bool.not_eq_true']at hc
      obtain⟨av,hq,h⟩:=dQ (τ:=τ) hx h
      exact Pu pd hc.2.1.2 hc.2.1.1.2 hc.1.1.1 hq (fun p hp=>by rw[List.mem_singleton.1 hp];exact hb) h
     ·exact h.elim
    ·exact h.elim
   ·exact h.elim
  ·exact Pv nO nr h
theorem FQ{P:Program}{E:Env}{n:Nat}{ops:Array Oper}{σ:St}{K:St→Prop}(h:C7 P E n ops (O3 ops) [] σ K):D2 P E n ops ops.size (O3 ops) σ K:=fun a w hs =>
 h (fun m hm=>by cases hm) (fun m hm=>by cases hm) (fun m hm=>by cases hm) rfl ops.size (O3 ops) a w (by simp[O3]) (fun i h=>h) (fun i h=>.inl h) (by
  have:=List.count_le_length (a:=false) (l:=O3 ops)
  simpa [O3]using this) hs
theorem H4{P:Program}{E:Env}{n:Nat}{ops:Array Oper}{σ:St}{Q:Exit→St→Prop}{id:Nat}[hm:JH P](S:St)(h:KM (O3 ops) fun d=>Bi σ.sl fun sl=>C7 P E n ops d [] ⟨sl,σ.nx,σ.hp⟩ fun σ'=>St.le E n σ' S)(k:Q .normal S):Ch P E n id ops σ Q:=JN S (FQ (Y0 (Ef h))) k
def kO(S:Nat→List AV→Prop):List Nat→List AV→Prop
 |[],l=>l=[]
 |t::r,l=>∃a b,S t a∧kO S r b∧l=a++b
def kP(S:List AV→Prop):Nat→List AV→Prop
 |0,l=>l=[]
 |n+1,l=>∃a b,S a∧kP S n b∧l=a++b
def JR(P:Program)(tot:Nat):List Field→Nat→Bool
 |[],o=>Nat.beq o tot
 |f::r,o=>Nat.beq f.offset o && JR P tot r (o+P.cellsOf f.type)
def Sh(P:Program):Nat→TypeId→List AV→Prop
 |0,_,_=>False
 |f+1,t,l=>match P.underlying t with
  |some .bool=>∃b,l=[.v (.bool b)]
  |some (.int k)=>∃n,(Lit.int k n).wf=true∧l=[.v (.int k n)]
  |some .string=>∃s,s.length≤maxLen∧l=[.str s]
  |some (.slice e)=>∃ls,ls.length≤maxLen∧(∀x∈ls,Sh P f e x)∧l=[.sl (P.cellsOf e) ls]
  |some (.struct fs)=>JR P (P.cellsOf t) fs.toList 0=true→kO (Sh P f) (fs.toList.map (·.type)) l
  |some (.array n e)=>P.cellsOf t=n*P.cellsOf e→kP (Sh P f e) n l
  |_=>True
def Gq:Nat→Prop:=fun _=>False
def DR(w:World)(l:List AV)(cs:List Value):Prop:=l.length=cs.length∧∀(j:Nat) x y,l[j]?=some x→cs[j]?=some y→Im Gq w x y
theorem DR.nil{w:World}:DR w [] []:=⟨rfl,fun j x y h=>by simp at h⟩
theorem DR.one{w:World}{a:AV}{v:Value}(h:Im Gq w a v):DR w [a] [v]:=⟨rfl,fun j x y hx hy=>by
 cases j with
 |zero=>simp at hx hy;subst hx hy;exact h
 |succ j=>simp at hx⟩
theorem DR.app{w:World}{l m:List AV}{cs ds:List Value}(h:DR w l cs)(h':DR w m ds):DR w (l++m) (cs++ds):=by
 refine⟨by rw[List.length_append,List.length_append,h.1,h'.1],fun j x y hx hy=>?_⟩
 by_cases hj:j<l.length
 ·rw[List.getElem?_append_left hj]at hx
  rw[List.getElem?_append_left (by rw[←h.1];exact hj)]at hy
  exact h.2 j x y hx hy
 ·rw[List.getElem?_append_right (by omega)]at hx
  rw[List.getElem?_append_right (by rw[←h.1];omega),←h.1]at hy
  exact h'.2 _ x y hx hy
theorem DR.raw{w:World}(cs:List Value):DR w (cs.map .v) cs:=⟨by simp,fun j x y hx hy=>by
 rw[List.getElem?_map,hy]at hx
 simp at hx;subst hx;exact .v _⟩
theorem Ha{α β:Type}{f:α→Option β}:∀{l:List α} {r:List β},l.mapM f=some r→r.length=l.length∧∀(i:Nat) x,l[i]?=some x→∃y,r[i]?=some y∧f x=some y
 |[],r,h=>by simp at h;subst h;simp
 |a::l,r,h=>by
  rw[List.mapM_cons]at h
  cases ha:f a with
  |none=>rw[ha]at h;cases h
  |some y =>
   rw[ha]at h
   cases hl:l.mapM f with
   |none=>rw[hl]at h;cases h
   |some r' =>
    rw[hl]at h
    cases h
    obtain⟨h1,h2⟩:=Ha hl
    refine⟨by simp[h1],fun i x hi=>?_⟩
    cases i with
    |zero=>simp at hi;subst hi;exact⟨y,rfl,ha⟩
    |succ i=>simp at hi;simpa using h2 i x hi
theorem VK{w:World}{base:Nat}{a:Addr}{n:Nat}{cs:List Value}(h:w.cells? base a n=some cs):cs.length=n∧∀j,j<n→∃v,cs[j]?=some v∧w.cell? (a.add j)=some v:=by
 unfold World.cells? at h
 split at h
 ·obtain⟨h1,h2⟩:=Ha h
  rw[List.length_range]at h1
  refine⟨h1,fun j hj=>?_⟩
  obtain⟨y,hy,hc⟩:=h2 j j (by rw[List.getElem?_range hj])
  exact⟨y,hy,hc⟩
 ·cases h
theorem dR{α:Type}(n:Nat)(f:Nat→α)(i:Nat):((List.range n).map f)[i]?=if i<n then some (f i)else none:=by
 by_cases h:i<n
 ·simp[h]
 ·simp[h]
section
variable {H:Type} {enc:TypeId×Value→H} {P:Program} {w:World} {base:Nat} {spare:Nat→Bool} {held:Bool}
theorem Px{S:Nat→List AV→Prop}{T:Nat→List Value→Option (DataW H×List MemPlace)}(hT:∀t cs y,T t cs=some y→∃l,S t l∧DR w l cs){tot:Nat}(cs:List Value)(oe:cs.length=tot):
  ∀(fs:List Field) (o:Nat) {r},JR P tot fs o=true→(fs.mapM fun f=>T f.type ((cs.drop f.offset).take (P.cellsOf f.type)))=some r→∃l,kO S (fs.map (·.type)) l∧DR w l (cs.drop o)
 |[],o,r,hc,h=>by
  have:o=tot:=Nat.eq_of_beq_eq_true hc
  exact⟨[],rfl,by rw[List.drop_of_length_le (by omega)];exact .nil⟩
 |f::fs,o,r,hc,h=>by
  simp only[JR,Bool.and_eq_true]at hc
  have ho:f.offset=o:=Nat.eq_of_beq_eq_true hc.1
  rw[List.mapM_cons]at h
  cases ha:T f.type ((cs.drop f.offset).take (P.cellsOf f.type))with
  |none=>rw[ha]at h;cases h
  |some y =>
   rw[ha]at h
   cases hl:(fs.mapM fun f=>T f.type ((cs.drop f.offset).take (P.cellsOf f.type)))with
   |none=>rw[hl]at h;cases h
   |some r' =>
    obtain⟨a,zO,yb⟩:=hT _ _ _ ha
    obtain⟨b,oo,nt⟩:=Px hT cs oe fs _ hc.2 hl
    refine⟨a++b,⟨a,b,zO,oo,rfl⟩,?_⟩
    have:=yb.app nt
    rw[ho,←List.drop_drop,List.take_append_drop]at this
    exact this
theorem Sf{S:List AV→Prop}{c:Nat}{T:List Value→Option (DataW H×List MemPlace)}(hT:∀cs y,T cs=some y→∃l,S l∧DR w l cs)(cs:List Value):
  ∀(n i:Nat),cs.length=(i+n)*c→(∀k,k<n→∃y,T ((cs.drop ((i+k)*c)).take c)=some y)→∃l,kP S n l∧DR w l (cs.drop (i*c))
 |0,i,hl,_=>⟨[],rfl,by rw[List.drop_of_length_le (by rw[hl,Nat.add_zero];exact Nat.le_refl _)];exact .nil⟩
 |n+1,i,hl,h=>by
  obtain⟨y,hy⟩:=h 0 (by omega)
  obtain⟨a,zO,yb⟩:=hT _ _ hy
  obtain⟨b,oo,nt⟩:=Sf hT cs n (i+1) (by rw[hl];congr 1;omega) (fun k hk=>by
   obtain⟨z,hz⟩:=h (k+1) (by omega)
   exact⟨z,by rw[show i+1+k=i+(k+1) by omega];exact hz⟩)
  refine⟨a++b,⟨a,b,zO,oo,rfl⟩,?_⟩
  have:=yb.app nt
  rw[Nat.add_zero,Nat.add_mul,Nat.one_mul,←List.drop_drop,List.take_append_drop]at this
  exact this
theorem gl:∀(nS:Nat) (t:TypeId) (cs:List Value) (y:DataW H×List MemPlace),DataW.trod enc P w base spare held nS t cs=some y→∃l,Sh P nS t l∧DR w l cs:=by
 intro nS
 induction nS with
 |zero=>intro t cs y h;simp[DataW.trod]at h
 |succ f ih =>
  intro t cs y h
  have raw:(∀l,Sh P (f+1) t l)→∃l,Sh P (f+1) t l∧DR w l cs:=fun oX=>⟨_,oX _,.raw cs⟩
  unfold DataW.trod at h
  split at h
  ·rename_i ht
   exact⟨[.v (.bool _)],by simp only[Sh,ht];exact⟨_,rfl⟩,.one (.v _)⟩
  ·rename_i k k' n ht
   split at h
   ·rename_i hk
    obtain⟨rfl,hwf⟩:=hk
    exact⟨[.v (.int k' n)],by simp only[Sh,ht];exact⟨_,hwf,rfl⟩,.one (.v _)⟩
   ·cases h
  ·rename_i ht;exact raw fun l=>by simp only[Sh,ht]
  ·rename_i s ht
   split at h
   ·rename_i hs
    refine⟨[.str s.data.toList],by simp only[Sh,ht];exact⟨_,by rw[Array.length_toList];exact hs,rfl⟩,.one ?_⟩
    have:=Im.str (U:=Gq) (w:=w) s.data.toList
    simpa using this
   ·cases h
  ·rename_i ht;exact raw fun l=>by simp only[Sh,ht]
  ·rename_i ht;exact raw fun l=>by simp only[Sh,ht]
  ·rename_i e ht
   exact⟨[.sl (P.cellsOf e) []],by simp only[Sh,ht];exact⟨[],Nat.zero_le _,(fun x hx=>by cases hx),rfl⟩,.one (.slnil _)⟩
  ·rename_i e a len cap ht
   simp only at h
   split at h
   ·rename_i hb
    obtain⟨pE,ww,sc⟩:=hb
    rw[Option.bind_eq_some_iff]at h
    obtain⟨elems,nN,_⟩:=h
    obtain⟨_,rX⟩:=Ha nN
    have key:∀i,∃p:List AV×List Value,i<len→Sh P f e p.1∧DR w p.1 p.2∧p.2.length=P.cellsOf e∧∀j,j<P.cellsOf e→∃v,p.2[j]?=some v∧w.cell? (a.add (i*P.cellsOf e+j))=some v:=by
     intro i
     by_cases hi:i<len
     ·obtain⟨z,_,hz⟩:=rX i i (by rw[List.getElem?_range hi])
      rw[Option.bind_eq_some_iff]at hz
      obtain⟨csi,oe,wv⟩:=hz
      obtain⟨nO,oL⟩:=VK oe
      obtain⟨l,hsh,hp⟩:=ih _ _ _ wv
      exact⟨(l,csi),fun _=>⟨hsh,hp,nO,fun j hj=>by
       obtain⟨v,hv,hc⟩:=oL j hj
       rw[DW]at hc
       exact⟨v,hv,hc⟩⟩⟩
     ·exact⟨([],[]),fun h=>absurd h hi⟩
    have sa:=fun i=>Classical.choose_spec (key i)
    generalize hg:(fun i=>Classical.choose (key i))=g at sa
    have gi:∀i,Classical.choose (key i)=g i:=fun i=>congrFun hg i
    simp only[gi]at sa
    refine⟨[.sl (P.cellsOf e) ((List.range len).map fun i=>(g i).1)],?_,.one ?_⟩
    ·simp only[Sh,ht]
     refine⟨_,by simp;omega,fun x hx=>?_,rfl⟩
     obtain⟨i,hi,rfl⟩:=List.mem_map.1 hx
     exact(sa i (List.mem_range.1 hi)).1
    ·have hl:((List.range len).map fun i=>(g i).1).length=len:=by simp
     have:=Im.sl (U:=Gq) (w:=w) (P.cellsOf e) ((List.range len).map fun i=>(g i).1) a cap (fun i j=>(g i).2.getD j undef) (by rw[hl];exact ww) sc (fun _ _ h=>h)
      (fun x hx=>by
       obtain⟨i,hi,rfl⟩:=List.mem_map.1 hx
       obtain⟨_,h1,h2,_⟩:=sa i (List.mem_range.1 hi)
       rw[h1.1,h2])
      (fun i hi j hj=>by
       rw[hl]at hi
       obtain⟨_,_,_,h3⟩:=sa i hi
       obtain⟨v,hv,hc⟩:=h3 j hj
       simp only[List.getD_eq_getElem?_getD,hv]
       exact hc)
      (fun i x hx j u hu=>by
       rw[dR]at hx
       split at hx
       ·rename_i hi
        cases hx
        obtain⟨_,h1,h2,h3⟩:=sa i hi
        have hj:j<P.cellsOf e:=by rw[←h2,←h1.1];exact(List.getElem?_eq_some_iff.1 hu).1
        obtain⟨v,hv,_⟩:=h3 j hj
        simp only[List.getD_eq_getElem?_getD,hv]
        exact h1.2 j u v hu hv
       ·cases hx)
     rw[hl]at this
     exact this
   ·cases h
  ·rename_i fs ht
   split at h
   ·rename_i hl
    rw[Option.map_eq_some_iff]at h
    obtain⟨r,hr,_⟩:=h
    by_cases hc:JR P (P.cellsOf t) fs.toList 0=true
    ·obtain⟨l,h1,h2⟩:=Px (S:=Sh P f) (fun t cs y h=>ih t cs y h) _ hl fs.toList 0 hc hr
     exact⟨l,by simp only[Sh,ht];exact fun _=>h1,by simpa using h2⟩
    ·exact raw fun l=>by simp only[Sh,ht];exact fun h=>absurd h hc
   ·cases h
  ·rename_i n e ht
   split at h
   ·rename_i hl
    rw[Option.map_eq_some_iff]at h
    obtain⟨r,hr,_⟩:=h
    by_cases hc:P.cellsOf t=n*P.cellsOf e
    ·obtain⟨_,pT⟩:=Ha hr
     obtain⟨l,h1,h2⟩:=Sf (S:=Sh P f e) (c:=P.cellsOf e) (T:=fun cs=>DataW.trod enc P w base spare held f e cs) (fun cs y h=>ih e cs y h) _ n 0 (by rw[hl,hc,Nat.zero_add]) (fun k hk=>by
      obtain⟨z,_,hz⟩:=pT k k (by rw[List.getElem?_range hk])
      exact⟨z,by rw[Nat.zero_add];exact hz⟩)
     exact⟨l,by simp only[Sh,ht];exact fun _=>h1,by simpa using h2⟩
    ·exact raw fun l=>by simp only[Sh,ht];exact fun h=>absurd h hc
   ·cases h
  all_goals first
   |cases h;done
   |(rename_i ht;exact raw (by intro l;simp only[Sh,ht]))
   |(rename_i ht;split at h<;>first|(cases h;done)|exact raw (by intro l;simp only[Sh,ht]))
   |(rename_i ht _;exact raw (by intro l;simp only[Sh,ht]))
def EA(P:Program)(t:TypeId)(a:AV):Prop:=match P.underlying t with
 |some (.struct _)|some (.array _ _)=>∃nS l,a=.agg l∧Sh P nS t l
 |_=>∃nS,Sh P nS t [a]
theorem Sg{v:Value}(h:∀cs,v≠.agg cs):v.cells=#[v]:=by
 cases v<;>first|rfl|exact absurd rfl (h _)
theorem VL{r:Reach}{b0:Nat}{t:TypeId}{v:Value}(h:Cell.okWide P w r b0 t v):∀cs,v≠.agg cs:=by
 rintro cs rfl
 simp only[Cell.okWide,Cell.ok]at h
 split at h<;>simp_all
theorem dS{r:Reach}{b0:Nat}{t:TypeId}{v:Value}{d:DataW H}{ps:List MemPlace}(pM:Value.okWide P w r b0 t v)(h:DataW.Trod enc P w base spare held t v d ps):∃a,EA P t a∧Im Gq w a v:=by
 obtain⟨nS,h⟩:=h
 obtain⟨l,hs,hp⟩:=gl nS t _ _ h
 have one:(∀cs,v≠.agg cs)→∃a,l=[a]∧Im Gq w a v:=by
  intro yN
  rw[Sg yN]at hp
  obtain⟨h1,h2⟩:=hp
  match l,h1,h2 with
  |[a],_,h2=>exact⟨a,rfl,h2 0 a v rfl rfl⟩
 have agg:∀cs,v=.agg cs→Im Gq w (.agg l) v:=by
  rintro cs rfl
  have sM:DR w l cs.toList:=hp
  have:=Im.agg (U:=Gq) (w:=w) l cs.toList sM.1 sM.2
  simpa using this
 unfold EA
 unfold Value.okWide at pM
 split at pM
 ·rename_i ht
  obtain⟨cs,hv,_⟩:=pM
  exact⟨.agg l,(by simp only[ht];exact⟨nS,l,rfl,hs⟩),agg cs hv⟩
 ·rename_i ht
  obtain⟨cs,hv,_⟩:=pM
  exact⟨.agg l,(by simp only[ht];exact⟨nS,l,rfl,hs⟩),agg cs hv⟩
 ·obtain⟨a,rfl,ha⟩:=one (VL pM)
  refine⟨a,?_,ha⟩
  split
  all_goals first|exact⟨nS,hs⟩|(exfalso;simp_all)
def KQ(P:Program):List TypeId→List AV→Prop
 |[],l=>l=[]
 |t::ts,l=>∃a r,l=a::r∧EA P t a∧KQ P ts r
theorem Py{r:Reach}{b0:Nat}:∀{ts:List TypeId} {vs:List Value} {ds:List (DataW H)} {ps:List MemPlace},(∀(j:Nat) t v,ts[j]?=some t→vs[j]?=some v→Value.okWide P w r b0 t v)→DataW.TrodAll enc P w base spare held ts vs ds ps →
  ds.length=ts.length∧∃l,KQ P ts l∧l.length=vs.length∧∀(j:Nat) a v,l[j]?=some a→vs[j]?=some v→Im Gq w a v
 |[],[],[],ps,_,_=>⟨rfl,[],rfl,rfl,fun j a v h=>by simp at h⟩
 |[],[],_::_,ps,_,h=>h.elim
 |[],_::_,_,ps,_,h=>h.elim
 |_::_,[],_,ps,_,h=>h.elim
 |_::_,_::_,[],ps,_,h=>h.elim
 |t::ts,v::vs,d::ds,ps,pM,h=>by
  obtain⟨p,q,h1,h2,_⟩:=h
  obtain⟨a,ha,hi⟩:=dS (pM 0 t v rfl rfl) h1
  obtain⟨hd,l,hl,nO,hr⟩:=Py (ts:=ts) (vs:=vs) (fun j t v ht hv=>pM (j+1) t v (by simpa using ht) (by simpa using hv)) h2
  refine⟨by simp[hd],a::l,⟨a,l,rfl,ha,hl⟩,by simp[nO],fun j x y hx hy=>?_⟩
  cases j with
  |zero=>simp at hx hy;subst hx hy;exact hi
  |succ j=>exact hr j x y (by simpa using hx) (by simpa using hy)
theorem Pz(hl:laidOutB P=true){w':World}(hb:Below w.heap.size w w'):∀{ts:List TypeId} {vs:List Value} {ds:List (DataW H)} {ps:List MemPlace},(ts.all fun t=>P.readableRec t && decide (t<P.types.size))=true→(∀x∈ps,x.block<w.heap.size) →
  DataW.TrodAll enc P w 0 (fun _=>true) true ts vs ds ps→DataW.TrodAll enc P w' 0 (fun b=>decide (b<w.heap.size)) true ts vs ds ps
 |[],[],[],ps,_,_,h=>h
 |[],[],_::_,ps,_,_,h=>h.elim
 |[],_::_,_,ps,_,_,h=>h.elim
 |_::_,[],_,ps,_,_,h=>h.elim
 |_::_,_::_,[],ps,_,_,h=>h.elim
 |t::ts,v::vs,d::ds,ps,hr,nR,h=>by
  obtain⟨p,q,h1,h2,rfl⟩:=h
  rw[List.all_cons,Bool.and_eq_true,Bool.and_eq_true]at hr
  exact⟨p,q,Below.trod hl hr.1.1 (of_decide_eq_true hr.1.2) h1 hb fun x hx=>nR x (by simp[hx]),Pz hl hb hr.2 (fun x hx=>nR x (by simp[hx])) h2,rfl⟩
theorem dT{f:Nat}{fn:Func}{s:ChangeSpec}{tb:TypeId}{handsOn:Bool}{W:World}{args:Array Value}{ds gs:List (DataW H)}{before:List MemPlace}{b0:Nat}{r:Reach}
  (hl:laidOutB P=true) (hr:(fn.params.toList.all fun t=>P.readableRec t && decide (t<P.types.size))=true) (qx:P.underlying tb=some .bool) (vk:fn.resultTypes=#[tb])
  (ur:s.vars=[]) (hs:∀ds:List (DataW H),ds.length=fn.params.toList.length→s.fn H (ds++[])={ results:=[.lit (.bool true)],args:=ds })
  (rB:∀l,KQ P fn.params.toList l→A3 P f l (.b true))
  (oM:Q4 Gq W) (hval:∀(j:Nat) t v,fn.params[j]?=some t→args[j]?=some v→Value.okWide P W r b0 t v)
  (hW:DataW.Whole enc P fn.params.toList s.vars false W args.toList ds gs before) :
  Calls P f args W fun e W'=>∃v,e=.returned v∧s.post enc P fn false true handsOn false W args v W':=by
 have hW0:=hW
 obtain⟨p,q,hA,hV,rfl,hfz,un⟩:=hW
 obtain⟨qI,l,hsh,rl,oO⟩:=Py (r:=r) (b0:=b0) (fun j t v ht hv=>hval j t v (by simpa using ht) (by simpa using hv)) hA
 have nR:∀x∈p++q,x.block<W.heap.size:=fun x hx=>hW0.lt x hx
 rw[ur]at hV
 obtain⟨rfl,rfl⟩:gs=[]∧q=[]:=by
  cases gs with
  |nil=>exact⟨rfl,hV⟩
  |cons a b=>exact hV.elim
 have hc:=(rB l hsh).2 Gq W args.toList (fun k hk=>hk.elim) oM rl oO
 have ea:args.toList.toArray=args:=by simp
 rw[ea]at hc
 refine hc.mono fun e W' ⟨v,he,hi,hb⟩=>?_
 subst he
 cases hi
 refine⟨_,rfl,ds,[],p++[],[],p,[],hW0,?_,?_,?_,?_,fun h=>by cases h⟩
 ·rw[vk,hs ds qI]
  exact⟨[],[],shut_bool qx true,rfl,rfl⟩
 ·rw[hs ds qI]
  exact Pz hl hb hr (fun x hx=>nR x (by simp[hx])) hA
 ·rw[ur,hs ds qI]
  rfl
 ·exact Below.frame hb _
end
section
variable {P:Program}
theorem kQ{k:IntKind}{n:Int}(h:(Lit.int k n).wf=true):k.min≤n∧n≤k.max:=by
 simpa [Lit.wf]using h
theorem wf_u8{n:Int}(h:(Lit.int .u8 n).wf=true):0≤n∧n<256:=by
 obtain⟨h1,h2⟩:=kQ h
 have e1:IntKind.min .u8=0:=rfl
 have e2:IntKind.max .u8=255:=rfl
 omega
theorem kR{f t:Nat}{l:List AV}{k:IntKind}(ht:P.underlying t=some (.int k))(h:Sh P f t l):∃n,(Lit.int k n).wf=true∧l=[.v (.int k n)]:=by
 cases f with
 |zero=>exact h.elim
 |succ f=>simpa only[Sh,ht]using h
theorem dU{f t e c:Nat}{l:List AV}(ht:P.underlying t=some (.slice e))(hc:P.cellsOf e=c)(h:Sh P f t l):∃f' ls,ls.length≤maxLen∧(∀x∈ls,Sh P f' e x)∧l=[.sl c ls]∧f=f'+1:=by
 cases f with
 |zero=>exact h.elim
 |succ f =>
  simp only[Sh,ht]at h
  obtain⟨ls,h1,h2,h3⟩:=h
  exact⟨f,ls,h1,h2,by rw[h3,hc],rfl⟩
def dV(P:Program)(t:Nat):Bool:=match P.underlying t with
 |some (.struct _)|some (.array _ _)=>true
 |_=>false
theorem gn{t:Nat}{a:AV}(ht:dV P t=false)(h:EA P t a):∃nS,Sh P nS t [a]:=by
 unfold EA at h
 unfold dV at ht
 split at ht
 ·cases ht
 ·cases ht
 ·split at h
  all_goals first|exact h|(exfalso;simp_all)
theorem aL{t e c:Nat}{a:AV}(ht:P.underlying t=some (.slice e))(hc:P.cellsOf e=c)(h:EA P t a):∃f ls,ls.length≤maxLen∧(∀x∈ls,Sh P f e x)∧a=.sl c ls:=by
 obtain⟨f,h⟩:=gn (by simp[dV,ht]) h
 obtain⟨f',ls,h1,h2,h3,_⟩:=dU ht hc h
 exact⟨f',ls,h1,h2,by simpa using h3⟩
theorem Si{α:Type}{F:α→List AV}{R:α→Prop}:∀{ls:List (List AV)},(∀x∈ls,∃y,R y∧x=F y)→∃l:List α,ls=l.map F∧∀y∈l,R y
 |[],_=>⟨[],rfl,fun y h=>by cases h⟩
 |x::r,h=>by
  obtain⟨y,hy,e⟩:=h x (by simp)
  obtain⟨l,hl,hr⟩:=Si (ls:=r) fun z hz=>h z (by simp[hz])
  refine⟨y::l,by simp[e,hl],fun z hz=>?_⟩
  rcases List.mem_cons.1 hz with rfl|hz
  ·exact hy
  ·exact hr z hz
abbrev O2(b:UInt8):List AV:=[.v (.int .u8 b.toNat)]
theorem aM{t e:Nat}{a:AV}(ht:P.underlying t=some (.slice e))(he:P.underlying e=some (.int .u8))(hc:P.cellsOf e=1)(h:EA P t a):∃l:List UInt8,l.length≤maxLen∧a=.sl 1 (l.map O2):=by
 obtain⟨f,ls,h1,h2,h3⟩:=aL ht hc h
 obtain⟨l,hl,_⟩:=Si (F:=O2) (R:=fun _=>True) (ls:=ls) (fun x hx=>by
  obtain⟨n,hw,e⟩:=kR he (h2 x hx)
  obtain⟨g1,g2⟩:=wf_u8 hw
  refine⟨UInt8.ofNat n.toNat,trivial,?_⟩
  rw[e,O2,UInt8.toNat_ofNat']
  rw[show ((n.toNat % 2 ^ 8:Nat):Int)=n by omega])
 exact⟨l,by rw[hl,List.length_map]at h1;exact h1,by rw[h3,hl]⟩
end
theorem Xw{α:Type}{l:List UInt8}{f:UInt8→α}{k:Nat}{F:α→Prop}(h:k<l.length)(kk:∀x,l[k]?=some x→x.toNat<256→F (f x)):O6 (l.map f) (k:Int) F:=Aj h fun x hx=>kk x hx x.toNat_lt
theorem aN{α:Type}{l:List UInt8}{f:UInt8→α}{i:Int}{F:α→Prop}(h0:0≤i)(h:i<l.length)(kk:∀x,l[i.toNat]?=some x→x.toNat<256→F (f x)):O6 (l.map f) i F:=n9 h0 h fun x hx=>kk x hx x.toNat_lt
theorem gp{l:List UInt8}{i:Int}{F:UInt8→Prop}(h0:0≤i)(h:i<l.length)(kk:∀x,l[i.toNat]?=some x→x.toNat<256→F x):O6 l i F:=Zq h0 h fun x hx=>kk x hx x.toNat_lt
theorem gq{P:Program}{S T:Nat}{k':IntKind}{b:UInt8}{F:AV→Prop}[Q5 P T .i64][Q5 P S k'](kk:F (.v (.int .i64 b.toNat))):BB P S T (.v (.int k' b.toNat)) F:=gZ (O5 (by have:=b.toNat_lt;omega)) kk
theorem Y6{P:Program}{E:Env}{n:Nat}{ops:Array Oper}{rest:List Oper}{σ:St}{K:St→Prop}{d:Nat}{ty:TypeId}{pos:String}{after:Array Edge}{T len:Nat}{parts:List (Nat×Operand)}(hd:Nat.blt d n=true)
  (h:match BU (E9 σ) parts with
   |some ps=>FN P T fun e sz _ _=>cond (Ca 0 ps && p9 sz (M0 ps) && Nat.beq ps.length len && Nat.blt 0 sz && Nat.blt e K8) (F5 (len*sz≤16777216) (Dy σ.hp ps (ND (M0 ps) (G5 σ.nx fun nx=>B0 P E n ops rest ((σ.new (.row e sz 0 (M0 ps))).put d (.row nx 0 len)) K)))) False
   |none=>False):B0 P E n ops (⟨some d,.buildSlice T len ⟨parts⟩,ty,pos,after,none⟩::rest) σ K:=by
 split at h
 ·rename_i ps he
  obtain⟨⟨e,sz,bs,z,ts,tz,tb,hz,h⟩⟩:=h
  obtain⟨hc,h⟩:=cond_false h
  simp only[Bool.and_eq_true,Nat.beq_eq]at hc
  obtain⟨⟨⟨⟨h1,h2⟩,h3⟩,h4⟩,qR⟩:=hc
  obtain⟨h5,h⟩:=h
  obtain⟨h6,h⟩:=o0 h
  obtain⟨h7,h⟩:=Eb h
  exact Mu (e:=e) (sz:=sz) (z:=z) he h6 h1 h2 h3 hz h5 (Nat.blt_eq▸h4) h7 (Nat.blt_eq▸qR) hd (D8 h)
 ·exact h.elim
def Sj:AV→Bool
 |.v x=>Xg x
 |.str _|.sl _ _|.iptr _|.fn _ _=>true
 |_=>false
theorem LF{x:AV}(h:Sj x=true):X8 x:=by
 cases x<;>first|exact JC h|trivial|cases h
theorem mi{m:List (List AV)}(h:(m.all fun el=>el.all Sj)=true):∀el∈m,∀u∈el,X8 u:=fun el nN u hu =>
 LF (List.all_eq_true.1 (List.all_eq_true.1 h el nN) u hu)
theorem gr{α:Type}{l:List α}{f:α→List AV}(h:∀x,(f x).all Sj=true):∀el∈l.map f,∀u∈el,X8 u:=fun el nN u hu=>by
 obtain⟨x,_,rfl⟩:=List.mem_map.1 nN
 exact LF (List.all_eq_true.1 (h x) u hu)
theorem G3(id:Nat){P:Program}{E:Env}{n:Nat}{ops:Array Oper}{σ:St}{Q:Exit→St→Prop}(h:Ch P E n id ops σ Q):Ch P E n id ops σ Q:=h
def WN(o:Oper):Bool:=o.dst.isSome && match o.op with
 |.box ..|.alloc ..|.makeSlice ..|.makeMap ..|.mapUpdate ..|.store ..=>false
 |.call ⟨.builtin .append,_,_⟩=>false
 |_=>true
theorem kS{P:Program}{E:Env}{n:Nat}{ops:Array Oper}{σ:St}{id:Nat}{Q:Exit→St→Prop}[hm:JH P](hq:ops.toList.all WN=true)(hd:Ed ops=true)(h:DQ P E n ops ops.toList σ fun σ'=>Q .normal σ'):Ch P E n id ops σ Q :=
 B8 hd h
theorem P5{P:Program}{E:Env}{n:Nat}{ops:Array Oper}{σ σ':St}{id:Nat}{Q:Exit→St→Prop}(h:St.le E n σ σ')(k:Ch P E n id ops σ' Q):Ch P E n id ops σ Q:=⟨x4 h k.h⟩
def Dp(sl:List (Nat×AV)):List Nat→List (Nat×AV)
 |[]=>[]
 |s::r=>match look sl s with
  |some x=>(s,x)::Dp sl r
  |none=>Dp sl r
def l4(hp:Hp):Nat→Hp
 |0=>[]
 |i+1=>match A5 hp i with
  |some b=>(i,some b)::l4 hp i
  |none=>l4 hp i
theorem Hb{sl:List (Nat×AV)}:∀{l:List Nat} {s:Nat} {x:AV},look (Dp sl l) s=some x→look sl s=some x
 |[],s,x,h=>by cases h
 |t::r,s,x,h=>by
  unfold Dp at h
  cases hx:look sl t with
  |none=>rw[hx]at h;exact Hb h
  |some y =>
   rw[hx]at h
   simp only[E4]at h
   by_cases e:t=s
   ·subst e;rw[if_pos rfl]at h;rw[hx];exact h
   ·rw[if_neg e]at h;exact Hb h
theorem GT{hp:Hp}:∀(m i:Nat),A5 (l4 hp m) i=if i<m then A5 hp i else none
 |0,i=>by simp[l4,A5,look]
 |m+1,i=>by
  unfold l4
  cases hx:A5 hp m with
  |none =>
   simp only
   rw[GT m i]
   by_cases e:i=m
   ·subst e;simp[hx]
   ·by_cases h:i<m
    ·rw[if_pos h,if_pos (by omega)]
    ·rw[if_neg h,if_neg (by omega)]
  |some b =>
   simp only[F4]
   by_cases e:m=i
   ·subst e;simp[hx]
   ·rw[if_neg e,GT m i]
    by_cases h:i<m
    ·rw[if_pos h,if_pos (by omega)]
    ·rw[if_neg h,if_neg (by omega)]
theorem aO{E:Env}{n:Nat}{σ:St}(oW:List Nat):St.le E n σ ⟨Dp σ.sl oW,σ.nx,l4 σ.hp σ.nx⟩:=by
 rintro a w ⟨θ,h⟩
 have e:∀i,A5 (l4 σ.hp σ.nx) i=A5 σ.hp i:=by
  intro i
  rw[GT]
  by_cases hi:i<σ.nx
  ·rw[if_pos hi]
  ·rw[if_neg hi]
   cases hx:A5 σ.hp i with
   |none=>rfl
   |some b=>exact absurd (h.owns i b hx).1 hi
 have le:(cx E θ σ w).le (cx E θ ⟨Dp σ.sl oW,σ.nx,l4 σ.hp σ.nx⟩ w):=by
  refine⟨Nat.le_refl _,fun i hi=>.inl rfl,fun i hi e' nU v' l' hl=>⟨e',v',l',?_,.inr ⟨rfl,rfl,rfl⟩⟩,Nat.le_refl _,fun k hk _=>rfl,fun k hk hu=>?_⟩
  ·have oE:A5 (l4 σ.hp σ.nx) i=some (.row e' nU v' l'):=hl
   rw[e i]at oE;exact oE
  ·rcases hu with hu|⟨i,b,hi,oH⟩
   ·exact .inl hu
   ·have oa:A5 (l4 σ.hp σ.nx) i=some b:=hi
    rw[e i]at oa
    exact .inr ⟨i,b,oa,oH⟩
 refine⟨θ,h.size,h.defers,h.fr,fun s x hs=>(h.slots s x (Hb hs)).mono le,fun i b hi=>?_,fun i j b b' k hi hj=>?_,fun i b k hi=>?_,h.X,⟨h.base.1,fun i hi=>(h.base.2 i hi).imp id fun ⟨h1,h2⟩=>⟨h1,fun ⟨e',sz,v,l,hl,hk⟩=>h2 ⟨e',sz,v,l,by rw[←e i];exact hl,hk⟩⟩⟩⟩
 ·have oa:A5 (l4 σ.hp σ.nx) i=some b:=hi
  rw[e i]at oa
  exact⟨(h.owns i b oa).1,(h.owns i b oa).2.mono le rfl (fun _=>rfl) fun k _=>rfl⟩
 ·have oa:A5 (l4 σ.hp σ.nx) i=some b:=hi
  have np:A5 (l4 σ.hp σ.nx) j=some b':=hj
  rw[e i]at oa
  rw[e j]at np
  exact h.apart i j b b' k oa np
 ·have oa:A5 (l4 σ.hp σ.nx) i=some b:=hi
  rw[e i]at oa
  exact h.mine i b k oa
def Xx(σ:St)(oW:List Nat)(F:St→Prop):Prop:=Bi (Dp σ.sl oW) fun sl=>G5 σ.nx fun nx=>S4 (l4 σ.hp nx) fun hp=>F ⟨sl,nx,hp⟩
theorem QA{σ:St}{oW:List Nat}{F:St→Prop}(h:Xx σ oW F):F ⟨Dp σ.sl oW,σ.nx,l4 σ.hp σ.nx⟩:=Q9 (F:=fun hp=>F ⟨Dp σ.sl oW,σ.nx,hp⟩) (D8 (F:=fun nx=>S4 (l4 σ.hp nx) fun hp=>F ⟨Dp σ.sl oW,nx,hp⟩) (Y0 h))
section rules
variable {P:Program} {E:Env} {n:Nat} {ops:Array Oper} {rest:List Oper} {σ:St} {K:St→Prop} {Q:Exit→St→Prop}
theorem FR{l:List Oper}(oW:List Nat)(h:Xx σ oW fun σ'=>B0 P E n ops l σ' K):B0 P E n ops l σ K:=Ex (aO oW) (QA (F:=fun σ'=>B0 P E n ops l σ' K) h)
theorem dW{c:Code}(oW:List Nat)(h:Xx σ oW fun σ'=>NJ P E n c σ' Q):NJ P E n c σ Q:=⟨x4 (aO oW) (QA (F:=fun σ'=>NJ P E n c σ' Q) h).h⟩
theorem gu{o:Oper}{l:List AV}(i:Nat)(oW:List Nat)(h:Xx (σ.frz i) oW fun σ'=>B0 P E n ops (o::rest) σ' K):Z7 P E n ops o rest l σ K:=I6 i (FR oW h)
end rules
class R6(G:Prop) where
 sub:Prop
 imp:sub→G
theorem nH{G:Prop}[s:R6 G](h:s.sub):G:=s.imp h
section
variable {P:Program} {E:Env} {n:Nat} {ops:Array Oper} {l:List Oper} {σ:St} {K:St→Prop} {Q:Exit→St→Prop} {c:Code} {S T f:Nat}
instance:R6 (B0 P E n ops l σ K):=⟨kC P E n ops l σ K,DX⟩
instance:R6 (D0 P E n c σ Q):=⟨Xk P E n c σ Q,aC⟩
instance:R6 (DQ P E n ops l σ K):=⟨dI P E n ops l σ K,mC⟩
instance {ag:Bool}{sz:Nat}{F:Bool→Nat→Prop}[G2 P T ag sz]:R6 (JA P T F):=⟨F ag sz,lr⟩
instance {z:List Value}{F:List AV→Prop}[H5 P T z]:R6 (Xd P T F):=⟨F (z.map Z6),jv⟩
instance {off sz:Nat}{F:Nat→Nat→Prop}[D9 P S f off sz]:R6 (Oc P S f F):=⟨F off sz,lu⟩
instance {e sz:Nat}{F:Nat→Nat→Prop}[L7 P T e sz]:R6 (Ic P T F):=⟨F e sz,mY⟩
instance {len e sz:Nat}{F:Nat→Nat→Prop}[Lo P T len e sz]:R6 (ch P T F):=⟨F len sz,lw (e:=e)⟩
instance {A:Prop}[j3 P T]:R6 (Dn P T A):=⟨A,jw⟩
instance {A:Prop}[ZY P T]:R6 (fk P T A):=⟨A,mZ⟩
instance {A:Prop}[KG P T]:R6 (NA P T A):=⟨A,gX⟩
instance {A:Prop}[FC P T]:R6 (Gl P T A):=⟨A,gU⟩
instance {A:Prop}{k1 k2 k3:IntKind}[KI P T k1 k2 k3]:R6 (Mz P T k1 k2 k3 A):=⟨A,gV⟩
instance {A:Prop}{k:IntKind}[Eu P T k]:R6 (HR P T k A):=⟨A,ly⟩
instance {A:Prop}{k1 k2:IntKind}[KH P T k1 k2]:R6 (My P T k1 k2 A):=⟨A,gW⟩
instance {zs:List Value}{pl:List (Nat×Nat)}{F:List AV→List (Nat×Nat)→Prop}[H5 P T zs][L3 P T pl]:R6 (JB P T F):=⟨F (zs.map Z6) pl,gY⟩
instance {e sz bs:Nat}{z:List Value}{F:Nat→Nat→Nat→List AV→Prop}[L7 P T e sz][H5 P e z][N3 P e bs]:R6 (FN P T F):=⟨F5 (z.length=sz) (F e sz bs (z.map Z6)),fun h=>lz h.h h.k⟩
instance {k e:Nat}{t:TypeDesc}{z:Value}{F:TypeDesc→AV→Prop}[EZ P T k e t z]:R6 (Xe P T F):=⟨F t (Z6 z),mA⟩
instance (priority:=low) {α:Type}{l:List α}{F:Nat→Prop}:R6 (Ob l F):=⟨F l.length,lq⟩
instance {α β:Type}{l:List β}{f:β→α}{F:Nat→Prop}:R6 (Ob (l.map f) F):=⟨F l.length,gR⟩
instance (priority:=low) {k:IntKind}{m:Int}{F:AV→Prop}[Q5 P S k][j3 P T]:R6 (BB P S T (.v (.int k m)) F):=⟨F (.str (Utf8.encode m).data.toList),Zs⟩
instance {k k':IntKind}{m:Int}{F:AV→Prop}[Q5 P T k][Q5 P S k']:R6 (BB P S T (.v (.int k' m)) F):=⟨F (.v (.int k (k.wrap m))),ci⟩
instance (priority:=high) {k':IntKind}{b:UInt8}{F:AV→Prop}[Q5 P T .i64][Q5 P S k']:R6 (BB P S T (.v (.int k' b.toNat)) F):=⟨F (.v (.int .i64 b.toNat)),gq⟩
variable {A B p:Prop} {b:Bool}
instance (priority:=low):R6 (O0 b true A B):=⟨(b=true→A)∧(b=false→B),fun h=>dC h.1 h.2⟩
instance (priority:=low):R6 (O0 b false A B):=⟨(b=false→A)∧(b=true→B),fun h=>dD h.1 h.2⟩
instance (priority:=low):R6 (Bh b A B):=⟨(b=true→A)∧(b=false→B),fun h=>ju h.1 h.2⟩
instance:R6 (O0 (!b) true A B):=⟨(b=false→A)∧(b=true→B),fun h=>aA h.1 h.2⟩
instance:R6 (O0 (!b) false A B):=⟨(b=true→A)∧(b=false→B),fun h=>aB h.1 h.2⟩
instance:R6 (Bh (!b) A B):=⟨(b=false→A)∧(b=true→B),fun h=>gT h.1 h.2⟩
instance [Decidable p]:R6 (O0 (decide p) true A B):=⟨(p→A)∧(¬p→B),fun h=>dA h.1 h.2⟩
instance [Decidable p]:R6 (O0 (decide p) false A B):=⟨(¬p→A)∧(p→B),fun h=>dB h.1 h.2⟩
instance [Decidable p]:R6 (Bh (decide p) A B):=⟨(p→A)∧(¬p→B),fun h=>jt h.1 h.2⟩
instance (priority:=high) [Decidable p]:R6 (O0 (!decide p) true A B):=⟨(¬p→A)∧(p→B),fun h=>Zy h.1 h.2⟩
instance (priority:=high) [Decidable p]:R6 (O0 (!decide p) false A B):=⟨(p→A)∧(¬p→B),fun h=>Zz h.1 h.2⟩
instance (priority:=high) [Decidable p]:R6 (Bh (!decide p) A B):=⟨(¬p→A)∧(p→B),fun h=>gS h.1 h.2⟩
instance {F:List (Nat×AV)→Prop}:R6 (kM F):=⟨∀ex,F ex,mg⟩
variable {α β:Type}
class QB(G:Prop) where
 side:Prop
 sub:Prop
 imp:side→sub→G
instance (priority:=low) {l:List α}{i:Int}{F:α→Prop}:QB (O6 l i F):=⟨0≤i∧i<l.length,∀x,l[i.toNat]?=some x→F x,fun h k=>Zq h.1 h.2 k⟩
instance {l:List β}{f:β→α}{i:Int}{F:α→Prop}:QB (O6 (l.map f) i F):=⟨0≤i∧i<l.length,∀x,l[i.toNat]?=some x→F (f x),fun h k=>n9 h.1 h.2 k⟩
instance (priority:=1010) {l:List β}{f:β→α}{k:Nat}{F:α→Prop}:QB (O6 (l.map f) (k:Int) F):=⟨0≤k∧k<l.length,∀x,l[k]?=some x→F (f x),fun h kk=>Aj h.2 kk⟩
instance (priority:=1020) {l:List UInt8}{i:Int}{F:UInt8→Prop}:QB (O6 l i F):=⟨0≤i∧i<l.length,∀x,l[i.toNat]?=some x→x.toNat<256→F x,fun h k=>gp h.1 h.2 k⟩
instance (priority:=1020) {l:List UInt8}{f:UInt8→α}{i:Int}{F:α→Prop}:QB (O6 (l.map f) i F):=⟨0≤i∧i<l.length,∀x,l[i.toNat]?=some x→x.toNat<256→F (f x),fun h k=>aN h.1 h.2 k⟩
instance (priority:=high) {l:List UInt8}{f:UInt8→α}{k:Nat}{F:α→Prop}:QB (O6 (l.map f) (k:Int) F):=⟨0≤k∧k<l.length,∀x,l[k]?=some x→x.toNat<256→F (f x),fun h kk=>Xw h.2 kk⟩
instance {e sz:Nat}{l:List UInt8}{F:AV→Prop}[L7 P S e sz][Q5 P e .u8][j3 P T]:R6 (BB P S T (.sl 1 (l.map fun b=>[.v (.int .u8 b.toNat)])) F):=⟨F (.str l),Zr (e:=e) (sz:=sz)⟩
instance {e sz:Nat}{l:List UInt8}{F:AV→Prop}[j3 P S][L7 P T e sz][Q5 P e .u8]:QB (BB P S T (.str l) F):=⟨0≤l.length∧l.length≤9223372036854775807,F (.sl 1 (l.map fun b=>[.v (.int .u8 b.toNat)])),fun h k=>Xf (e:=e) (sz:=sz) h.2 k⟩
class kT(G:Prop)(α β:outParam Type)(l:outParam (List β))(f:outParam (β→α))(i:outParam Int)(F:outParam (α→Prop)):Prop where
 eq:G=O6 (l.map f) i F
instance {l:List β}{f:β→α}{i:Int}{F:α→Prop}:kT (O6 (l.map f) i F) α β l f i F:=⟨rfl⟩
class dX(G:Prop)(α:outParam Type)(l:outParam (List α))(i:outParam Int)(F:outParam (α→Prop)):Prop where
 eq:G=O6 l i F
instance {l:List α}{i:Int}{F:α→Prop}:dX (O6 l i F) α l i F:=⟨rfl⟩
theorem Z1{G:Prop}{l:List β}{f:β→α}{i:Int}{x:β}{F:α→Prop}[s:kT G α β l f i F](kk:F (f x))(h:l[i.toNat]?=some x:=by assumption)(h0:0≤i:=by omega):G:=s.eq▸A2 h h0 kk
theorem Z2{G:Prop}{l:List α}{i:Int}{x:α}{F:α→Prop}[s:dX G α l i F](kk:F x)(h:l[i.toNat]?=some x:=by assumption)(h0:0≤i:=by omega):G:=s.eq▸Cf h h0 kk
class kU(G:Prop)(p A:outParam Prop):Prop where
 imp:p→A→G
instance:kU (F5 p A) p A:=⟨J4⟩
theorem Z3{G:Prop}[s:kU G p A](k:A)(h:p:=by first|omega|exact Eq.refl _|exact⟨Eq.refl _,by omega⟩|(simp only[List.length_map];omega)|exact mi rfl|exact gr fun _=>rfl|(constructor<;>(simp only[M0,J9,List.length_cons,List.length_nil,List.length_map];omega))):G:=s.imp h k
theorem Z4{G:Prop}[s:QB G](k:s.sub)(h:s.side:=by (conv=>whnf);omega):G:=s.imp h k
class WO(G:Prop) where
 side:Prop
 sub:Prop
 imp:side→sub→G
instance {nS:Nat}{l:List Bool}:WO (D2 P E n ops nS l σ K):=⟨Nat.beq l.length ops.size=true∧Region.noSelect ops=true,kI P E n ops nS l σ K,fun h k=>gb h.2 h.1 k⟩
instance {done:List Bool}{mb:List MB}:WO (C7 P E n ops done mb σ K):=⟨Nat.beq done.length ops.size=true∧Ey ops=true,kN P E n ops done mb σ K,fun h k=>Pw h.1 h.2 k⟩
instance {done:List Bool}{mb:List MB}{base:List (Nat×AV)}{k:Nat}{ex:List (Nat×AV)}{vB:Hp}{σ':St}:WO (NR P E n ops done mb K base k ex vB σ') :=
 ⟨(σ'.sl,(AD mb).map (look (σ'.sl.take k)),Bj n (σ'.sl.take k) mb,(FO mb).map (A5 σ'.hp))=(σ'.sl.take k++ex,(AD mb).map (look base),true,(FO mb).map (A5 vB))∧true=true,
  Bi (σ'.sl.take k) fun xH=>S4 σ'.hp fun hp2=>G5 σ'.nx fun sV=>KM done fun sn=>RU mb fun yq=>C7 P E n ops sn yq ⟨xH,sV,hp2⟩ K,
  fun h k=>gk (congrArg (·.2.2.2) h.1) (congrArg (·.1) h.1) (congrArg (·.2.1) h.1) (congrArg (·.2.2.1) h.1) k⟩
instance {id:Nat}[hm:JH P]:WO (Ch P E n id ops σ Q):=⟨ops.toList.all WN=true∧Ed ops=true,DQ P E n ops ops.toList σ fun σ'=>Q .normal σ',fun h k=>kS h.1 h.2 k⟩
theorem Z5{G:Prop}[s:WO G](k:s.sub)(h:s.side:=by exact⟨by rfl,by kernel_rfl⟩):G:=s.imp h k
theorem S1{G H:Prop}(k:H)(h:H→G:=by first|exact cu|exact cw|exact cy|exact cz|exact jr|exact js|exact aC|exact nH):G:=h k
theorem C0{f:Nat}{fn:Func}{code:Code}{args:List AV}{r:AV}{rs:Array ResultVar}(hf:P.funcs[f]?=some fn)(n:Nat)
  (h : (∀ a ∈ args,Rd a) → ∀ E,E.n0 = 0 → D0 P E n code ⟨BC args 0,0,[]⟩ (D1 P rs r)) (pA : (fn.name == "runtime.NumGoroutine") = false := by kernel_rfl) (hb : fn.body = some code := by rfl) (hn : fn.ntmps = n := by rfl) (sH : fn.results = rs := by rfl)
  (ns:Nat.ble args.length n=true:=by rfl) (nl:I8 r=true:=by rfl) (pO:∀t T,rs=#[.cell t T]→∃sz,G2 P T true sz∧∀l,r=.agg l→l.length=sz:=by intro t T h;cases h):A3 P f args r :=
 VE hf pA hb hn sH ns nl pO h
theorem X6{f:Nat}{fn:Func}{code:Code}{args:List AV}{r:AV}{rs:Array ResultVar}{m0 m1:Nat}{hp0 hp1:Hp}(hf:P.funcs[f]?=some fn)(n:Nat)
  (h : ∀ E,E.n0 = m0 → D0 P E n code ⟨BC args 0,m0,hp0⟩ (C8 P E n rs m1 hp1 r)) (pA : (fn.name == "runtime.NumGoroutine") = false := by kernel_rfl) (hb : fn.body = some code := by rfl) (hn : fn.ntmps = n := by rfl) (sH : fn.results = rs := by rfl)
  (ns:Nat.ble args.length n=true:=by rfl):B6 P f m0 hp0 args m1 hp1 r :=
 VG hf pA hb hn sH ns h
theorem nc{d f:Nat}{xs:List Operand}{ts:Array TypeId}{L args l:List AV}{r:AV}{m0 m1:Nat}{hp0 hp1:Hp}{ty:TypeId}{pos:String}{after:Array Edge}{rest:List Oper}(ι off:List Nat)(hc:B6 P f m0 hp0 args m1 hp1 r)
  (pf:e8 (E9 σ) xs=some L) (hL:Ak (K0 ι) (K0 off) args=L) (hB:(S0 m0 args && Nat.beq ι.length m0 && Cj ι σ.nx && Al hp0 hp1 m0 && H8 m0 hp0 && H8 m1 hp1 && Nat.ble m0 m1 && Nat.blt d n)=true) (oG:Do σ.hp hp0 ι off m0)
  (k:S3 (M9 (gρ ι m0 σ.nx) (gs ι m0 σ.hp) r) fun r2=>S4 (S5 (gρ ι m0 σ.nx) (gs ι m0 σ.hp) hp1++σ.hp) fun hp2=>G5 (σ.nx+(m1-m0)) fun sV=>B0 P E n ops rest (St.put ⟨σ.sl,sV,hp2⟩ d r2) K) :
  Z7 P E n ops ⟨some d,.call ⟨.value (.func f),⟨xs⟩,ts⟩,ty,pos,after,none⟩ rest l σ K:=by
 simp only[Bool.and_eq_true]at hB
 obtain⟨⟨⟨⟨⟨⟨⟨h1,h2⟩,h3⟩,h4⟩,h5⟩,h6⟩,h7⟩,h8⟩:=hB
 exact⟨F6 ι off hc pf hL h1 h2 h3 oG h4 h5 h6 h7 h8 k⟩
end
theorem S2{G H:Prop}(k:H)(h:PLift H→G:=by intro k;(first|refine DX ?_|refine S1 ?_|refine Z1 ?_|refine Z2 ?_|refine Z3 ?_|refine Z4 ?_|refine Z5 ?_|(refine kL ?_ ?_;exact⟨by kernel_rfl,by decide⟩)|(refine Pw ?_ ?_ ?_;kernel_rfl;kernel_rfl));(try (conv=>whnf));exact k.down):G:=h ⟨k⟩
theorem V1{c A:Prop}(h:c)(f:c→False:=by first|(intro h0;omega)|exact absurd rfl):A:=(f h).elim
theorem T5{G A B:Prop}(a:A)(b:B)(h:A→B→G:=by first|exact kK|exact gj):G:=h a b
theorem T6{a b:Prop}(x:a)(y:b):a∧b:=⟨x,y⟩
theorem T4{G:Prop}(h:G:=by first|exact kJ|exact gh):G:=h
theorem A6{E:Env}{n m:Nat}{σ σ':St}(h0:E.n0=m)(hm:Nat.ble m σ'.nx=true:=by rfl)(hs:HO σ σ'.hp σ'.sl:=by (repeat' (first|exact trivial|exact rfl|refine And.intro ?_ ?_|exact⟨_,rfl⟩));done)(hh:Ea σ σ'.hp σ'.hp:=by (repeat' (first|exact trivial|exact rfl|refine And.intro ?_ ?_|exact⟨_,rfl⟩));done)(hn:Nat.ble σ'.nx σ.nx=true:=by rfl)(hl:SD σ'.nx σ'.sl=true:=by rfl)(hb:H8 σ'.nx σ'.hp=true:=by rfl):St.le E n σ σ':=A8 h0 hm hs hh hn hl hb
end Go.Av
