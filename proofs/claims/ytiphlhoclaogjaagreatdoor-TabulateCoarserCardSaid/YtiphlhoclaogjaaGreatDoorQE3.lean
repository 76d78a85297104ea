/- Regions that draw their order, of quiet operations. Blocks under other numbers; calls that are handed memory of one's own. Regions that draw their order and write: every order, pure operations first. Regions that draw their order: what only makes or reads what nobody writes may happen at any time. What came in, read as abstract values; and a law's contract out of a call. One word for many steps of the walk: what a goal asks instead. -/
import Derived.Test.YtiphlhoclaogjaaGreatDoorQE2
import Derived.Orders
import Derived.Carry
import Derived.RowKit
import Derived.OpenShut
import Derived.KernelRfl
set_option linter.unusedSimpArgs false
set_option linter.unusedVariables false
set_option linter.unnecessarySimpa false
set_option maxHeartbeats 64000000
namespace Go.Av
open Go Go.RowKit
class Iz(P:Program):Prop where
 out:P.follows .mixedOrders=true
section congr
variable {P:Program} {hp:Hp} {ev ev':Operand→Option AV} {F:AV→Prop}
theorem Fd:∀{l:List Operand},(∀x∈l,ev x=ev' x)→l6 ev l=l6 ev' l
 |[],_=>rfl
 |x::r,h=>by simp only[l6,h x (by simp),Fd (l:=r) fun y hy=>h y (by simp[hy])]
theorem JA:∀{l:List (Nat×Operand)},(∀x∈l.map (·.2),ev x=ev' x)→Az ev l=Az ev' l
 |[],_=>rfl
 |(i,x)::r,h=>by simp only[Az,h x (by simp),JA (l:=r) fun y hy=>h y (by simp at hy ⊢;exact .inr hy)]
theorem Pm{m:Nat}{o:Option Operand}(h:∀x,o=some x→ev x=ev' x):AB ev m o=AB ev' m o:=by
 cases o with
 |none=>rfl
 |some x=>simp only[AB,h x rfl]
theorem aO{op:Op}(h:∀x∈op.operands.toList,ev x=ev' x)(ho:Fc P op ev hp F):Fc P op ev' hp F:=by
 unfold Fc at ho
 split at ho
 ·rename_i x;rw[h x (by simp[Op.operands])]at ho;exact ho
 ·rename_i x;rw[h x (by simp[Op.operands])]at ho;exact ho
 ·rename_i c a b
  rw[h c (by simp[Op.operands]),h a (by simp[Op.operands]),h b (by simp[Op.operands])]at ho;exact ho
 ·rename_i op T x y T2;rw[h x (by simp[Op.operands]),h y (by simp[Op.operands])]at ho;exact ho
 ·rename_i T x;rw[h x (by simp[Op.operands])]at ho;exact ho
 ·rename_i T x;rw[h x (by simp[Op.operands])]at ho;exact ho
 ·rename_i T x;rw[h x (by simp[Op.operands])]at ho;exact ho
 ·rename_i S x f;rw[h x (by simp[Op.operands])]at ho;exact ho
 ·rename_i T x y;rw[h x (by simp[Op.operands]),h y (by simp[Op.operands])]at ho;exact ho
 ·rename_i T x y;rw[h x (by simp[Op.operands]),h y (by simp[Op.operands])]at ho;exact ho
 ·rename_i x;rw[h x (by simp[Op.operands])]at ho;exact ho
 ·rename_i S T x;rw[h x (by simp[Op.operands])]at ho;exact ho
 ·rename_i x T;rw[h x (by simp[Op.operands,Call.operands])]at ho;exact ho
 ·rename_i x y T U;rw[h x (by simp[Op.operands,Call.operands]),h y (by simp[Op.operands,Call.operands])]at ho;exact ho
 ·rename_i x y T U;rw[h x (by simp[Op.operands,Call.operands]),h y (by simp[Op.operands,Call.operands])]at ho;exact ho
 ·rename_i f args ts
  rw[Fd (ev':=ev') (fun x hx=>h x (by simp[Op.operands,Call.operands];exact .inr hx))]at ho;exact ho
 ·rename_i t args ts
  rw[h (.tmp t) (by simp[Op.operands,Call.operands]),Fd (ev':=ev') (fun x hx=>h x (by simp[Op.operands,Call.operands];exact .inr hx))]at ho;exact ho
 ·rename_i T parts
  rw[JA (ev':=ev') (fun x hx=>h x (by simpa [Op.operands]using hx))]at ho;exact ho
 ·rename_i T len parts
  rw[JA (ev':=ev') (fun x hx=>h x (by simpa [Op.operands]using hx))]at ho;exact ho
 ·rename_i T x y ok;rw[h x (by simp[Op.operands]),h y (by simp[Op.operands])]at ho;exact ho
 ·rename_i T x lo hi
  have e1:∀m,AB ev m lo=AB ev' m lo:=fun m=>Pm fun y hy=>h y (by subst hy;simp[Op.operands])
  have e2:∀m,AB ev m hi=AB ev' m hi:=fun m=>Pm fun y hy=>h y (by subst hy;simp[Op.operands])
  unfold NA at ho
  simp only[e1,e2]at ho
  rw[h x (by simp[Op.operands])]at ho
  exact ho
 ·rename_i x k;rw[h x (by simp[Op.operands])]at ho;exact ho
 ·rename_i f xs
  rw[Fd (ev':=ev') (fun x hx=>h x (by simpa [Op.operands]using hx))]at ho;exact ho
 ·exact ho.elim
end congr
def JB(f:Nat→Option AV):Operand→Option AV
 |.tmp t=>f t
 |.const c=>some (d9 c)
 |.global g=>some (XS g)
 |.func f=>some (.v (.func (.func f) #[] #[]))
theorem Od(σ:St):F4 σ=JB (look σ.sl):=by funext x;cases x<;>rfl
open Classical in
noncomputable def rs(op:Op)(ev:Operand→Option AV):Operand→Option AV:=fun x=>if x∈op.operands.toList then ev x else none
def CV(f:Nat→Option AV)(d:Nat)(a:AV):Nat→Option AV:=fun s=>if d=s then some a else f s
section quiet
variable {P:Program} {E:Env} {n nx:Nat} {hp:Hp} {ev:Operand→Option AV} {ops:Array Oper} {σ:St} {K:(Nat→Option AV)→Prop} {f f':Nat→Option AV}
theorem dZ{op:Op}{ty:Nat}{av:AV}{ev ev':Operand→Option AV}(h:∀x a,ev x=some a→ev' x=some a)(hq:G6 P E nx hp ev op ty av):G6 P E nx hp ev' op ty av :=
 fun d pos after θ a w K hs hk=>hq d pos after θ a w K ⟨hs.fr,hs.owns,hs.X,fun hx=>hs.rel (h _ _ hx),hs.apart,hs.fresh,hs.tab⟩ hk
theorem aP{op:Op}{ty:Nat}{F:AV→Prop}(h:Fc P op ev hp F):∃av,G6 P E nx hp (rs op ev) op ty av∧F av :=
 gG (aO (fun x hx=>by simp[rs,hx]) h)
def QS(P:Program)(E:Env)(nx:Nat)(hp:Hp)(ops:Array Oper)(o:Oper)(f:Nat→Option AV)(av:AV):Prop :=
 match o.guard with
 |none=>G6 P E nx hp (rs o.op (JB f)) o.op o.type av
 |some (j,g)=>∃dj,(ops[j]?).bind (·.dst)=some dj∧((f dj=some (.v (.bool g))∧G6 P E nx hp (rs o.op (JB f)) o.op o.type av)∨(f dj=some (.v (.bool (!g)))∧av=.v undef)∨∃t,f dj=some (.v (.tuple t))∧av=.v undef)
theorem da{op:Op}(h:∀x∈op.operands.toList,JB f x=JB f' x):rs op (JB f)=rs op (JB f'):=by
 funext x
 unfold rs
 split
 ·rename_i hx;exact h x hx
 ·rfl
theorem QS.congr{o:Oper}{av:AV}(h:∀d∈o.looksAt ops,f d=f' d)(hq:QS P E nx hp ops o f av):QS P E nx hp ops o f' av:=by
 have hr:rs o.op (JB f)=rs o.op (JB f'):=da fun x hx=>by
  cases x with
  |tmp t=>exact h t (List.mem_append_left _ (List.mem_filterMap.2 ⟨.tmp t,hx,rfl⟩))
  |_=>rfl
 unfold QS at hq ⊢
 split at hq
 ·rw[←hr];exact hq
 ·rename_i j g hg
  obtain⟨dj,hj,hq⟩:=hq
  have hd:f dj=f' dj:=h dj (by simp[Oper.looksAt,hg,hj])
  refine⟨dj,hj,?_⟩
  rw[←hr,←hd]
  exact hq
def QW(P:Program)(E:Env)(n nx:Nat)(hp:Hp)(ops:Array Oper):List Oper→(Nat→Option AV)→((Nat→Option AV)→Prop)→Prop
 |[],f,K=>K f
 |o::r,f,K=>∃d av,o.dst=some d∧d<n∧QS P E nx hp ops o f av∧QW P E n nx hp ops r (CV f d av) K
theorem aQ{d e:Nat}{a b:AV}(h:d≠e):CV (CV f d a) e b=CV (CV f e b) d a:=by
 funext s
 unfold CV
 by_cases h1:e=s
 ·subst h1;simp[h]
 ·simp[h1]
theorem QW.swap{x y:Oper}{r:List Oper}(qm:x.apart ops y=true)(h:QW P E n nx hp ops (x::y::r) f K):QW P E n nx hp ops (y::x::r) f K:=by
 obtain⟨dx,ax,hdx,oH,hqx,dy,ay,hdy,hny,hqy,hr⟩:=h
 obtain⟨h1,h2,h3⟩:=Oper.apart_spec qm
 have hne:dx≠dy:=fun e=>h2 dx hdx (e▸hdy)
 have hy:QS P E nx hp ops y f ay:=hqy.congr fun s hs=>by
  have:dx≠s:=fun e=>h1 dx hdx (e▸hs)
  simp[CV,this]
 have hx:QS P E nx hp ops x (CV f dy ay) ax:=hqx.congr fun s hs=>by
  have:dy≠s:=fun e=>h3 dy hdy (e▸hs)
  simp[CV,this]
 exact⟨dy,ay,hdy,hny,hy,dx,ax,hdx,oH,hx,by rw[←aQ hne];exact hr⟩
theorem QW.first{o:Oper}:∀{pre post:List Oper} {f:Nat→Option AV},(∀p∈pre,p.apart ops o=true)→QW P E n nx hp ops (pre++o::post) f K→QW P E n nx hp ops (o::(pre++post)) f K
 |[],post,f,_,h=>h
 |p::pre,post,f,qm,h=>by
  obtain⟨d,av,hd,hn,hq,hr⟩:=h
  have:=QW.first (pre:=pre) (fun q hq=>qm q (by simp[hq])) hr
  exact QW.swap (qm p (by simp)) ⟨d,av,hd,hn,hq,this⟩
def gJ(ops:Array Oper)(i j:Nat):Bool :=
 match ops[i]?,ops[j]? with
 |some oi,some oj=>oi.after.any (fun e=>Region.binds .any e && Nat.beq e.on j) || oj.apart ops oi
 |_,_=>true
def gK(ops:Array Oper)(i:Nat):Bool :=
 match ops[i]? with
 |some o=>o.after.all fun e=>!Region.binds .any e || Nat.blt e.on i
 |none=>true
def ER(ops:Array Oper):Bool:=(List.range ops.size).all fun i=>gK ops i && (List.range i).all fun j=>gJ ops i j
theorem Xq(h:ER ops=true){i j:Nat}{oi oj:Oper}(sb:j<i)(hi:ops[i]?=some oi)(hj:ops[j]?=some oj):(∃e∈oi.after,Region.binds .any e=true∧e.on=j)∨oj.apart ops oi=true:=by
 have nf:i<ops.size:=(Array.getElem?_eq_some_iff.1 hi).1
 unfold ER at h
 rw[List.all_eq_true]at h
 have h1:=h i (List.mem_range.2 nf)
 rw[Bool.and_eq_true,List.all_eq_true]at h1
 have h2:=h1.2 j (List.mem_range.2 sb)
 unfold gJ at h2
 rw[hi,hj]at h2
 simp only[Bool.or_eq_true]at h2
 rcases h2 with h2|h2
 ·left
  obtain⟨k,hk,h3⟩:=Array.any_eq_true.1 h2
  simp only[Bool.and_eq_true]at h3
  exact⟨oi.after[k],Array.getElem_mem hk,h3.1,Nat.eq_of_beq_eq_true h3.2⟩
 ·exact .inr h2
theorem Xr(h:ER ops=true){i:Nat}{oi:Oper}(hi:ops[i]?=some oi):∀e∈oi.after,Region.binds .any e=true→e.on<i:=by
 have nf:i<ops.size:=(Array.getElem?_eq_some_iff.1 hi).1
 unfold ER at h
 rw[List.all_eq_true]at h
 have h1:=h i (List.mem_range.2 nf)
 rw[Bool.and_eq_true]at h1
 have h2:=h1.1
 unfold gK at h2
 rw[hi]at h2
 intro e he hb
 simp only[Array.all_eq_true_iff_forall_mem,Bool.or_eq_true]at h2
 have:=h2 e he
 rw[hb]at this
 simpa [Nat.blt_eq]using this
def left(ops:Array Oper)(listed:Array Bool):List Nat:=(List.range ops.size).filter fun i=>!listed.getD i true
def Xs(E:Env)(n nx:Nat)(hp:Hp)(f:Nat→Option AV)(a:Act)(w:World):Prop:=∃σ:St,(∀s,look σ.sl s=f s)∧σ.nx=nx∧σ.hp=hp∧i9 E n σ a w
theorem mP{o:Oper}{d:Nat}{av:AV}{a:Act}{w:World}{Q:Exit→Act→World→Prop}{C:Act→World→Prop}{i:Nat}(hi:ops[i]?=some o)(hd:o.dst=some d)(hn:d<n)(hq:QS P E nx hp ops o f av)(hs:Xs E n nx hp f a w)
  (hk:∀a' w',Xs E n nx hp (CV f d av) a' w'→C a' w'):wpOp P ops Q i C a w:=by
 obtain⟨σ,hl,rfl,rfl,θ,hs⟩:=hs
 have pq:JB f=F4 σ:=by rw[Od];congr 1;funext s;exact(hl s).symm
 have step:∀{v:Value} {w':World},Below w.heap.size w w'→D8 (cx E θ σ w') av v→C (a.put (some d) v) w':=fun hb hr =>
  hk _ _ ⟨σ.put d av,fun s=>by simp only[St.put,E6,CV,hl],rfl,rfl,θ,(hs.below hb).put hn hr⟩
 unfold wpOp
 simp only[hi]
 have vK:∀{t:Nat} {b:Bool},f t=some (.v (.bool b))→a.tmps[t]?=some (.bool b):=by
  intro t b hb
  have h1:=(hs.slots t _ (by rw[hl];exact hb)).val
  rw[Array.getD_eq_getD_getElem?]at h1
  cases hg:a.tmps[t]? with
  |none=>rw[hg]at h1;exact absurd h1 (by simp[undef])
  |some v=>rw[hg]at h1;simp at h1;rw[h1]
 have run:G6 P E σ.nx σ.hp (rs o.op (JB f)) o.op o.type av→o.wp P a w C Q:=by
  intro hq
  have zG:G6 P E σ.nx σ.hp (F4 σ) o.op o.type av:=dZ (fun x b hx=>by
   unfold rs at hx
   split at hx
   ·rw[←pq];exact hx
   ·cases hx) hq
  have hv:=zG o.dst o.pos o.after θ a w (fun v w'=>Below w.heap.size w w'∧D8 (cx E θ σ w') av v) hs.evT fun v w' hb hr=>⟨hb,hr⟩
  have wX:Ie P o a w (fun v w'=>Below w.heap.size w w'∧D8 (cx E θ σ w') av v):=by
   have e:Ie P o a w=Ie P ⟨o.dst,o.op,o.type,o.pos,o.after,none⟩ a w:=by
    funext K
    unfold Ie
    have:execOp a.eval o=execOp a.eval ⟨o.dst,o.op,o.type,o.pos,o.after,none⟩:=by
     obtain⟨_,op,_,_,_,_⟩:=o
     cases op<;>rfl
    rw[this]
   rw[e]
   exact hv
  exact Ro wX fun v w' hv=>by rw[hd];exact step hv.1 hv.2
 unfold QS at hq
 split at hq
 ·rename_i hg
  rw[if_pos (by simp[Region.wanted,hg])]
  exact .inl (run hq)
 ·rename_i j g hg
  obtain⟨dj,hj,hq⟩:=hq
  rcases hq with ⟨hb,hq⟩|⟨hb,rfl⟩|⟨t,hb,rfl⟩
  ·have:yielded ops a.tmps j=some g:=by simp[yielded,hj,vK hb]
   rw[if_pos (by simp[Region.wanted,hg,this])]
   exact .inl (run hq)
  ·have:yielded ops a.tmps j=some (!g):=by simp[yielded,hj,vK hb]
   rw[if_neg (by simp[Region.wanted,hg,this])]
   rw[hd]
   exact step (Below.refl _ _) (.im (.v _))
  ·have:yielded ops a.tmps j=none:=by
    have h1:=(hs.slots dj _ (by rw[hl];exact hb)).val
    rw[Array.getD_eq_getD_getElem?]at h1
    unfold yielded
    rw[hj]
    simp only[Option.bind_some]
    cases hg:a.tmps[dj]? with
    |none=>rfl
    |some v=>rw[hg]at h1;simp at h1;rw[h1]
   rw[if_neg (by simp[Region.wanted,hg,this])]
   rw[hd]
   exact step (Below.refl _ _) (.im (.v _))
theorem DC(p:Nat→Bool)(m:Nat){pre post:List Nat}{i:Nat}(h:(List.range m).filter p=pre++i::post):(∀j∈pre,j<i)∧i∉pre∧i∉post:=by
 have hs:((List.range m).filter p).Pairwise (·<·):=List.Pairwise.filter _ (List.pairwise_lt_range)
 rw[h,List.pairwise_append]at hs
 obtain⟨_,h2,h3⟩:=hs
 rw[List.pairwise_cons]at h2
 have h4:∀j∈pre,j<i:=fun j hj=>h3 j hj i (by simp)
 exact⟨h4,fun hc=>Nat.lt_irrefl _ (h4 i hc),fun hc=>Nat.lt_irrefl _ (h2.1 i hc)⟩
theorem SV{listed:Array Bool}{i:Nat}{pre post:List Nat}(h:left ops listed=pre++i::post):left ops (listed.setIfInBounds i true)=pre++post:=by
 obtain⟨_,h2,h3⟩:=DC _ _ h
 have e:left ops (listed.setIfInBounds i true)=(left ops listed).filter (fun j=>decide (j≠i)):=by
  unfold left
  rw[List.filter_filter]
  congr 1
  funext j
  by_cases hj:j=i
  ·subst hj
   by_cases nf:j<listed.size
   ·simp[Array.getD,nf]
   ·simp[Array.getD,nf]
  ·have:(listed.setIfInBounds i true).getD j true=listed.getD j true:=by
    rw[Array.getD_eq_getD_getElem?,Array.getD_eq_getD_getElem?,Array.getElem?_setIfInBounds_ne (Ne.symm hj)]
   rw[this]
   simp[hj]
 rw[e,h,List.filter_append,List.filter_cons_of_neg (by simp)]
 congr 1
 ·exact List.filter_eq_self.2 fun j hj=>by simp;exact fun e=>h2 (e▸hj)
 ·exact List.filter_eq_self.2 fun j hj=>by simp;exact fun e=>h3 (e▸hj)
def opsOf(ops:Array Oper)(l:List Nat):List Oper:=l.filterMap fun i=>ops[i]?
theorem NE{listed:Array Bool}{j:Nat}(hj:j∈Region.ready .any ops listed):j∈left ops listed:=by
 obtain⟨h1,o,ho,_⟩:=mem_ready.1 hj
 exact List.mem_filter.2 ⟨List.mem_range.2 (Array.getElem?_eq_some_iff.1 ho).1,by rw[h1];rfl⟩
theorem JC(l m:List Nat):opsOf ops (l++m)=opsOf ops l++opsOf ops m:=List.filterMap_append ..
theorem Xt{i:Nat}{o:Oper}(h:ops[i]?=some o)(m:List Nat):opsOf ops (i::m)=o::opsOf ops m:=by simp[opsOf,h]
theorem db(wN:ER ops=true){listed:Array Bool}(hsz:listed.size=ops.size){i:Nat}{r:List Nat}(h:left ops listed=i::r):i∈Region.ready .any ops listed:=by
 have hi:i∈left ops listed:=by rw[h];simp
 obtain⟨h1,h2⟩:=List.mem_filter.1 hi
 have nf:=List.mem_range.1 h1
 refine mem_ready.2 ⟨by simpa using h2,ops[i],Array.getElem?_eq_getElem nf,fun e he hb=>?_⟩
 have rS:=Xr wN (Array.getElem?_eq_getElem nf) e he hb
 cases hx:listed.getD e.on false with
 |true=>rfl
 |false =>
  exfalso
  have qx:e.on<listed.size:=by omega
  have qc:listed.getD e.on true=false:=by
   simp[Array.getD,qx]at hx ⊢;exact hx
  have hm:e.on∈left ops listed:=List.mem_filter.2 ⟨List.mem_range.2 (by omega),by rw[qc];rfl⟩
  have hs:(left ops listed).Pairwise (·<·):=List.Pairwise.filter _ (List.pairwise_lt_range)
  rw[h]at hm hs
  rcases List.mem_cons.1 hm with h3|h3
  ·omega
  ·have:=(List.pairwise_cons.1 hs).1 _ h3
   omega
theorem kT(wN:ER ops=true){Q:Exit→Act→World→Prop}(hK:∀f' a' w',K f'→Xs E n nx hp f' a' w'→Q .normal a' w'):∀(ng:Nat) (listed:Array Bool) (f:Nat→Option AV) (a:Act) (w:World),listed.size=ops.size →
  (left ops listed).length≤ng→QW P E n nx hp ops (opsOf ops (left ops listed)) f K→Xs E n nx hp f a w→wpAny P .any ops Q ng listed a w:=by
 intro ng
 induction ng with
 |zero =>
  intro listed f a w hsz nZ hq hs
  have pw:left ops listed=[]:=List.eq_nil_of_length_eq_zero (by omega)
  rw[pw]at hq
  refine⟨?_,hK f a w hq hs⟩
  cases hr:Region.ready .any ops listed with
  |nil=>rfl
  |cons j r=>have:=NE (ops:=ops) (listed:=listed) (j:=j) (by rw[hr];simp);rw[pw]at this;cases this
 |succ ng ih =>
  intro listed f a w hsz nZ hq hs
  refine⟨fun hr=>?_,fun i hi=>?_⟩
  ·cases hl:left ops listed with
   |nil=>rw[hl]at hq;exact hK f a w hq hs
   |cons i r=>have:=db wN hsz hl;rw[hr]at this;cases this
  ·obtain⟨pre,post,pz⟩:=List.append_of_mem (NE hi)
   obtain⟨wR,oi,zp,zF⟩:=mem_ready.1 hi
   have AB2:=(DC _ _ pz).1
   rw[pz,JC,Xt zp]at hq
   have zG:=QW.first (fun p hp=>by
    obtain⟨j,hj,za⟩:=List.mem_filterMap.1 hp
    rcases Xq wN (AB2 j hj) zp za with ⟨e,he,hb,rfl⟩|h
    ·exfalso
     have h1:=zF e he hb
     have h2:e.on∈left ops listed:=by rw[pz];simp[hj]
     have h3:=(List.mem_filter.1 h2).2
     have h4:listed.getD e.on true=false:=by simpa using h3
     by_cases nf:e.on<listed.size
     ·simp[Array.getD,nf]at h1 h4;rw[h1]at h4;cases h4
     ·simp[Array.getD,nf]at h1
    ·exact h) hq
   obtain⟨d,av,hd,hn,hqs,hr⟩:=zG
   refine mP zp hd hn hqs hs fun a' w' og=>ih _ _ a' w' (by simpa using hsz) ?_ ?_ og
   ·rw[SV pz]
    rw[pz]at nZ
    simp at nZ ⊢
    omega
   ·rw[SV pz,JC]
    exact hr
def DQ(P:Program)(E:Env)(n:Nat)(ops:Array Oper)(l:List Oper)(σ:St)(K:St→Prop):Prop :=
 QW P E n σ.nx σ.hp ops l (look σ.sl) fun f=>∃τ:St,(∀s,look τ.sl s=f s)∧τ.nx=σ.nx∧τ.hp=σ.hp∧K τ
theorem dc(σ:St)(d:Nat)(a:AV):look (σ.put d a).sl=CV (look σ.sl) d a:=by
 funext s;simp only[St.put,E6,CV]
theorem NF{l:List Oper}{d:Nat}{av:AV}{K:St→Prop}:DQ P E n ops l (σ.put d av) K→QW P E n σ.nx σ.hp ops l (CV (look σ.sl) d av) fun f=>∃τ:St,(∀s,look τ.sl s=f s)∧τ.nx=σ.nx∧τ.hp=σ.hp∧K τ:=by
 intro h
 unfold DQ at h
 rw[dc]at h
 exact h
theorem SW{d:Nat}{a:AV}(h:look σ.sl d=some a):look (σ.put d a).sl=look σ.sl:=by
 funext s
 simp only[St.put,E6]
 by_cases e:d=s
 ·subst e;rw[if_pos rfl,h]
 ·rw[if_neg e]
def de(P:Program)(E:Env)(n:Nat)(ops:Array Oper)(l:List Oper)(σ:St)(K:St→Prop):Prop :=
 match l with
 |[]=>K σ
 |⟨some d,op,_,_,_,none⟩::rest=>cond (Nat.blt d n) (Fc P op (F4 σ) σ.hp fun av=>DQ P E n ops rest (σ.put d av) K) False
 |⟨some d,op,_,_,_,some (j,g)⟩::rest=>match (ops[j]?).bind (·.dst)with
  |some dj=>cond (Nat.blt d n) (match look σ.sl dj with
   |some (.v (.bool b))=>O8 b g (Fc P op (F4 (σ.put dj (.v (.bool g)))) σ.hp fun av=>DQ P E n ops rest ((σ.put dj (.v (.bool g))).put d av) K)
     (DQ P E n ops rest ((σ.put dj (.v (.bool !g))).put d (.v undef)) K)
   |some (.v (.tuple t))=>DQ P E n ops rest (σ.put d (.v undef)) K
   |_=>False) False
  |none=>False
 |_=>False
theorem mQ{l:List Oper}{K:St→Prop}(h:de P E n ops l σ K):DQ P E n ops l σ K:=by
 unfold de at h
 split at h
 ·exact⟨σ,fun _=>rfl,rfl,rfl,h⟩
 ·rename_i d op ty pos after rest
  obtain⟨hd,h⟩:=cond_false h
  obtain⟨av,hq,h⟩:=aP (E:=E) (nx:=σ.nx) (ty:=ty) h
  exact⟨d,av,rfl,Nat.blt_eq▸hd,by unfold QS;rw[←Od];exact hq,NF h⟩
 ·rename_i d op ty pos after j g rest
  split at h
  ·rename_i dj hj
   obtain⟨hd,h⟩:=cond_false h
   split at h
   ·rename_i b hb
    cases uH:(b == g)with
    |true =>
     have uH:b=g:=by simpa using uH
     subst uH
     have h1:=h.t rfl
     obtain⟨av,hq,h2⟩:=aP (E:=E) (nx:=σ.nx) (ty:=ty) h1
     have e:look (σ.put dj (.v (.bool b))).sl=look σ.sl:=SW hb
     rw[Od,e]at hq
     refine⟨d,av,rfl,Nat.blt_eq▸hd,⟨dj,hj,.inl ⟨hb,hq⟩⟩,?_⟩
     have h3:=NF h2
     rw[e]at h3
     exact h3
    |false =>
     have uH:b=!g:=by cases b<;>cases g<;>simp_all
     have h1:=h.f uH
     have e:look (σ.put dj (.v (.bool !g))).sl=look σ.sl:=SW (uH▸hb)
     refine⟨d,_,rfl,Nat.blt_eq▸hd,⟨dj,hj,.inr (.inl ⟨uH▸hb,rfl⟩)⟩,?_⟩
     have h3:=NF h1
     rw[e]at h3
     exact h3
   ·rename_i t hb
    exact⟨d,_,rfl,Nat.blt_eq▸hd,⟨dj,hj,.inr (.inr ⟨t,hb,rfl⟩)⟩,NF h⟩
   ·exact h.elim
  ·exact h.elim
 ·exact h.elim
theorem B5{id:Nat}{Q:Exit→St→Prop}[hm:Iz P](wN:ER ops=true)(h:DQ P E n ops ops.toList σ fun σ'=>Q .normal σ'):CU P E n id ops σ Q:=by
 refine⟨fun a w ⟨θ,hs⟩=>wp_region_any hm.out ?_⟩
 have hb:Below w.heap.size w { w with drawn:=w.drawn+1 }:=Below.drew (Below.refl _ _)
 refine kT wN (K:=fun f=>∃τ:St,(∀s,look τ.sl s=f s)∧τ.nx=σ.nx∧τ.hp=σ.hp∧Q .normal τ) (fun f' a' w' hk og=>?_) ops.size _ (look σ.sl) a _ (by simp) ?_ ?_ ⟨σ,fun _=>rfl,rfl,rfl,θ,hs.below hb⟩
 ·obtain⟨τ,h1,h2,h3,h4⟩:=hk
  obtain⟨σ2,g1,g2,g3,θ2,nv⟩:=og
  refine⟨τ,h4,θ2,?_⟩
  have e1:σ2.nx=τ.nx:=by rw[g2,h2]
  have e2:σ2.hp=τ.hp:=by rw[g3,h3]
  have e3:∀s,look τ.sl s=look σ2.sl s:=fun s=>by rw[h1,g1]
  have ec:cx E θ2 σ2 w'=cx E θ2 τ w':=by unfold cx;rw[e1,e2]
  exact⟨nv.size,nv.defers,nv.fr,fun s x hx=>by rw[←ec];exact nv.slots s x (by rw[←e3];exact hx),fun i b hi=>by rw[←ec,←e1];exact nv.owns i b (by rw[e2];exact hi),fun i j b b' k hi hj=>nv.apart i j b b' k (by rw[e2];exact hi) (by rw[e2];exact hj),fun i b k hi=>nv.mine i b k (by rw[e2];exact hi),nv.X,by rw[←e1,←e2];exact nv.base⟩
 ·unfold left
  exact Nat.le_trans (List.length_filter_le _ _) (by simp)
 ·have e:left ops (Array.replicate ops.size false)=List.range ops.size:=by
   unfold left
   refine List.filter_eq_self.2 fun i hi=>?_
   have:=List.mem_range.1 hi
   simp[Array.getD,this]
  rw[e]
  have e2:opsOf ops (List.range ops.size)=ops.toList:=by
   unfold opsOf
   apply List.ext_getElem?
   intro i
   have:∀(m:Nat),m≤ops.size→(List.range m).filterMap (fun i=>ops[i]?)=ops.toList.take m:=by
    intro m
    induction m with
    |zero=>intro _;simp
    |succ m ih =>
     intro hm
     rw[List.range_succ,List.filterMap_append,ih (by omega),List.take_add_one]
     congr 1
     have nf:m<ops.size:=by omega
     simp[nf]
   rw[this ops.size (Nat.le_refl _)]
   congr 1
   exact List.take_of_length_le (by simp)
  rw[e2]
  exact h
end quiet
def RU{α:Type}:List α→(List α→Prop)→Prop
 |[],F=>F []
 |a::r,F=>RU r fun s=>F (a::s)
theorem HM{α:Type}:∀{l:List α} {F:List α→Prop},RU l F→F l
 |[],F,h=>h
 |a::r,F,h=>HM (l:=r) (F:=fun s=>F (a::s)) h
mutual
def U2:AV→(AV→Prop)→Prop
 |.agg l,F=>BA l fun l2=>F (.agg l2)
 |.tup l,F=>BA l fun l2=>F (.tup l2)
 |.fo f l,F=>BA l fun l2=>F (.fo f l2)
 |.ref i o,F=>G8 i fun i2=>G8 o fun o2=>F (.ref i2 o2)
 |.row i v m,F=>G8 i fun i2=>G8 v fun v2=>F (.row i2 v2 m)
 |.elt i v k o,F=>G8 i fun i2=>G8 v fun v2=>F (.elt i2 v2 k o)
 |.sub i v k o,F=>G8 i fun i2=>G8 v fun v2=>F (.sub i2 v2 k o)
 |.mp i,F=>G8 i fun i2=>F (.mp i2)
 |.any,F=>F .any
 |.v x,F=>F (.v x)
 |.str l,F=>F (.str l)
 |.iptr l,F=>F (.iptr l)
 |.sl sz l,F=>F (.sl sz l)
 |.fn f l,F=>F (.fn f l)
 |.err,F=>F .err
 |.own e sz l,F=>F (.own e sz l)
def BA:List AV→(List AV→Prop)→Prop
 |[],F=>F []
 |x::r,F=>U2 x fun x2=>BA r fun r2=>F (x2::r2)
end
mutual
theorem ES:∀{a:AV} {F:AV→Prop},U2 a F→F a
 |.agg l,F,h=>BB (l:=l) (F:=fun l2=>F (.agg l2)) (by simpa only[U2]using h)
 |.tup l,F,h=>BB (l:=l) (F:=fun l2=>F (.tup l2)) (by simpa only[U2]using h)
 |.fo f l,F,h=>BB (l:=l) (F:=fun l2=>F (.fo f l2)) (by simpa only[U2]using h)
 |.ref i o,F,h=>by simp only[U2]at h;exact D9 (D9 h)
 |.row i v m,F,h=>by simp only[U2]at h;exact D9 (D9 h)
 |.elt i v k o,F,h=>by simp only[U2]at h;exact D9 (D9 h)
 |.sub i v k o,F,h=>by simp only[U2]at h;exact D9 (D9 h)
 |.mp i,F,h=>by simp only[U2]at h;exact D9 h
 |.any,F,h=>by simpa only[U2]using h
 |.v x,F,h=>by simpa only[U2]using h
 |.str l,F,h=>by simpa only[U2]using h
 |.iptr l,F,h=>by simpa only[U2]using h
 |.sl sz l,F,h=>by simpa only[U2]using h
 |.fn f l,F,h=>by simpa only[U2]using h
 |.err,F,h=>by simpa only[U2]using h
 |.own e sz l,F,h=>by simpa only[U2]using h
theorem BB:∀{l:List AV} {F:List AV→Prop},BA l F→F l
 |[],F,h=>by simpa only[BA]using h
 |x::r,F,h=>by
  simp only[BA]at h
  exact BB (l:=r) (F:=fun r2=>F (x::r2)) (ES (a:=x) (F:=fun x2=>BA r fun r2=>F (x2::r2)) h)
end
def CW:List (Nat×AV)→(List (Nat×AV)→Prop)→Prop
 |[],F=>F []
 |(k,x)::r,F=>U2 x fun x2=>CW r fun s=>F ((k,x2)::s)
theorem l7:∀{l:List (Nat×AV)} {F:List (Nat×AV)→Prop},CW l F→F l
 |[],F,h=>h
 |(k,x)::r,F,h=>l7 (l:=r) (F:=fun s=>F ((k,x)::s)) (ES (a:=x) (F:=fun x2=>CW r fun s=>F ((k,x2)::s)) h)
def KC:List Bool→(List Bool→Prop)→Prop
 |[],F=>F []
 |true::r,F=>KC r fun s=>F (true::s)
 |false::r,F=>KC r fun s=>F (false::s)
theorem ET:∀{l:List Bool} {F:List Bool→Prop},KC l F→F l
 |[],F,h=>h
 |true::r,F,h=>ET (l:=r) (F:=fun s=>F (true::s)) h
 |false::r,F,h=>ET (l:=r) (F:=fun s=>F (false::s)) h
def U3:Hp→(Hp→Prop)→Prop
 |[],F=>F []
 |(k,some (.bx τ l))::r,F=>G8 k fun k=>BA l fun l2=>U3 r fun s=>F ((k,some (.bx τ l2))::s)
 |(k,some (.row e sz v l))::r,F=>G8 k fun k=>G8 v fun v2=>U3 r fun s=>F ((k,some (.row e sz v2 l))::s)
 |(k,some (.map m))::r,F=>G8 k fun k=>U3 r fun s=>F ((k,some (.map m))::s)
 |(k,some (.it t p))::r,F=>G8 k fun k=>U3 r fun s=>F ((k,some (.it t p))::s)
 |(k,none)::r,F=>G8 k fun k=>U3 r fun s=>F ((k,none)::s)
theorem S4:∀{l:Hp} {F:Hp→Prop},U3 l F→F l
 |[],F,h=>h
 |(k,some (.bx τ l))::r,F,h=>S4 (l:=r) (F:=fun s=>F ((k,some (.bx τ l))::s)) (BB (l:=l) (F:=fun l2=>U3 r fun s=>F ((k,some (.bx τ l2))::s)) (D9 (F:=fun k=>BA l fun l2=>U3 r fun s=>F ((k,some (.bx τ l2))::s)) h))
 |(k,some (.row e sz v l))::r,F,h=>S4 (l:=r) (F:=fun s=>F ((k,some (.row e sz v l))::s)) (D9 (F:=fun v2=>U3 r fun s=>F ((k,some (.row e sz v2 l))::s)) (D9 (F:=fun k=>G8 v fun v2=>U3 r fun s=>F ((k,some (.row e sz v2 l))::s)) h))
 |(k,some (.map m))::r,F,h=>S4 (l:=r) (F:=fun s=>F ((k,some (.map m))::s)) (D9 (F:=fun k=>U3 r fun s=>F ((k,some (.map m))::s)) h)
 |(k,some (.it t p))::r,F,h=>S4 (l:=r) (F:=fun s=>F ((k,some (.it t p))::s)) (D9 (F:=fun k=>U3 r fun s=>F ((k,some (.it t p))::s)) h)
 |(k,none)::r,F,h=>S4 (l:=r) (F:=fun s=>F ((k,none)::s)) (D9 (F:=fun k=>U3 r fun s=>F ((k,none)::s)) h)
mutual
def N7(ρ s:Nat→Nat):AV→AV
 |.ref i off=>.ref (ρ i) off
 |.row i v len=>.row (ρ i) (v+s i) len
 |.elt i v k off=>.elt (ρ i) (v+s i) k off
 |.sub i v k off=>.sub (ρ i) (v+s i) k off
 |.mp i=>.mp (ρ i)
 |.agg l=>.agg (AK ρ s l)
 |.tup l=>.tup (AK ρ s l)
 |.fo f l=>.fo f (AK ρ s l)
 |x=>x
def AK(ρ s:Nat→Nat):List AV→List AV
 |[]=>[]
 |x::r=>N7 ρ s x::AK ρ s r
end
theorem Q2(ρ s:Nat→Nat):∀l,AK ρ s l=l.map (N7 ρ s)
 |[]=>by simp[AK]
 |x::r=>by simp[AK,Q2 ρ s r]
def j6(ρ s:Nat→Nat)(i:Nat):D3→D3
 |.bx τ l=>.bx τ (AK ρ s l)
 |.row e sz v l=>.row e sz (v+s i) l
 |.map m=>.map m
 |.it t p=>.it t p
structure Ren(c c':Cx)(ρ s:Nat→Nat):Prop where
 nx:∀i,i<c.nx→ρ i<c'.nx
 θ:∀i,i<c.nx→c'.θ (ρ i)=c.θ i
 N:∀i,i<c.nx→c'.θ.N (ρ i)=c.θ.N i
 w:c'.w=c.w
 U:∀k,c'.U k→c.U k
 rows:∀i,i<c.nx→∀e sz v' l,A5 c'.hp (ρ i)=some (.row e sz v' l)→∃v,A5 c.hp i=some (.row e sz v l)∧v'=v+s i
theorem Ren.im{c c':Cx}{ρ s:Nat→Nat}(h:Ren c c' ρ s){a:AV}{x:Value}(hi:Im c.U c.w a x):Im c'.U c'.w a x:=hi.mono (fun k _ _=>by rw[h.w]) fun k _ hu=>h.U k hu
theorem kU{c c':Cx}{ρ s:Nat→Nat}(h:Ren c c' ρ s){a:AV}{x:Value}(hi:Im c.U c.w a x):N7 ρ s a=a∨D8 c' (N7 ρ s a) x:=by
 induction hi with
 |v x=>exact .inl rfl
 |str l=>exact .inl rfl
 |fn f l cs hl hc ih=>exact .inl rfl
 |iptr l a f hu hc hh ih=>exact .inl rfl
 |err t p=>exact .inl rfl
 |any x=>exact .inl rfl
 |own e sz l x=>exact .inl rfl
 |slnil sz=>exact .inl rfl
 |sl sz l a cap f oY hm hu hsz hc hh ih=>exact .inl rfl
 |agg l cs hl hc ih =>
  refine .inr ?_
  simp only[N7,Q2]
  refine .agg _ cs (by simp[hl]) fun j u z hu hz=>?_
  simp only[List.getElem?_map,Option.map_eq_some_iff]at hu
  obtain⟨u0,pc,rfl⟩:=hu
  rcases ih j u0 z pc hz with e|e
  ·rw[e];exact .im (h.im (hc j u0 z pc hz))
  ·exact e
 |tup l cs hl hc ih =>
  refine .inr ?_
  simp only[N7,Q2]
  refine .tup _ cs (by simp[hl]) fun j u z hu hz=>?_
  simp only[List.getElem?_map,Option.map_eq_some_iff]at hu
  obtain⟨u0,pc,rfl⟩:=hu
  rcases ih j u0 z pc hz with e|e
  ·rw[e];exact .im (h.im (hc j u0 z pc hz))
  ·exact e
theorem Oe{c c':Cx}{ρ s:Nat→Nat}(h:Ren c c' ρ s){a:AV}{x:Value}(r:D8 c a x):D8 c' (N7 ρ s a) x:=by
 induction r with
 |any x=>exact .any x
 |im hi =>
  rcases kU h hi with e|e
  ·rw[e];exact .im (h.im hi)
  ·exact e
 |agg l cs hl _ ih =>
  simp only[N7,Q2]
  refine .agg _ cs (by simp[hl]) fun j u z hu hz=>?_
  simp only[List.getElem?_map,Option.map_eq_some_iff]at hu
  obtain⟨u0,pc,rfl⟩:=hu
  exact ih j u0 z pc hz
 |tup l cs hl _ ih =>
  simp only[N7,Q2]
  refine .tup _ cs (by simp[hl]) fun j u z hu hz=>?_
  simp only[List.getElem?_map,Option.map_eq_some_iff]at hu
  obtain⟨u0,pc,rfl⟩:=hu
  exact ih j u0 z pc hz
 |fo f l cs hl _ ih =>
  simp only[N7,Q2]
  refine .fo f _ cs (by simp[hl]) fun j u z hu hz=>?_
  simp only[List.getElem?_map,Option.map_eq_some_iff]at hu
  obtain⟨u0,pc,rfl⟩:=hu
  exact ih j u0 z pc hz
 |ref i off b hi hθ=>exact .ref _ off b (h.nx i hi) (by rw[h.θ i hi];exact hθ)
 |row i ver len x hi hr =>
  refine .row _ _ len x (h.nx i hi) fun e sz v' l hl=>?_
  obtain⟨v,hv,rfl⟩:=h.rows i hi e sz v' l hl
  obtain⟨h1,h2⟩:=hr e sz v l hv
  exact⟨by omega,fun e=>by rw[h.θ i hi];exact h2 (by omega)⟩
 |mp i r hi hθ=>exact .mp _ r (h.nx i hi) (by rw[h.θ i hi];exact hθ)
 |sub i ver lo len x hi hr =>
  refine .sub _ _ lo len x (h.nx i hi) fun e sz v' l hl=>?_
  obtain⟨v,hv,rfl⟩:=h.rows i hi e sz v' l hl
  obtain⟨h1,h2⟩:=hr e sz v l hv
  exact⟨by omega,fun e=>by rw[h.θ i hi];exact h2 (by omega)⟩
 |elt i ver k off x hi hr =>
  refine .elt _ _ k off x (h.nx i hi) fun e sz v' l hl=>?_
  obtain⟨v,hv,rfl⟩:=h.rows i hi e sz v' l hl
  obtain⟨h1,h2⟩:=hr e sz v l hv
  exact⟨by omega,fun e=>by rw[h.θ i hi];exact h2 (by omega)⟩
theorem WJ{c c':Cx}{ρ s:Nat→Nat}(h:Ren c c' ρ s){i:Nat}{b:D3}(hi:i<c.nx)(o:L6 c i b):L6 c' (ρ i) (j6 ρ s i b):=by
 cases b with
 |bx τ l =>
  obtain⟨b',oG,T,e1,e2,e3,e4⟩:=o
  refine⟨b',oG,T,by rw[h.θ i hi];exact e1,by rw[h.w];exact e2,by rw[Q2,List.length_map];exact e3,fun j u z hu hz=>?_⟩
  rw[Q2]at hu
  simp only[List.getElem?_map,Option.map_eq_some_iff]at hu
  obtain⟨u0,pc,rfl⟩:=hu
  exact Oe h (e4 j u0 z pc hz)
 |row e sz v l =>
  obtain⟨xs,e1,e2,e3,e4⟩:=o
  refine⟨xs,by rw[h.θ i hi,h.w];exact e1,e2,fun k el hk j x hx=>?_,fun hne=>⟨fun k p hk=>by rw[h.w];exact(e4 hne).1 k p (by rw[←h.N i hi];exact hk),fun k el hk j e' ni l' hj=>?_⟩⟩
  ·obtain⟨y,hy,hi⟩:=e3 k el hk j x hx
   exact⟨y,hy,h.im hi⟩
  ·obtain⟨g,m,cap,y,ys,q1,q2,q3,q4,q5,q6,q7⟩:=(e4 hne).2 k el hk j e' ni l' hj
   exact⟨g,m,cap,y,ys,by rw[h.θ i hi];exact q1,by rw[h.w];exact q2,by rw[h.w];exact q3,q4,q5,fun q pD hq j' x hx=>by
    obtain⟨z,hz,hi⟩:=q6 q pD hq j' x hx
    exact⟨z,hz,h.im hi⟩,fun b hb=>by rw[h.N i hi];exact q7 b hb⟩
 |map m =>
  obtain⟨r,es,clock,e1,e2,e3,e4⟩:=o
  exact⟨r,es,clock,by rw[h.θ i hi];exact e1,by rw[h.w];exact e2,e3,fun j q e hj he=>⟨(e4 j q e hj he).1,h.im (e4 j q e hj he).2⟩⟩
 |it t p =>
  obtain⟨r,e1,e2⟩:=o
  exact⟨r,by rw[h.θ i hi];exact e1,by rw[h.w];exact e2⟩
theorem Pn{c c':Cx}{ρ s:Nat→Nat}(hθ:∀i,i<c.nx→c'.θ (ρ i)=c.θ i)(hw:c'.w=c.w)(hU:∀k,c.U k→c'.U k)
  (pA:∀i,i<c.nx→∀e sz v l,A5 c.hp i=some (.row e sz v l)→A5 c'.hp (ρ i)=some (.row e sz (v+s i) l)):∀{a:AV} {x:Value},W7 c.nx a=true→D8 c' (N7 ρ s a) x→D8 c a x:=by
 have uG:∀{a:AV} {x:Value},Im c'.U c'.w a x→Im c.U c.w a x:=fun hi=>hi.mono (fun k _ _=>by rw[hw]) fun k _ hu=>hU k hu
 intro a
 refine AV.rec (motive_1:=fun a=>∀{x:Value},W7 c.nx a=true→D8 c' (N7 ρ s a) x→D8 c a x)
  (motive_2:=fun l=>U1 c.nx l=true→∀(j:Nat) u x,l[j]?=some u→D8 c' (N7 ρ s u) x→D8 c u x)
  (motive_3:=fun _=>True) ?_ ?_ ?_ ?_ ?_ ?_ ?_ ?_ ?_ ?_ ?_ ?_ ?_ ?_ ?_ ?_ ?_ ?_ ?_ ?_ a
 ·intro x _ _;exact .any x
 ·intro v x _ r;cases r with|im hi=>exact .im (uG hi)
 ·intro l x _ r;cases r with|im hi=>exact .im (uG hi)
 ·intro l ih x nf r
  simp only[W7]at nf
  simp only[N7,Q2]at r
  obtain⟨cs,rfl,hl,hr⟩:=El r
  refine .agg l cs (by simpa using hl) fun j u z hu hz=>ih nf j u z hu ?_
  exact hr j _ z (by simp[hu]) hz
 ·intro l ih x nf r
  simp only[W7]at nf
  simp only[N7,Q2]at r
  have:∃cs:List Value,x=.tuple cs.toArray∧(l.map (N7 ρ s)).length=cs.length∧∀(j:Nat) u z,(l.map (N7 ρ s))[j]?=some u→cs[j]?=some z→D8 c' u z:=by
   generalize l.map (N7 ρ s)=l' at r
   cases r with
   |im hi=>cases hi with|tup l cs hl hc=>exact⟨cs,rfl,hl,fun j u z hu hz=>.im (hc j u z hu hz)⟩
   |tup l cs hl hc=>exact⟨cs,rfl,hl,hc⟩
  obtain⟨cs,rfl,hl,hr⟩:=this
  refine .tup l cs (by simpa using hl) fun j u z hu hz=>ih nf j u z hu ?_
  exact hr j _ z (by simp[hu]) hz
 ·intro i off x nf r
  simp only[W7,Nat.blt_eq]at nf
  simp only[N7]at r
  obtain⟨b,h1,rfl,_⟩:=k5 r
  exact .ref i off b nf (by rw[←hθ i nf];exact h1)
 ·intro l _ x _ r;cases r with|im hi=>exact .im (uG hi)
 ·intro sz l _ x _ r;cases r with|im hi=>exact .im (uG hi)
 ·intro i ver len x nf r
  simp only[W7,Nat.blt_eq]at nf
  simp only[N7]at r
  refine .row i ver len x nf fun e sz v l hl=>?_
  cases r with
  |im hi=>cases hi
  |row _ _ _ _ hi h =>
   obtain⟨h1,h2⟩:=h e sz _ l (pA i nf e sz v l hl)
   exact⟨by omega,fun e=>by rw[←hθ i nf];exact h2 (by omega)⟩
 ·intro i x nf r
  simp only[W7,Nat.blt_eq]at nf
  simp only[N7]at r
  cases r with
  |im hi=>cases hi
  |mp _ r hi h=>exact .mp i r nf (by rw[←hθ i nf];exact h)
 ·intro i ver k off x nf r
  simp only[W7,Nat.blt_eq]at nf
  simp only[N7]at r
  refine .elt i ver k off x nf fun e sz v l hl=>?_
  cases r with
  |im hi=>cases hi
  |elt _ _ _ _ _ hi h =>
   obtain⟨h1,h2⟩:=h e sz _ l (pA i nf e sz v l hl)
   exact⟨by omega,fun e=>by rw[←hθ i nf];exact h2 (by omega)⟩
 ·intro f l _ x _ r;cases r with|im hi=>exact .im (uG hi)
 ·intro x _ r;cases r with|im hi=>exact .im (uG hi)
 ·intro f l ih x nf r
  simp only[W7]at nf
  simp only[N7,Q2]at r
  have:∃cs:List Value,x=Rj f cs.toArray∧(l.map (N7 ρ s)).length=cs.length∧∀(j:Nat) u z,(l.map (N7 ρ s))[j]?=some u→cs[j]?=some z→D8 c' u z:=by
   generalize l.map (N7 ρ s)=l' at r
   cases r with
   |im hi=>cases hi
   |fo f l cs hl hc=>exact⟨cs,rfl,hl,hc⟩
  obtain⟨cs,rfl,hl,hr⟩:=this
  refine .fo f l cs (by simpa using hl) fun j u z hu hz=>ih nf j u z hu ?_
  exact hr j _ z (by simp[hu]) hz
 ·intro e sz l _ x _ _;exact .im (.own e sz l x)
 ·intro i ver lo len x nf r
  simp only[W7,Nat.blt_eq]at nf
  simp only[N7]at r
  refine .sub i ver lo len x nf fun e sz v l hl=>?_
  cases r with
  |im hi=>cases hi
  |sub _ _ _ _ _ hi h =>
   obtain⟨h1,h2⟩:=h e sz _ l (pA i nf e sz v l hl)
   exact⟨by omega,fun e=>by rw[←hθ i nf];exact h2 (by omega)⟩
 ·intro _ j u x hu;simp at hu
 ·intro a l iha sj nf j u x hu r
  simp only[U1,Bool.and_eq_true]at nf
  cases j with
  |zero=>simp at hu;subst hu;exact iha nf.1 r
  |succ j=>exact sj nf.2 j u x (by simpa using hu) r
 ·trivial
 ·intros;trivial
structure IX(X:Nat→Prop)(θ:Th)(nx:Nat)(hp:Hp)(w:World):Prop where
 owns:∀i b,A5 hp i=some b→i<nx∧L6 ⟨θ,nx,hp,X,w⟩ i b
 apart:∀i j b b' k,A5 hp i=some b→A5 hp j=some b'→FP θ i b k→FP θ j b' k→i=j
 fresh:∀i b k,A5 hp i=some b→FP θ i b k→¬X k
def owned(θ:Th)(hp:Hp)(k:Nat):Prop:=∃i b,A5 hp i=some b∧FP θ i b k
theorem IX.nodf{X:Nat→Prop}{θ:Th}{nx:Nat}{hp:Hp}{w:World}(h:IX X θ nx hp w){k:Nat}(ho:owned θ hp k){d:Option (List Deferred)}:w.heap[k]?≠some (Obj.deferred d):=by
 obtain⟨i,b,hi,hk⟩:=ho
 exact(h.owns i b hi).2.nodf hk
theorem Po(ρ s:Nat→Nat)(i:Nat)(b:D3):U6 (j6 ρ s i b)=U6 b:=by cases b<;>rfl
theorem FP.ren{θ θ':Th}{ρ s:Nat→Nat}{i k:Nat}{b:D3}(h1:θ' (ρ i)=θ i)(h2:θ'.N (ρ i)=θ.N i):FP θ' (ρ i) (j6 ρ s i b) k↔FP θ i b k:=by
 unfold FP
 rw[Po,h1,h2]
structure EU(X:Nat→Prop)(θ:Th)(w:World)(m0:Nat)(hp0:Hp)(m1:Nat)(hp1:Hp)(r:AV)(e:Ending)(w':World):Prop where
 out:∃v θ',e=.returned v∧D8 ⟨θ',m1,hp1,X,w'⟩ r v∧IX X θ' m1 hp1 w'∧(∀i b k,A5 hp1 i=some b→FP θ' i b k→owned θ hp0 k∨w.heap.size≤k)∧(∀i,i<m0→θ' i=θ i∨(∃x n k,θ i=.slice x n k)∧¬Kept hp1 i)
 os:w'.os=w.os
 tape:w'.tape=w.tape
 output:w'.output=w.output
 size:w.heap.size≤w'.heap.size
 block:∀k,k<w.heap.size→¬owned θ hp0 k→w'.heap[k]?=w.heap[k]?
def B8(P:Program)(f m0:Nat)(hp0:Hp)(args:List AV)(m1:Nat)(hp1:Hp)(r:AV):Prop:=OT P f ∧
 ∀(X:Nat→Prop) (θ:Th) (w:World) (vs:List Value),(∀k,X k→k<w.heap.size)→P3 (fun k=>X k∨owned θ hp0 k) w→IX X θ m0 hp0 w→args.length=vs.length→(∀(j:Nat) a v,args[j]?=some a→vs[j]?=some v→D8 ⟨θ,m0,hp0,X,w⟩ a v) →
  Calls P f vs.toArray w fun e w'=>EU X θ w m0 hp0 m1 hp1 r e w'
def U7:ResultVar→Nat
 |.tmp t=>t
 |.cell t _=>t
def Fe(σ:St):List ResultVar→St
 |[]=>σ
 |.tmp _::r=>Fe σ r
 |.cell t _::r=>match look σ.sl t with
  |some (.ref i 0)=>match A5 σ.hp i with
   |some (.bx _ l)=>Fe (σ.put t (.agg l)) r
   |_=>σ
  |_=>σ
def SX(P:Program)(n:Nat)(σ:St):List ResultVar→Prop
 |[]=>True
 |.tmp _::r=>SX P n σ r
 |.cell t T::r=>∃i l sz,look σ.sl t=some (.ref i 0)∧A5 σ.hp i=some (.box l)∧G5 P T true sz∧l.length=sz∧Nat.blt t n=true∧SX P n (σ.put t (.agg l)) r
def SY:List ResultVar→List AV→List (Nat×AV)
 |v::r,a::s=>(U7 v,a)::SY r s
 |_,_=>[]
def gL:List AV→AV
 |[a]=>a
 |l=>.tup l
def Bv:List ResultVar→Bool
 |[]=>true
 |v::r=>(r.all fun u=>!(Nat.beq (U7 u) (U7 v))) && Bv r
theorem SZ{tmps tmps':Array Value}{rv:ResultVar}(h:tmps.getD (U7 rv) undef=tmps'.getD (U7 rv) undef):W8 tmps rv=W8 tmps' rv:=by
 cases rv with
 |tmp t=>simp only[W8];rw[show tmps.getD t undef=tmps'.getD t undef from h]
 |cell t T=>simp only[W8];rw[show tmps.getD t undef=tmps'.getD t undef from h]
theorem Kt{a:Act}{d s:Nat}{v:Value}(h:d≠s):(a.put (some d) v).tmps.getD s undef=a.tmps.getD s undef:=by
 simp[Act.put,Array.getD_eq_getD_getElem?,Array.getElem?_setIfInBounds_ne h]
theorem VH{a:Act}{d:Nat}{v:Value}(h:d<a.tmps.size):(a.put (some d) v).tmps.getD d undef=v:=by
 simp[Act.put,Array.getD,h]
theorem JD{P:Program}{E:Env}{n:Nat}{θ:Th}{w:World}:∀{rvs:List ResultVar} {σ:St} {a:Act},J6 E n θ σ a w→SX P n σ rvs→Bv rvs=true →
  ∃a',J6 E n θ (Fe σ rvs) a' w∧(∀rv∈rvs,(W8 a.tmps rv).run P w=.ok (a'.tmps.getD (U7 rv) undef) w)∧∀s,(∀rv∈rvs,U7 rv≠s)→a'.tmps.getD s undef=a.tmps.getD s undef
 |[],σ,a,hs,_,_=>⟨a,hs,(fun rv h=>by (cases h)),fun s _=>rfl⟩
 |.tmp t::r,σ,a,hs,pS,qm=>by
  simp only[Bv,Bool.and_eq_true,List.all_eq_true,Bool.not_eq_true']at qm
  obtain⟨a',h1,h2,h3⟩:=JD (rvs:=r) hs pS qm.2
  refine⟨a',h1,fun rv tw=>?_,fun s og=>h3 s fun rv h=>og rv (by simp[h])⟩
  rcases List.mem_cons.1 tw with rfl|tw
  ·have:=h3 t (fun rv h e=>by
    have h4:=qm.1 rv h
    have e':U7 rv=U7 (.tmp t):=e
    rw[e']at h4
    simp at h4)
   simp[W8,U7,Sem.run_pure,this]
  ·exact h2 rv tw
 |.cell t T::r,σ,a,hs,pS,qm=>by
  simp only[Bv,Bool.and_eq_true,List.all_eq_true,Bool.not_eq_true']at qm
  obtain⟨i,l,sz,h1,h2,tv,si,hn,pS⟩:=pS
  have yW:=Nat.blt_eq▸hn
  obtain⟨b1,hθ,hv,_⟩:=k5 (hs.slots t _ h1)
  obtain⟨b',oG,T',pB,hh,hsz,hr⟩:=(hs.owns i _ h2).2
  have pu:θ i=.pointer (some ⟨b1,0,none⟩):=hθ
  have qX:θ i=.pointer (some ⟨b',0,none⟩):=pB
  rw[pu]at qX
  cases qX
  have vq:w.heap[b1]?=some (.cells oG T' (0,0)):=hh
  have pM:D8 (cx E θ σ w) (.agg l) (.agg oG):=by
   have:=D8.agg (c:=cx E θ σ w) l oG.toList (by simp[hsz]) (fun j x y hx hy=>hr j x y hx (by simpa using hy))
   simpa using this
  have up:=hs.put yW pM
  have qP:=R9 (P:=P) (T:=T) (sz:=sz) (w:=w) (a:=⟨b1,0,none⟩) (cs:=oG.toList) (by rw[Array.length_toList,hsz,si]) (fun j v hj=>by rw[H3,K1 vq];simpa using hj)
  obtain⟨a',h3,h4,h5⟩:=JD (rvs:=r) up pS qm.2
  have hne:∀rv∈r,U7 rv≠t:=fun rv h e=>by
   have h6:=qm.1 rv h
   have e':U7 rv=U7 (.cell t T):=e
   rw[e']at h6
   simp at h6
  have rC:Fe σ (.cell t T::r)=Fe (σ.put t (.agg l)) r:=by simp only[Fe,h1,h2]
  refine⟨a',rC▸h3,fun rv tw=>?_,fun s og=>?_⟩
  ·rcases List.mem_cons.1 tw with rfl|tw
   ·have h6:=h5 t hne
    rw[VH (by rw[hs.size];exact yW)]at h6
    show _=Result.ok (a'.tmps.getD t undef) w
    rw[h6]
    simp[W8,hv,Sem.run_bind,Sem.run_pure,asAddr,qP]
   ·rw[←h4 rv tw]
    rw[SZ (tmps:=a.tmps) (tmps':=(a.put (some t) (.agg oG)).tmps)]
    exact(Kt (Ne.symm (hne rv tw))).symm
  ·rw[h5 s fun rv h=>og rv (by simp[h]),Kt]
   exact og (.cell t T) (by simp)
theorem Pp:∀{rvs:List ResultVar} {as:List AV},rvs.length=as.length→Bv rvs=true→∀(j:Nat) rv a,rvs[j]?=some rv→as[j]?=some a→look (SY rvs as) (U7 rv)=some a
 |[],_,_,_,j,rv,a,h,_=>by simp at h
 |v::r,[],hl,_,_,_,_,_,_=>by simp at hl
 |v::r,b::s,hl,qm,j,rv,a,hj,ha=>by
  simp only[Bv,Bool.and_eq_true,List.all_eq_true,Bool.not_eq_true']at qm
  simp only[SY,E6]
  cases j with
  |zero=>simp at hj ha;subst hj ha;simp
  |succ j =>
   have ny:r[j]?=some rv:=by simpa using hj
   have hne:U7 v≠U7 rv:=fun e=>by
    have h6:=qm.1 rv (List.mem_of_getElem? ny)
    rw[←e]at h6
    simp at h6
   rw[if_neg hne]
   exact Pp (by simpa using hl) qm.2 j rv a ny (by simpa using ha)
def dg(P:Program)(E:Env)(n:Nat)(rs:Array ResultVar)(m1:Nat)(hp1:Hp)(r:AV)(σ:St):Prop :=
 (∃rvs as,rs=rvs.toArray∧SX P n σ rvs∧Bv rvs=true∧rvs.length=as.length∧St.le E n (Fe σ rvs) ⟨SY rvs as,m1,hp1⟩∧r=gL as) ∨
 (∃t,rs=#[.tmp t]∧St.le E n σ ⟨[(t,r)],m1,hp1⟩) ∨
 (∃t u a b,rs=#[.tmp t,.tmp u]∧St.le E n σ ⟨[(t,a),(u,b)],m1,hp1⟩∧t≠u∧r=.tup [a,b]) ∨
 (∃t T i τ l sz,rs=#[.cell t T]∧G5 P T true sz∧l.length=sz∧St.le E n σ ⟨[(t,.ref i 0)],m1,hp1⟩∧A5 hp1 i=some (.bx τ l)∧r=.agg l)
def C6(P:Program)(E:Env)(n:Nat)(rs:Array ResultVar)(m1:Nat)(hp1:Hp)(r:AV):Exit→St→Prop
 |.ret,σ=>dg P E n rs m1 hp1 r σ
 |.normal,σ=>dg P E n rs m1 hp1 r σ
 |_,_=>False
section rules
variable {P:Program} {E:Env} {n:Nat} {ops:Array Oper} {rest:List Oper} {σ:St} {K:St→Prop} {Q:Exit→St→Prop}
variable {d:Nat} {ty:TypeId} {pos:String} {after:Array Edge} {x y:Operand}
theorem H7{t m1:Nat}{hp1:Hp}{r:AV}(h:St.le E n σ ⟨[(t,r)],m1,hp1⟩):C6 P E n #[.tmp t] m1 hp1 r .ret σ:=.inr (.inl ⟨t,rfl,h⟩)
theorem M0{rvs:List ResultVar}{vs:List AV}{m1:Nat}{hp1:Hp}{r:AV}(pS:SX P n σ rvs)(qm:Bv rvs=true)(hl:rvs.length=vs.length)(h:St.le E n (Fe σ rvs) ⟨SY rvs vs,m1,hp1⟩)(hr:gL vs=r):C6 P E n rvs.toArray m1 hp1 r .ret σ:=.inl ⟨rvs,vs,rfl,pS,qm,hl,h,hr.symm⟩
theorem Pq{t T i m1 sz τ:Nat}{hp1:Hp}{l:List AV}[tv:G5 P T true sz](hl:l.length=sz)(h:St.le E n σ ⟨[(t,.ref i 0)],m1,hp1⟩)(hb:A5 hp1 i=some (.bx τ l)):C6 P E n #[.cell t T] m1 hp1 (.agg l) .ret σ :=
 .inr (.inr (.inr ⟨t,T,i,τ,l,sz,rfl,tv,hl,h,hb,rfl⟩))
theorem Sa{f:Nat}{fn:Func}{code:Code}{args:List AV}{r:AV}{rs:Array ResultVar}{m0 m1:Nat}{hp0 hp1:Hp}(hf:P.funcs[f]?=some fn)(hb:fn.body=some code)(hn:fn.ntmps=n)(sa:fn.results=rs)
  (oC:Nat.ble args.length n=true) {X:Nat→Prop} {θ:Th} {w:World} {vs:List Value} (hX:∀k,X k→k<w.heap.size) (oa:P3 (fun k=>X k∨owned θ hp0 k) w) (rS:IX X θ m0 hp0 w) (hl:args.length=vs.length) (qf:∀(j:Nat) a v,args[j]?=some a→vs[j]?=some v→D8 ⟨θ,m0,hp0,X,w⟩ a v)
  (h:C7 P ⟨w,X,owned θ hp0,θ.v,m0,oa,false⟩ n code ⟨Ag args 0,m0,hp0⟩ (C6 P ⟨w,X,owned θ hp0,θ.v,m0,oa,false⟩ n rs m1 hp1 r)):Calls P f vs.toArray w fun e w'=>EU X θ w m0 hp0 m1 hp1 r e w':=by
 subst hn sa
 refine calls_of_wp hf hb ?_
 have ob:args.length≤fn.ntmps:=Nat.ble_eq▸oC
 have start:i9 ⟨w,X,owned θ hp0,θ.v,m0,oa,false⟩ fn.ntmps ⟨Ag args 0,m0,hp0⟩ { tmps:=vs.toArray++Array.replicate (fn.ntmps-vs.toArray.size) undef,defers:=[] } w:=by
  refine⟨θ,?_,.nil,⟨rfl,rfl,rfl,Nat.le_refl _,fun _ _ _=>rfl⟩,fun s x hs=>?_,rS.owns,rS.apart,fun i b k hi hk=>⟨rS.fresh i b k hi hk,.inl ⟨i,b,hi,hk⟩⟩,hX,⟨Nat.le_refl _,fun i hi=>.inl rfl⟩⟩
  ·simp;omega
  ·obtain⟨_,hx⟩:=EQ args 0 s x hs
   rw[Nat.sub_zero]at hx
   have nf:s<vs.length:=by rw[←hl];exact(List.getElem?_eq_some_iff.1 hx).1
   have hv:vs[s]?=some vs[s]:=List.getElem?_eq_getElem nf
   have e:(vs.toArray++Array.replicate (fn.ntmps-vs.toArray.size) undef).getD s undef=vs[s]:=by
    rw[Array.getD_eq_getD_getElem?,Array.getElem?_append]
    simp[nf]
   rw[e]
   exact qf s x _ hx hv
 refine wp_mono (h _ w start) ?_
 rintro e a w' ⟨σ',hq,rB⟩
 have fin:dg P ⟨w,X,owned θ hp0,θ.v,m0,oa,false⟩ fn.ntmps fn.results m1 hp1 r σ'→bodyPost P fn (fun e rD=>EU X θ w m0 hp0 m1 hp1 r e rD) .ret a w':=by
  intro tP
  have post:∀{sl:List (Nat×AV)} {v:Value} {θ':Th},J6 ⟨w,X,owned θ hp0,θ.v,m0,oa,false⟩ fn.ntmps θ' ⟨sl,m1,hp1⟩ a w'→D8 ⟨θ',m1,hp1,X,w'⟩ r v→EU X θ w m0 hp0 m1 hp1 r (.returned v) w':=by
   intro sl v θ' hs hv
   exact⟨⟨v,θ',rfl,hv,⟨hs.owns,hs.apart,fun i b k hi hk=>(hs.mine i b k hi hk).1⟩,fun i b k hi hk=>(hs.mine i b k hi hk).2,hs.base.2⟩,hs.fr.os,hs.fr.tape,hs.fr.output,hs.fr.size,hs.fr.block⟩
  rcases tP with ⟨rvs,as,h1,pS,qm,nZ,h2,hr⟩|⟨t,h1,h2⟩|⟨t,u,a1,b1,h1,h2,hne,rfl⟩|⟨t,T,i,τ,l,sz,h1,tv,nZ,h2,h3,rfl⟩
  ·obtain⟨θ0,uQ⟩:=rB
   obtain⟨a',up,oI,_⟩:=JD uQ pS qm
   obtain⟨θ',hs⟩:=h2 a' w' ⟨θ0,up⟩
   have pM:∀(j:Nat) rv b,rvs[j]?=some rv→as[j]?=some b→D8 ⟨θ',m1,hp1,X,w'⟩ b (a'.tmps.getD (U7 rv) undef):=fun j rv b hj hb=>hs.slots _ b (Pp nZ qm j rv b hj hb)
   have ur:∀{v:Value},D8 ⟨θ',m1,hp1,X,w'⟩ r v→EU X θ w m0 hp0 m1 hp1 r (.returned v) w':=fun hv =>
    ⟨⟨_,θ',rfl,hv,⟨hs.owns,hs.apart,fun i b k hi hk=>(hs.mine i b k hi hk).1⟩,fun i b k hi hk=>(hs.mine i b k hi hk).2,hs.base.2⟩,hs.fr.os,hs.fr.tape,hs.fr.output,hs.fr.size,hs.fr.block⟩
   have tup:rvs.length≠1→r=.tup as→∃v,(results fn a.tmps).run P w'=.ok v w'∧EU X θ w m0 hp0 m1 hp1 r (.returned v) w':=by
    intro hne hr
    refine⟨_,Ks (vs:=rvs.map fun rv=>a'.tmps.getD (U7 rv) undef) h1 hne (by simp) (fun j rv v hj hv=>?_),ur ?_⟩
    ·simp only[List.getElem?_map,hj,Option.map_some,Option.some.injEq]at hv
     subst hv
     exact oI rv (List.mem_of_getElem? hj)
    ·rw[hr]
     refine .tup as _ (by simp[nZ]) fun j b v hb hv=>?_
     simp only[List.getElem?_map,Option.map_eq_some_iff]at hv
     obtain⟨rv,hj,rfl⟩:=hv
     exact pM j rv b hj hb
   match rvs,as,nZ,hr,h1,oI,pM,tup with
   |[rv],[b],_,hr,h1,oI,pM,_ =>
    have hr:r=b:=hr
    subst hr
    exact⟨uQ.defers.1 rfl,_,SQ h1 (oI rv (by simp)),ur (pM 0 rv _ rfl rfl)⟩
   |[],[],_,hr,_,_,_,tup=>obtain⟨v,uX,rP⟩:=tup (by simp) hr;exact⟨uQ.defers.1 rfl,v,uX,rP⟩
   |_::_::_,_::_::_,_,hr,_,_,_,tup=>obtain⟨v,uX,rP⟩:=tup (by simp) hr;exact⟨uQ.defers.1 rfl,v,uX,rP⟩
  ·obtain⟨θ',hs⟩:=h2 a w' rB
   exact⟨hs.defers.1 rfl,_,results_tmp h1 _ _ _,post hs (hs.slots t r (by simp[look]))⟩
  ·obtain⟨θ',hs⟩:=h2 a w' rB
   refine⟨hs.defers.1 rfl,_,results_tmp2 h1 _ _ _,post hs (.tup [a1,b1] [_,_] rfl fun j x y hx hy=>?_)⟩
   match j,hx,hy with
   |0,hx,hy=>cases hx;cases hy;exact hs.slots t _ (by simp[look])
   |1,hx,hy=>cases hx;cases hy;exact hs.slots u _ (by rw[E6,if_neg hne,E6,if_pos rfl])
  ·obtain⟨θ',hs⟩:=h2 a w' rB
   obtain⟨b,hθ,hv,_⟩:=k5 (hs.slots t (.ref i 0) (by simp[look]))
   obtain⟨b',oG,T',pB,hh,hsz,hr⟩:=(hs.owns i _ h3).2
   have pu:θ' i=.pointer (some ⟨b,0,none⟩):=hθ
   have qX:θ' i=.pointer (some ⟨b',0,none⟩):=pB
   rw[pu]at qX
   cases qX
   have vq:w'.heap[b]?=some (.cells oG T' (0,0)):=hh
   refine⟨hs.defers.1 rfl,.agg oG,?_,post hs ?_⟩
   ·have qP:=R9 (P:=P) (T:=T) (sz:=sz) (w:=w') (a:=⟨b,0,none⟩) (cs:=oG.toList) (by rw[Array.length_toList,hsz,nZ]) (fun j v hj=>by rw[H3,K1 vq];simpa using hj)
    rw[Array.getD_eq_getD_getElem?]at hv
    simp[results,h1,hv,Sem.run_bind,Sem.run_pure,asAddr,qP]
   ·have:=D8.agg (c:=⟨θ',m1,hp1,X,w'⟩) l oG.toList (by simp[hsz]) (fun j x y hx hy=>hr j x y hx (by simpa using hy))
    simpa using this
 cases e with
 |normal=>exact fin hq
 |ret=>exact fin hq
 |exit id=>exact hq.elim
 |goto l=>exact hq.elim
 |panic c=>exact hq.elim
 |outgrown=>exact hq.elim
theorem VI {f : Nat} {fn : Func} {code : Code} {args : List AV} {r : AV} {rs : Array ResultVar} {m0 m1 : Nat} {hp0 hp1 : Hp} (hf : P.funcs[f]? = some fn) (pP : (fn.name == "runtime.NumGoroutine") = false) (hb : fn.body = some code) (hn : fn.ntmps = n) (sa : fn.results = rs)
  (oC:Nat.ble args.length n=true) (h:∀E,E.n0=m0→C7 P E n code ⟨Ag args 0,m0,hp0⟩ (C6 P E n rs m1 hp1 r)):B8 P f m0 hp0 args m1 hp1 r :=
 ⟨⟨fn,hf,pP,by rw[hb];rfl⟩,fun X θ w vs hX oa rS hl qf=>Sa hf hb hn sa oC hX oa rS hl qf (h _ rfl)⟩
def U4(ρ s:Nat→Nat):Hp→Hp
 |[]=>[]
 |(k,b)::r=>(ρ k,b.map (j6 ρ s k))::U4 ρ s r
theorem HN{ρ s:Nat→Nat}{m:Nat}(uP:∀i j,i<m→j<m→ρ i=ρ j→i=j):∀(hp h:Hp),L1 m hp=true→∀j,j<m→look (U4 ρ s hp++h) (ρ j)=match look hp j with
  |some b=>some (b.map (j6 ρ s j))
  |none=>look h (ρ j)
 |[],h,_,j,hj=>rfl
 |(k,b)::r,h,nf,j,hj=>by
  have hk:k<m∧L1 m r=true:=by
   match b,nf with
   |none,nf=>simp only[L1,Bool.and_eq_true,Nat.blt_eq]at nf;exact nf
   |some (.bx τ l),nf=>simp only[L1,Bool.and_eq_true,Nat.blt_eq]at nf;exact⟨nf.1.1,nf.2⟩
   |some (.row ..),nf=>simp only[L1,Bool.and_eq_true,Nat.blt_eq]at nf;exact nf
   |some (.map ..),nf=>simp only[L1,Bool.and_eq_true,Nat.blt_eq]at nf;exact nf
   |some (.it ..),nf=>simp only[L1,Bool.and_eq_true,Nat.blt_eq]at nf;exact nf
  simp only[U4,List.cons_append,E6]
  by_cases e:k=j
  ·subst e;simp
  ·have:ρ k≠ρ j:=fun h2=>e (uP k j hk.1 hj h2)
   simp only[if_neg this,if_neg e]
   exact HN uP r h hk.2 j hj
theorem Bb{ρ s:Nat→Nat}{m:Nat}:∀(hp h:Hp),L1 m hp=true→∀i,(∀j,j<m→ρ j≠i)→look (U4 ρ s hp++h) i=look h i
 |[],h,_,i,_=>rfl
 |(k,b)::r,h,nf,i,hi=>by
  have hk:k<m∧L1 m r=true:=by
   match b,nf with
   |none,nf=>simp only[L1,Bool.and_eq_true,Nat.blt_eq]at nf;exact nf
   |some (.bx τ l),nf=>simp only[L1,Bool.and_eq_true,Nat.blt_eq]at nf;exact⟨nf.1.1,nf.2⟩
   |some (.row ..),nf=>simp only[L1,Bool.and_eq_true,Nat.blt_eq]at nf;exact nf
   |some (.map ..),nf=>simp only[L1,Bool.and_eq_true,Nat.blt_eq]at nf;exact nf
   |some (.it ..),nf=>simp only[L1,Bool.and_eq_true,Nat.blt_eq]at nf;exact nf
  simp only[U4,List.cons_append,E6,if_neg (hi k hk.1)]
  exact Bb r h hk.2 i hi
def K5(ι:List Nat)(i:Nat):Nat:=ι.getD i 0
def Xu(h:Hp)(i:Nat):Nat:=match A5 h i with
 |some (.row e _ v _)=>cond (a9 e) v (v+1)
 |_=>0
def Da(h hp0:Hp)(ι off:List Nat):Nat→Prop
 |0=>True
 |m+1=>A5 h (K5 ι m)=(A5 hp0 m).map (j6 (K5 ι) (K5 off) m)∧Da h hp0 ι off m
theorem NG{h hp0:Hp}{ι off:List Nat}:∀{m:Nat},Da h hp0 ι off m→∀i,i<m→A5 h (K5 ι i)=(A5 hp0 i).map (j6 (K5 ι) (K5 off) i)
 |0,_,i,hi=>absurd hi (Nat.not_lt_zero _)
 |m+1,hb,i,hi=>by
  by_cases e:i=m
  ·subst e;exact hb.1
  ·exact NG hb.2 i (by omega)
def AL(hp0 hp1:Hp):Nat→Bool
 |0=>true
 |m+1=>(look hp1 m).isSome && (match A5 hp1 m,A5 hp0 m with
  |some (.row e sz _ _),some (.row e' ni _ _)=>Nat.beq sz ni && (a9 e == a9 e')
  |some (.row ..),_=>false
  |_,_=>true) && AL hp0 hp1 m
theorem Ku{hp0 hp1:Hp}:∀{m:Nat},AL hp0 hp1 m=true→∀i,i<m→(look hp1 i).isSome=true∧∀e sz v l,A5 hp1 i=some (.row e sz v l)→∃e' v' l',A5 hp0 i=some (.row e' sz v' l')∧a9 e=a9 e'
 |0,_,i,hi=>absurd hi (Nat.not_lt_zero _)
 |m+1,hb,i,hi=>by
  simp only[AL,Bool.and_eq_true]at hb
  by_cases e:i=m
  ·subst e
   refine⟨hb.1.1,fun e sz v l hl=>?_⟩
   have h2:=hb.1.2
   rw[hl]at h2
   split at h2
   ·rename_i h3 h4
    cases h3
    rw[Bool.and_eq_true]at h2
    refine⟨_,_,_,by rw[h4,Nat.eq_of_beq_eq_true h2.1],?_⟩
    exact eq_of_beq h2.2
   ·cases h2
   ·rename_i h4 h3
    first|exact absurd rfl (h3 e sz v l)|exact absurd rfl (h4 e sz v l)|exact(h3 e sz v l rfl).elim|exact(h4 e sz v l rfl).elim
  ·exact Ku hb.2 i (by omega)
def CX(ι:List Nat)(nx:Nat):Bool:=match ι with
 |[]=>true
 |i::r=>Nat.blt i nx && !(r.contains i) && CX r nx
theorem NH:∀{ι:List Nat} {nx:Nat},CX ι nx=true→(∀i,i<ι.length→K5 ι i<nx)∧∀i j,i<ι.length→j<ι.length→K5 ι i=K5 ι j→i=j
 |[],nx,_=>⟨fun i hi=>absurd hi (Nat.not_lt_zero _),fun i j hi=>absurd hi (Nat.not_lt_zero _)⟩
 |a::r,nx,h=>by
  simp only[CX,Bool.and_eq_true,Nat.blt_eq,Bool.not_eq_true']at h
  obtain⟨h1,h2⟩:=NH h.2
  have oR:∀i,i<r.length→K5 r i∈r:=fun i hi=>by simp[K5,List.getD,hi]
  have yd:a∉r:=by simpa using h.1.2
  refine⟨fun i hi=>?_,fun i j hi hj he=>?_⟩
  ·cases i with
   |zero=>exact h.1.1
   |succ i=>exact h1 i (by simpa using hi)
  ·cases i with
   |zero =>
    cases j with
    |zero=>rfl
    |succ j=>exact absurd (show a∈r from (show a=K5 r j from he)▸oR j (by simpa using hj)) yd
   |succ i =>
    cases j with
    |zero=>exact absurd (show a∈r from (show K5 r i=a from he)▸oR i (by simpa using hi)) yd
    |succ j=>exact congrArg (·+1) (h2 i j (by simpa using hi) (by simpa using hj) he)
def gρ(ι:List Nat)(m0 nx:Nat)(i:Nat):Nat:=cond (Nat.blt i m0) (K5 ι i) (nx+(i-m0))
def gs(ι:List Nat)(m0:Nat)(h:Hp)(i:Nat):Nat:=cond (Nat.blt i m0) (Xu h (K5 ι i)) 0
theorem KD{ι:List Nat}{m0 nx i:Nat}(h:i<m0):gρ ι m0 nx i=K5 ι i:=by
 have:Nat.blt i m0=true:=Nat.blt_eq▸h
 simp[gρ,this]
theorem HO{ι:List Nat}{m0 nx i:Nat}(h:¬i<m0):gρ ι m0 nx i=nx+(i-m0):=by
 have:Nat.blt i m0=false:=by
  cases hb:Nat.blt i m0
  ·rfl
  ·exact absurd (Nat.blt_eq▸hb) h
 simp[gρ,this]
theorem aR{c c':Cx}{ρ s:Nat→Nat}(hθ:∀i,i<c.nx→c'.θ (ρ i)=c.θ i)(hN:∀i,i<c.nx→c'.θ.N (ρ i)=c.θ.N i)(hw:c'.w=c.w)(hU:∀k,c.U k→c'.U k)
  (pA:∀i,i<c.nx→∀e sz v l,A5 c.hp i=some (.row e sz v l)→A5 c'.hp (ρ i)=some (.row e sz (v+s i) l))
  {i:Nat} {b:D3} (hi:i<c.nx) (AA8:∀τ l,b=.bx τ l→U1 c.nx l=true) (o:L6 c' (ρ i) (j6 ρ s i b)):L6 c i b:=by
 have uG:∀{a:AV} {x:Value},Im c'.U c'.w a x→Im c.U c.w a x:=fun hi=>hi.mono (fun k _ _=>by rw[hw]) fun k _ hu=>hU k hu
 cases b with
 |bx τ l =>
  obtain⟨b',oG,T,e1,e2,e3,e4⟩:=o
  refine⟨b',oG,T,by rw[←hθ i hi];exact e1,by rw[←hw];exact e2,by rw[Q2,List.length_map]at e3;exact e3,fun j u z hu hz=>?_⟩
  refine Pn hθ hw hU pA (AG (AA8 τ l rfl) u (List.mem_of_getElem? hu)) (e4 j _ z ?_ hz)
  rw[Q2];simp[hu]
 |row e sz v l =>
  obtain⟨xs,e1,e2,e3,e4⟩:=o
  refine⟨xs,by rw[←hθ i hi,←hw];exact e1,e2,fun k el hk j x hx=>?_,fun hne=>⟨fun k p hk=>by rw[←hw];exact(e4 hne).1 k p (by rw[hN i hi];exact hk),fun k el hk j e' ni l' hj=>?_⟩⟩
  ·obtain⟨y,hy,hi⟩:=e3 k el hk j x hx
   exact⟨y,hy,uG hi⟩
  ·obtain⟨g,m,cap,y,ys,q1,q2,q3,q4,q5,q6,q7⟩:=(e4 hne).2 k el hk j e' ni l' hj
   exact⟨g,m,cap,y,ys,by rw[←hθ i hi];exact q1,by rw[←hw];exact q2,by rw[←hw];exact q3,q4,q5,fun q pD hq j' x hx=>by
    obtain⟨z,hz,hi⟩:=q6 q pD hq j' x hx
    exact⟨z,hz,uG hi⟩,fun b hb=>by rw[←hN i hi];exact q7 b hb⟩
 |map m =>
  obtain⟨r,es,clock,e1,e2,e3,e4⟩:=o
  exact⟨r,es,clock,by rw[←hθ i hi];exact e1,by rw[←hw];exact e2,e3,fun j q e hj he=>⟨(e4 j q e hj he).1,uG (e4 j q e hj he).2⟩⟩
 |it t p =>
  obtain⟨r,e1,e2⟩:=o
  exact⟨r,by rw[←hθ i hi];exact e1,by rw[←hw];exact e2⟩
theorem aS{C:Cx}{A B:List AV}{x y:List Value}(h1:A.length=x.length)(ha:∀(j:Nat) u v,A[j]?=some u→x[j]?=some v→D8 C u v)(hb:∀(j:Nat) u v,B[j]?=some u→y[j]?=some v→D8 C u v):∀(j:Nat) u v,(A++B)[j]?=some u→(x++y)[j]?=some v→D8 C u v:=fun j u v hu hv=>by
 by_cases hj:j<A.length
 ·rw[List.getElem?_append_left hj]at hu
  rw[List.getElem?_append_left (by omega)]at hv
  exact ha j u v hu hv
 ·rw[List.getElem?_append_right (by omega)]at hu
  rw[List.getElem?_append_right (by omega),←h1]at hv
  exact hb _ u v hu hv
theorem HQ{Cl:List Value→World→(Ending→World→Prop)→Prop}(wq:∀{vs:List Value} {w:World} {R R':Ending→World→Prop},Cl vs w R→(∀e w',R e w'→R' e w')→Cl vs w R')
  {A args:List AV} {r:AV} {m0 m1:Nat} {hp0 hp1:Hp} (ι off:List Nat) {θ:Th} {a:Act} {w:World} (hs:J6 E n θ σ a w) {vs:List Value} (hAl:A.length=vs.length) (hr:∀(j:Nat) x v,A[j]?=some x→vs[j]?=some v→D8 (cx E θ σ w) x v)
  (hL:AK (K5 ι) (K5 off) args=A) (oC:U1 m0 args=true) (hι:Nat.beq ι.length m0=true) (uZ:CX ι σ.nx=true) (oQ:Da σ.hp hp0 ι off m0) (oE:AL hp0 hp1 m0=true)
  (ru:L1 m0 hp0=true) (pH:L1 m1 hp1=true) (hm:Nat.ble m0 m1=true)
  (hc:∀(X:Nat→Prop) (θc:Th),(∀k,X k→k<w.heap.size)→P3 (fun k=>X k∨owned θc hp0 k) w→IX X θc m0 hp0 w→(∀k,owned θc hp0 k→(cx E θ σ w).own k)→(∀k,E.X k→X k)→(∀k,X k→(cx E θ σ w).U k)→args.length=vs.length→(∀(j:Nat) a v,args[j]?=some a→vs[j]?=some v→D8 ⟨θc,m0,hp0,X,w⟩ a v) →
   Cl vs w (EU X θc w m0 hp0 m1 hp1 r)) :
  Cl vs w fun e w'=>∃v Θ,e=.returned v∧J6 E n Θ ⟨σ.sl,σ.nx+(m1-m0),U4 (gρ ι m0 σ.nx) (gs ι m0 σ.hp) hp1++σ.hp⟩ a w' ∧
   D8 (cx E Θ ⟨σ.sl,σ.nx+(m1-m0),U4 (gρ ι m0 σ.nx) (gs ι m0 σ.hp) hp1++σ.hp⟩ w') (N7 (gρ ι m0 σ.nx) (gs ι m0 σ.hp) r) v∧w.heap.size≤w'.heap.size∧∀k,k<w.heap.size→¬(cx E θ σ w).own k→w'.heap[k]?=w.heap[k]?:=by
 have hι:=Nat.eq_of_beq_eq_true hι
 have hm:=Nat.ble_eq▸hm
 obtain⟨ug,tn⟩:=NH uZ
 rw[hι]at ug tn
 have oQ:=NG oQ
 have oE:=Ku oE
 let C:=cx E θ σ w
 let θc:Th:=⟨fun i=>θ (K5 ι i),fun i=>θ.N (K5 ι i)⟩
 let Xc:Nat→Prop:=fun k=>C.U k∧¬owned θc hp0 k
 let c0:Cx:=⟨θc,m0,hp0,Xc,w⟩
 have pt:∀k,owned θc hp0 k→∃i b0,i<m0∧A5 hp0 i=some b0∧A5 σ.hp (K5 ι i)=some (j6 (K5 ι) (K5 off) i b0)∧FP θ (K5 ι i) (j6 (K5 ι) (K5 off) i b0) k:=by
  rintro k ⟨i,b,hi,hk⟩
  have nf:=(Bt ru hi).1
  exact⟨i,b,nf,hi,by rw[oQ i nf,hi];rfl,(FP.ren (θ:=θc) rfl rfl).2 hk⟩
 have zc:∀k,c0.U k→C.U k:=by
  rintro k (hk|hk)
  ·exact hk.1
  ·obtain⟨i,b0,_,_,h1,h2⟩:=pt k hk
   exact .inr ⟨_,_,h1,h2⟩
 have qz:∀i,i<c0.nx→∀e sz v l,A5 c0.hp i=some (.row e sz v l)→A5 C.hp (K5 ι i)=some (.row e sz (v+K5 off i) l):=by
  intro i hi e sz v l hl
  have:=oQ i hi
  have oL:A5 hp0 i=some (.row e sz v l):=hl
  rw[oL]at this
  exact this
 have nZ:args.length=vs.length:=by
  have:=congrArg List.length hL
  rw[Q2,List.length_map]at this
  rw[this,hAl]
 have xL:IX Xc θc m0 hp0 w:=by
  refine⟨fun i b hi=>?_,fun i j b b' k hi hj vX yF=>?_,fun i b k hi hk hX=>hX.2 ⟨i,b,hi,hk⟩⟩
  ·obtain⟨nf,zN⟩:=Bt ru hi
   have h1:A5 σ.hp (K5 ι i)=some (j6 (K5 ι) (K5 off) i b):=by rw[oQ i nf,hi];rfl
   exact⟨nf,aR (c:=c0) (c':=C) (fun i _=>rfl) (fun i _=>rfl) rfl zc qz nf zN (hs.owns _ _ h1).2⟩
  ·have h1:=(Bt ru hi).1
   have h2:=(Bt ru hj).1
   refine tn i j h1 h2 (hs.apart _ _ (j6 (K5 ι) (K5 off) i b) (j6 (K5 ι) (K5 off) j b') k (by rw[oQ i h1,hi];rfl) (by rw[oQ j h2,hj];rfl) ((FP.ren (θ:=θc) rfl rfl).2 vX) ((FP.ren (θ:=θc) rfl rfl).2 yF))
 have yO:∀k,owned θc hp0 k→C.own k:=fun k hk=>by
  obtain⟨i,b0,_,_,h1,h2⟩:=pt k hk
  exact⟨_,_,h1,h2⟩
 have rT:=hc Xc θc (fun k hk=>hs.evT.Ult k hk.1) (hs.evT.tab.mono (fun k _ hk=>hk.elim (fun h=>h.1) (fun h=>zc k (.inr h))) fun _ _ _=>rfl) xL yO (fun k hk=>⟨.inl hk,fun ho=>by
  obtain⟨i,b0,_,_,h1,h2⟩:=pt k ho
  exact(hs.mine _ _ k h1 h2).1 hk⟩) (fun _ hk=>hk.1) nZ fun j av v hj hv=>by
  refine Pn (c:=c0) (c':=C) (ρ:=K5 ι) (s:=K5 off) (fun i _=>rfl) rfl zc qz (AG oC av (List.mem_of_getElem? hj)) (hr j _ v ?_ hv)
  rw[←hL,Q2];simp[hj]
 refine wq rT ?_
 rintro e w' ⟨⟨v,θ',rfl,hv,ri,oJ,pB⟩,sS,qY,rV,np,pE⟩
 let ρ:=gρ ι m0 σ.nx
 let s:=gs ι m0 σ.hp
 have tC:∀i j,i<m1→j<m1→ρ i=ρ j→i=j:=by
  intro i j hi hj he
  by_cases h1:i<m0<;>by_cases h2:j<m0
  ·exact tn i j h1 h2 (by simpa only[ρ,KD h1,KD h2]using he)
  ·have:=ug i h1
   simp only[ρ,KD h1,HO h2]at he
   omega
  ·have:=ug j h2
   simp only[ρ,HO h1,KD h2]at he
   omega
  ·simp only[ρ,HO h1,HO h2]at he
   omega
 have xk:∀j,j<m1→ρ j<σ.nx+(m1-m0):=by
  intro j hj
  by_cases h1:j<m0
  ·have:=ug j h1;simp only[ρ,KD h1];omega
  ·simp only[ρ,HO h1];omega
 have tj:∀j,j<m1→ρ j<σ.nx→j<m0:=by
  intro j hj nf
  by_cases h1:j<m0
  ·exact h1
  ·simp only[ρ,HO h1]at nf;omega
 let Θ:Th:=⟨fun i=>open Classical in if h:∃j,j<m1∧ρ j=i then θ' (Classical.choose h)else θ i,fun i=>open Classical in if h:∃j,j<m1∧ρ j=i then θ'.N (Classical.choose h)else θ.N i⟩
 have xF:∀j,j<m1→Θ (ρ j)=θ' j:=by
  intro j hj
  have hex:∃j',j'<m1∧ρ j'=ρ j:=⟨j,hj,rfl⟩
  have:Classical.choose hex=j:=tC _ _ (Classical.choose_spec hex).1 hj (Classical.choose_spec hex).2
  simp only[Θ,dif_pos hex,this]
 have wG:∀j,j<m1→Θ.N (ρ j)=θ'.N j:=by
  intro j hj
  have hex:∃j',j'<m1∧ρ j'=ρ j:=⟨j,hj,rfl⟩
  have:Classical.choose hex=j:=tC _ _ (Classical.choose_spec hex).1 hj (Classical.choose_spec hex).2
  simp only[Θ,dif_pos hex,this]
 have vT:∀i,(∀j,j<m1→ρ j≠i)→Θ.N i=θ.N i:=by
  intro i hi
  have:¬∃j,j<m1∧ρ j=i:=fun ⟨j,hj,he⟩=>hi j hj he
  simp only[Θ,dif_neg this]
 have xg:∀i,(∀j,j<m1→ρ j≠i)→Θ i=θ i:=by
  intro i hi
  have:¬∃j,j<m1∧ρ j=i:=fun ⟨j,hj,he⟩=>hi j hj he
  simp only[Θ,dif_neg this]
 have vd:∀{j:Nat} {b:D3} {k:Nat},j<m1→FP Θ (ρ j) (j6 ρ s j b) k→FP θ' j b k:=fun hj h=>(FP.ren (xF _ hj) (wG _ hj)).1 h
 have vg:∀{i:Nat} {b:D3} {k:Nat},(∀j,j<m1→ρ j≠i)→FP Θ i b k→FP θ i b k:=fun hi h=>by
  unfold FP at h ⊢
  rwa[xg _ hi,vT _ hi]at h
 let HP:=U4 ρ s hp1++σ.hp
 let σ':St:=⟨σ.sl,σ.nx+(m1-m0),HP⟩
 have qO:∀i,σ.nx≤i→A5 σ.hp i=none:=by
  intro i hi
  cases hx:A5 σ.hp i with
  |none=>rfl
  |some b=>have:=(hs.owns i b hx).1;omega
 have qV:∀j,j<m1→A5 HP (ρ j)=(A5 hp1 j).map (j6 ρ s j):=by
  intro j hj
  have:=HN (ρ:=ρ) (s:=s) tC hp1 σ.hp pH j hj
  unfold A5
  rw[this]
  cases hx:look hp1 j with
  |some b=>cases b<;>rfl
  |none =>
   simp only[Option.map_none]
   have qL:¬j<m0:=fun h=>by have:=(oE j h).1;rw[hx]at this;cases this
   have h2:=qO (ρ j) (by simp only[ρ,HO qL];omega)
   exact h2
 have pg:∀i,(∀j,j<m1→ρ j≠i)→A5 HP i=A5 σ.hp i:=by
  intro i hi
  unfold A5
  rw[Bb (ρ:=ρ) (s:=s) hp1 σ.hp pH i hi]
 have rN:∀j,j<m0→ρ j=K5 ι j:=fun j hj=>KD hj
 have vI:∀k,owned θc hp0 k→C.own k:=fun k hk=>by
  obtain⟨i,b0,_,_,h1,h2⟩:=pt k hk
  exact⟨_,_,h1,h2⟩
 have tQ:∀k,owned θc hp0 k→¬E.X k∧(E.O k∨E.w0.heap.size≤k):=fun k hk=>by
  obtain⟨i,b0,_,_,h1,h2⟩:=pt k hk
  exact hs.mine _ _ k h1 h2
 have rA:∀i b k,A5 σ.hp i=some b→(∀j,j<m1→ρ j≠i)→FP θ i b k→¬owned θc hp0 k:=fun i b k hi ns hk ho=>by
  obtain⟨j,b0,hj,_,h1,h2⟩:=pt k ho
  have:=hs.apart _ _ _ _ k hi h1 hk h2
  exact ns j (by omega) (by rw[rN j hj];exact this.symm)
 let C':=cx E Θ σ' w'
 have le:C.le C':=by
  refine⟨Nat.le_add_right _ _,fun i hi=>?_,fun i hi e' ni v' l' hl=>?_,np,fun k hk hu=>pE k hk fun ho=>hu (.inr (vI k ho)),fun k hk hu=>?_⟩
  ·by_cases hex:∃j,j<m1∧ρ j=i
   ·obtain⟨j,hj,rfl⟩:=hex
    have pp:=tj j hj hi
    have h1:=pB j pp
    have h2:θc j=θ (ρ j):=by rw[rN j pp]
    rw[h2]at h1
    show Θ (ρ j)=θ (ρ j)∨_
    rw[xF j hj]
    exact h1.imp id (·.1)
   ·exact .inl (xg i fun j hj he=>hex ⟨j,hj,he⟩)
  ·by_cases hex:∃j,j<m1∧ρ j=i
   ·obtain⟨j,hj,rfl⟩:=hex
    have pp:=tj j hj hi
    have h1:A5 HP (ρ j)=some (.row e' ni v' l'):=hl
    rw[qV j hj,Option.map_eq_some_iff]at h1
    obtain⟨b,hb,qE⟩:=h1
    cases b with
    |bx τ l=>cases qE
    |map m=>cases qE
    |it _ _=>cases qE
    |row e1 sz1 v1 l1 =>
     simp only[j6]at qE
     cases qE
     obtain⟨e0,v0,l0,h0,qG⟩:=(oE j pp).2 _ _ _ _ hb
     have h3:=qz j pp e0 ni v0 l0 h0
     refine⟨e0,v0+K5 off j,l0,by rw[rN j pp];exact h3,?_⟩
     have qq:A5 σ.hp (K5 ι j)=some (.row e0 ni (v0+K5 off j) l0):=h3
     have oD:Nat.blt j m0=true:=Nat.blt_eq▸pp
     by_cases hk:a9 e0=true
     ·have hsj:s j=v0+K5 off j:=by
       simp only[s,gs,oD,Xu,qq,hk,cond]
      by_cases hv0:v1=0
      ·have yc:θ' j=θ (K5 ι j):=(pB j pp).resolve_right fun h=>h.2 ⟨_,_,_,_,hb,qG.trans hk⟩
       obtain⟨x1,o1,_⟩:=(ri.owns j _ hb).2
       obtain⟨x2,o2,_⟩:=(hs.owns _ _ qq).2
       have o1':R7 w' e' ni (θ' j) l'.length x1:=o1
       have o2':R7 w e0 ni (θ (K5 ι j)) l0.length x2:=o2
       rw[yc]at o1'
       refine .inr ⟨by rw[hsj];omega,o2'.len o1',?_⟩
       show Θ (ρ j)=θ (ρ j)
       rw[xF j hj,yc,rN j pp]
      ·exact .inl (by rw[hsj];omega)
     ·have:s j=v0+K5 off j+1:=by
       have nr:a9 e0=false:=by
        cases hx:a9 e0 with
        |false=>rfl
        |true=>exact absurd hx hk
       simp only[s,gs,oD,Xu,qq,nr,cond]
      exact .inl (by omega)
   ·have h1:A5 HP i=some (.row e' ni v' l'):=hl
    have ns:∀j,j<m1→ρ j≠i:=fun j hj he=>hex ⟨j,hj,he⟩
    rw[pg i ns]at h1
    exact⟨e',v',l',h1,.inr ⟨rfl,rfl,xg i ns⟩⟩
  ·rcases hu with hu|⟨i,b,hi,oT⟩
   ·exact .inl hu
   ·have ou:A5 HP i=some b:=hi
    have nr:FP Θ i b k:=oT
    by_cases hex:∃j,j<m1∧ρ j=i
    ·obtain⟨j,hj,rfl⟩:=hex
     rw[qV j hj,Option.map_eq_some_iff]at ou
     obtain⟨b1,pG,rfl⟩:=ou
     rcases oJ j b1 k pG (vd hj nr)with h|h
     ·exact .inr (vI k h)
     ·have qi:k<w.heap.size:=hk
      omega
    ·have ns:∀j,j<m1→ρ j≠i:=fun j hj he=>hex ⟨j,hj,he⟩
     rw[pg i ns]at ou
     exact .inr ⟨i,b,ou,vg ns nr⟩
 have ren:Ren ⟨θ',m1,hp1,Xc,w'⟩ C' ρ s:=by
  refine⟨xk,xF,wG,rfl,fun k hu=>?_,fun j hj e sz v' l hl=>?_⟩
  ·rcases hu with hu|⟨i,b,hi,hk⟩
   ·exact .inl ⟨.inl hu,fun ho=>(tQ k ho).1 hu⟩
   ·have ou:A5 HP i=some b:=hi
    have nr:FP Θ i b k:=hk
    by_cases hex:∃j,j<m1∧ρ j=i
    ·obtain⟨j,hj,rfl⟩:=hex
     rw[qV j hj,Option.map_eq_some_iff]at ou
     obtain⟨b1,pG,rfl⟩:=ou
     exact .inr ⟨j,b1,pG,vd hj nr⟩
    ·have ns:∀j,j<m1→ρ j≠i:=fun j hj he=>hex ⟨j,hj,he⟩
     rw[pg i ns]at ou
     have nr:=vg ns nr
     exact .inl ⟨.inr ⟨i,b,ou,nr⟩,rA i b k ou ns nr⟩
  ·have h1:A5 HP (ρ j)=some (.row e sz v' l):=hl
   rw[qV j hj,Option.map_eq_some_iff]at h1
   obtain⟨b,hb,qE⟩:=h1
   cases b with
   |bx τ l=>cases qE
   |map m=>cases qE
   |it _ _=>cases qE
   |row e1 sz1 v1 l1 =>
    simp only[j6]at qE
    cases qE
    exact⟨v1,hb,rfl⟩
 have qy:J6 E n Θ σ' a w':=by
  refine⟨hs.size,hs.defers.mono fun k hd=>pE k (Gz hd) fun ho=>(xL.nodf ho) hd,⟨sS.trans hs.fr.os,qY.trans hs.fr.tape,rV.trans hs.fr.output,Nat.le_trans hs.fr.size np,fun k hk hO=>?_⟩,fun t x hx=>(hs.slots t x hx).mono le,fun i b hi=>?_,fun i1 i2 b1 b2 k h1 h2 qA nr=>?_,fun i b k hi hk=>?_,hs.X,⟨by have:=hs.base.1;show E.n0≤σ.nx+_;omega,fun i hi=>?_⟩⟩
  ·have h1:=hs.fr.size
   rw[pE k (by omega) fun ho=>?_]
   ·exact hs.fr.block k hk hO
   ·rcases(tQ k ho).2 with h2|h2
    ·exact hO h2
    ·omega
  ·have ou:A5 HP i=some b:=hi
   by_cases hex:∃j,j<m1∧ρ j=i
   ·obtain⟨j,hj,rfl⟩:=hex
    rw[qV j hj,Option.map_eq_some_iff]at ou
    obtain⟨b1,pG,rfl⟩:=ou
    exact⟨xk j hj,WJ ren hj (ri.owns j b1 pG).2⟩
   ·have ns:∀j,j<m1→ρ j≠i:=fun j hj he=>hex ⟨j,hj,he⟩
    rw[pg i ns]at ou
    obtain⟨h1,h2⟩:=hs.owns i b ou
    refine⟨by show i<σ.nx+_;omega,h2.mono le (xg i ns) (fun k=>congrFun (vT i ns) k) fun k hk=>pE k (h2.lt hk) (rA i b k ou ns hk)⟩
  ·have oK:A5 HP i1=some b1:=h1
   have oS:A5 HP i2=some b2:=h2
   by_cases e1:∃j,j<m1∧ρ j=i1<;>by_cases e2:∃j,j<m1∧ρ j=i2
   ·obtain⟨j1,vZ,rfl⟩:=e1
    obtain⟨j2,qU,rfl⟩:=e2
    rw[qV j1 vZ,Option.map_eq_some_iff]at oK
    rw[qV j2 qU,Option.map_eq_some_iff]at oS
    obtain⟨c1,qK,rfl⟩:=oK
    obtain⟨c2,pf,rfl⟩:=oS
    rw[ri.apart j1 j2 c1 c2 k qK pf (vd vZ qA) (vd qU nr)]
   ·obtain⟨j1,vZ,rfl⟩:=e1
    have ns:∀j,j<m1→ρ j≠i2:=fun j hj he=>e2 ⟨j,hj,he⟩
    rw[qV j1 vZ,Option.map_eq_some_iff]at oK
    obtain⟨c1,qK,rfl⟩:=oK
    have qA:=vd vZ qA
    rw[pg i2 ns]at oS
    have nr:=vg ns nr
    rcases oJ j1 c1 k qK qA with h|h
    ·exact absurd h (rA i2 b2 k oS ns nr)
    ·have:=(hs.owns i2 b2 oS).2.lt nr
     have h3:k<w.heap.size:=this
     omega
   ·obtain⟨j2,qU,rfl⟩:=e2
    have ns:∀j,j<m1→ρ j≠i1:=fun j hj he=>e1 ⟨j,hj,he⟩
    rw[qV j2 qU,Option.map_eq_some_iff]at oS
    obtain⟨c2,pf,rfl⟩:=oS
    have nr:=vd qU nr
    rw[pg i1 ns]at oK
    have qA:=vg ns qA
    rcases oJ j2 c2 k pf nr with h|h
    ·exact absurd h (rA i1 b1 k oK ns qA)
    ·have:=(hs.owns i1 b1 oK).2.lt qA
     have h3:k<w.heap.size:=this
     omega
   ·have tE:∀j,j<m1→ρ j≠i1:=fun j hj he=>e1 ⟨j,hj,he⟩
    have yD:∀j,j<m1→ρ j≠i2:=fun j hj he=>e2 ⟨j,hj,he⟩
    rw[pg i1 tE]at oK
    rw[pg i2 yD]at oS
    exact hs.apart i1 i2 b1 b2 k oK oS (vg tE qA) (vg yD nr)
  ·have ou:A5 HP i=some b:=hi
   by_cases hex:∃j,j<m1∧ρ j=i
   ·obtain⟨j,hj,rfl⟩:=hex
    rw[qV j hj,Option.map_eq_some_iff]at ou
    obtain⟨c1,qK,rfl⟩:=ou
    rcases oJ j c1 k qK (vd hj hk)with h|h
    ·exact tQ k h
    ·have h1:=hs.fr.size
     exact⟨fun hx=>by have:=hs.X k hx;omega,.inr (by omega)⟩
   ·have ns:∀j,j<m1→ρ j≠i:=fun j hj he=>hex ⟨j,hj,he⟩
    rw[pg i ns]at ou
    exact hs.mine i b k ou (vg ns hk)
  ·have oH:i<σ.nx:=by have:=hs.base.1;omega
   show Θ i=_∨_∧¬Kept HP i
   by_cases hex:∃j,j<m1∧ρ j=i
   ·obtain⟨j,hj,rfl⟩:=hex
    have pp:=tj j hj oH
    have h1:=pB j pp
    have h2:θc j=θ (ρ j):=by rw[rN j pp]
    rw[h2]at h1
    rw[xF j hj]
    by_cases hkp:Kept HP (ρ j)
    ·obtain⟨e,sz,v,l,hl,hk⟩:=hkp
     have oM:=hl
     rw[qV j hj,Option.map_eq_some_iff]at oM
     obtain⟨b,hb,qE⟩:=oM
     cases b with
     |bx _ _=>cases qE
     |map _=>cases qE
     |it _ _=>cases qE
     |row e1 sz1 v1 l1 =>
      simp only[j6]at qE
      cases qE
      have yc:=h1.resolve_right fun h=>h.2 ⟨_,_,_,_,hb,hk⟩
      obtain⟨e0,v0,l0,h0,qG⟩:=(oE j pp).2 _ _ _ _ hb
      have h3:=qz j pp _ _ _ _ h0
      rw[yc]
      rcases hs.base.2 (ρ j) hi with h4|⟨_,h4⟩
      ·exact .inl h4
      ·exact absurd ⟨_,_,_,_,(by rw[rN j pp];exact h3),qG.symm.trans hk⟩ h4
    ·rcases h1 with h1|⟨⟨x,m,k,h1⟩,_⟩
     ·rw[h1]
      exact(hs.base.2 _ hi).imp id fun h=>⟨h.1,hkp⟩
     ·rcases hs.base.2 _ hi with h4|⟨h4,_⟩
      ·exact .inr ⟨⟨x,m,k,by rw[←h4,h1]⟩,hkp⟩
      ·exact .inr ⟨h4,hkp⟩
   ·have ns:∀j,j<m1→ρ j≠i:=fun j hj he=>hex ⟨j,hj,he⟩
    rw[xg i ns]
    refine(hs.base.2 i hi).imp id fun ⟨h1,h2⟩=>⟨h1,fun ⟨e,sz,v,l,hl,hk⟩=>h2 ⟨e,sz,v,l,?_,hk⟩⟩
    rw[←pg i ns];exact hl
 exact⟨v,Θ,rfl,qy,Oe ren hv,np,fun k hk ns=>pE k hk fun ho=>ns (yO k ho)⟩
theorem Pr{f:Nat}{g:Operand}{xs:List Operand}{ts:Array TypeId}{L args caps capF:List AV}{r:AV}{m0 m1:Nat}{hp0 hp1:Hp}(ι off:List Nat)(hc:B8 P f m0 hp0 args m1 hp1 r)
  (hg:(capF=[]∧caps=[]∧g=.func f)∨(capF=[]∧f<Gv∧F4 σ g=some (.fo f caps))∨(caps=[]∧F4 σ g=some (.fo (Gv+f) capF))) (pq:l6 (F4 σ) xs=some L) (hL:AK (K5 ι) (K5 off) args=capF++L++caps) (oC:U1 m0 args=true) (hι:Nat.beq ι.length m0=true) (uZ:CX ι σ.nx=true) (oQ:Da σ.hp hp0 ι off m0) (oE:AL hp0 hp1 m0=true)
  (ru:L1 m0 hp0=true) (pH:L1 m1 hp1=true) (hm:Nat.ble m0 m1=true) (hd:Nat.blt d n=true)
  (k:B1 P E n ops rest (St.put ⟨σ.sl,σ.nx+(m1-m0),U4 (gρ ι m0 σ.nx) (gs ι m0 σ.hp) hp1++σ.hp⟩ d (N7 (gρ ι m0 σ.nx) (gs ι m0 σ.hp) r)) K) :
  B1 P E n ops (⟨some d,.call ⟨.value g,⟨xs⟩,ts⟩,ty,pos,after,none⟩::rest) σ K:=by
 intro a w ⟨θ,hs⟩
 obtain⟨hl,pC⟩:=BX hs.evT xs L pq
 let C:=cx E θ σ w
 obtain⟨cf,cs,qL,pR,yM,nz,pQ⟩:∃cf cs:List Value,a.eval g=.func (.func f) cf.toArray cs.toArray∧capF.length=cf.length∧(∀(j:Nat) x c,capF[j]?=some x→cf[j]?=some c→D8 C x c)∧caps.length=cs.length∧∀(j:Nat) x c,caps[j]?=some x→cs[j]?=some c→D8 C x c:=by
  rcases hg with ⟨rfl,rfl,rfl⟩|⟨rfl,hf,hg⟩|⟨rfl,hg⟩
  ·exact⟨[],[],rfl,rfl,fun j x c hx=>by simp at hx,rfl,fun j x c hx=>by simp at hx⟩
  ·have:=hs.ev hg
   generalize a.eval g=v at this
   cases this with
   |im hi=>cases hi
   |fo f l cs hl hc=>exact⟨[],cs,by unfold Rj;rw[if_pos hf],rfl,fun j x c hx=>by simp at hx,hl,hc⟩
  ·have:=hs.ev hg
   generalize a.eval g=v at this
   generalize hF:Gv+f=F at this
   cases this with
   |im hi=>cases hi
   |fo F l cs hl hc=>exact⟨cs,[],by unfold Rj;rw[if_neg (by omega),←hF,Nat.add_sub_cancel_left],hl,hc,rfl,fun j x c hx=>by simp at hx⟩
 have yS:L.length=(xs.map a.eval).length:=by rw[List.length_map,←hl]
 have hr:∀(j:Nat) x v,(capF++L++caps)[j]?=some x→(cf++xs.map a.eval++cs)[j]?=some v→D8 C x v :=
  aS (by rw[List.length_append,List.length_append,pR,yS]) (aS pR yM pC) pQ
 unfold wpList
 rw[if_pos (by simp[Region.wanted])]
 left
 simp only[Oper.wp]
 rw[Zv hc.1 qL]
 simp only[Oper.upon]
 rw[show cf.toArray++(xs.map a.eval).toArray++cs.toArray=(cf++xs.map a.eval++cs).toArray by simp]
 refine Calls.mono (HQ (Cl:=fun vs w R=>Calls P f vs.toArray w R) (fun h hr=>Calls.mono h hr) (args:=args) (r:=r) (hp1:=hp1) ι off hs (by rw[List.length_append,List.length_append,List.length_append,List.length_append,yS,pR,nz]) hr hL oC hι uZ oQ oE ru pH hm fun X θc hX ht hb _ _ _ hl hv=>hc.2 X θc w _ hX ht hb hl hv) ?_
 rintro e w' ⟨v,Θ,rfl,qy,pM,_⟩
 exact k _ _ ⟨Θ,qy.put (Nat.blt_eq▸hd) pM⟩
theorem S8{f:Nat}{xs:List Operand}{ts:Array TypeId}{L args:List AV}{r:AV}{m0 m1:Nat}{hp0 hp1:Hp}(ι off:List Nat)(hc:B8 P f m0 hp0 args m1 hp1 r)
  (pq:l6 (F4 σ) xs=some L) (hL:AK (K5 ι) (K5 off) args=L) (oC:U1 m0 args=true) (hι:Nat.beq ι.length m0=true) (uZ:CX ι σ.nx=true) (oQ:Da σ.hp hp0 ι off m0) (oE:AL hp0 hp1 m0=true)
  (ru:L1 m0 hp0=true) (pH:L1 m1 hp1=true) (hm:Nat.ble m0 m1=true) (hd:Nat.blt d n=true)
  (k:B1 P E n ops rest (St.put ⟨σ.sl,σ.nx+(m1-m0),U4 (gρ ι m0 σ.nx) (gs ι m0 σ.hp) hp1++σ.hp⟩ d (N7 (gρ ι m0 σ.nx) (gs ι m0 σ.hp) r)) K) :
  B1 P E n ops (⟨some d,.call ⟨.value (.func f),⟨xs⟩,ts⟩,ty,pos,after,none⟩::rest) σ K :=
 Pr (caps:=[]) (capF:=[]) ι off hc (.inl ⟨rfl,rfl,rfl⟩) pq (by rw[List.append_nil,List.nil_append];exact hL) oC hι uZ oQ oE ru pH hm hd k
theorem F6{f:Nat}{xs:List Operand}{ts:Array TypeId}{L args:List AV}{r:AV}{m0 m1:Nat}{hp0 hp1:Hp}(ι off:List Nat)(hc:B8 P f m0 hp0 args m1 hp1 r)
  (pq:l6 (F4 σ) xs=some L) (hL:AK (K5 ι) (K5 off) args=L) (oC:U1 m0 args=true) (hι:Nat.beq ι.length m0=true) (uZ:CX ι σ.nx=true) (oQ:Da σ.hp hp0 ι off m0) (oE:AL hp0 hp1 m0=true)
  (ru:L1 m0 hp0=true) (pH:L1 m1 hp1=true) (hm:Nat.ble m0 m1=true) (hd:Nat.blt d n=true)
  (k:U2 (N7 (gρ ι m0 σ.nx) (gs ι m0 σ.hp) r) fun r2=>U3 (U4 (gρ ι m0 σ.nx) (gs ι m0 σ.hp) hp1++σ.hp) fun hp2=>G8 (σ.nx+(m1-m0)) fun sq=>B1 P E n ops rest (St.put ⟨σ.sl,sq,hp2⟩ d r2) K) :
  B1 P E n ops (⟨some d,.call ⟨.value (.func f),⟨xs⟩,ts⟩,ty,pos,after,none⟩::rest) σ K :=
 S8 ι off hc pq hL oC hι uZ oQ oE ru pH hm hd (D9 (S4 (ES k)))
theorem WK{f:Nat}{g:Operand}{xs:List Operand}{ts:Array TypeId}{L args caps:List AV}{r:AV}{m0 m1:Nat}{hp0 hp1:Hp}(ι off:List Nat)(hc:B8 P f m0 hp0 args m1 hp1 r)
  (hg:F4 σ g=some (.fo f caps)) (pq:l6 (F4 σ) xs=some L) (hL:AK (K5 ι) (K5 off) args=L++caps) (oC:U1 m0 args=true) (hι:Nat.beq ι.length m0=true) (uZ:CX ι σ.nx=true) (oQ:Da σ.hp hp0 ι off m0) (oE:AL hp0 hp1 m0=true)
  (ru:L1 m0 hp0=true) (pH:L1 m1 hp1=true) (hm:Nat.ble m0 m1=true) (hd:Nat.blt d n=true)
  (k:U2 (N7 (gρ ι m0 σ.nx) (gs ι m0 σ.hp) r) fun r2=>U3 (U4 (gρ ι m0 σ.nx) (gs ι m0 σ.hp) hp1++σ.hp) fun hp2=>G8 (σ.nx+(m1-m0)) fun sq=>B1 P E n ops rest (St.put ⟨σ.sl,sq,hp2⟩ d r2) K) (hf:Nat.blt f Gv=true:=by rfl) :
  B1 P E n ops (⟨some d,.call ⟨.value g,⟨xs⟩,ts⟩,ty,pos,after,none⟩::rest) σ K :=
 Pr (capF:=[]) ι off hc (.inr (.inl ⟨rfl,by simpa using hf,hg⟩)) pq (by rw[List.nil_append];exact hL) oC hι uZ oQ oE ru pH hm hd (D9 (S4 (ES k)))
theorem Li{f:Nat}{xs:List Operand}{caps l:List AV}(ha:l6 (F4 σ) xs=some caps)(hd:Nat.blt d n=true)(k:B1 P E n ops rest (σ.put d (.fo f caps)) K)(hf:Nat.blt f Gv=true:=by rfl):
  e6 P E n ops ⟨some d,.makeFunc (.func f) ⟨[]⟩ ⟨xs⟩,ty,pos,after,none⟩ rest l σ K :=
 ⟨Ig (SH ha (by simpa using hf)) hd k⟩
end rules
section pure
variable {P:Program} {E:Env} {nx:Nat} {hp:Hp} {ev:Operand→Option AV} {ty:TypeId} {x y:Operand} {F:AV→Prop} {T T2:TypeId}
theorem kV{av:AV}(hx:ev x=some av):Di P E nx hp ev (.move x) ty av:=fun _ _ _ _ _ _ h=>⟨_,fun _=>rfl,h.rel hx⟩
theorem dh{av:AV}(hx:ev x=some av):Di P E nx hp ev (.assign x) ty av:=fun _ _ _ _ _ _ h=>⟨_,fun _=>rfl,h.rel hx⟩
theorem Sb{op:BinOp}{k:IntKind}{a b:Int}{r:Value}(hx:ev x=some (.v (.int k a)))(hy:ev y=some (.v (.int k b)))(hr:CK op k a b=some r):
  Di P E nx hp ev (.binOp op T x y T2) ty (.v r) :=
 fun _ _ _ _ _ _ h=>⟨r,fun w=>K3 (by rw[(h.rel hx).val,(h.rel hy).val];exact x6 ..) (by rw[(h.rel hx).val,(h.rel hy).val];exact Rq hr T w),.im (.v _)⟩
theorem kW{a b:List UInt8}(hx:ev x=some (.str a))(hy:ev y=some (.str b))(hr:a.length+b.length≤9223372036854775807):
  Di P E nx hp ev (.binOp .add T x y T2) ty (.str (a++b)) :=
 fun _ _ _ _ _ _ h=>⟨_,fun w=>K3 (by rw[(h.rel hx).sval,(h.rel hy).sval];exact Fz ..) (by rw[(h.rel hx).sval,(h.rel hy).sval];exact Rr hr T w),.im (.str _)⟩
theorem VJ{S f off sz:Nat}[tf:D7 P S f off sz]{i o:Nat}(hx:ev x=some (.ref i o))(hz:Nat.blt 0 sz=true):Di P E nx hp ev (.fieldAddr S x f) ty (.ref i (o+off)) :=
 fun _ _ _ θ a w h=>by
  obtain⟨b,hθ,hv,oH⟩:=k5 (h.rel hx)
  refine⟨.pointer (some ⟨b,o+off,none⟩),fun w=>?_,.ref i _ b oH hθ⟩
  simp only[execOp,hv,Sem.run_bind,x7 (P:=P) (S:=S) (f:=f) (off:=off) (sz:=sz) (Nat.blt_eq▸hz),Result.andThen_ok,H3]
  rfl
theorem Sc{S f off sz:Nat}[tf:D7 P S f off sz]{l:List AV}(hx:ev x=some (.iptr l))(hz:Nat.blt 0 sz=true):Di P E nx hp ev (.fieldAddr S x f) ty (.iptr (l.drop off)) :=
 fun _ _ _ θ a w h=>by
  obtain⟨p,g,hv,hu,hc,hr⟩:=Er (h.rel hx)
  refine⟨.pointer (some (p.add off)),fun w=>?_,.im (.iptr _ _ (fun j=>g (off+j)) (fun hne=>?_) (fun j hj=>?_) fun j u rI=>?_)⟩
  ·simp only[execOp,hv,Sem.run_bind,x7 (P:=P) (S:=S) (f:=f) (off:=off) (sz:=sz) (Nat.blt_eq▸hz),Result.andThen_ok]
   rfl
  ·rw[l5];exact hu (by rintro rfl;simp at hne)
  ·rw[DH];exact hc _ (by simp at hj;omega)
  ·rw[List.getElem?_drop]at rI;exact hr _ _ rI
theorem VK{S f off sz:Nat}[tf:D7 P S f off sz]{i ver k o e xU:Nat}{l:List (List AV)}(hx:ev x=some (.elt i ver k o))(hb:A5 hp i=some (.row e xU ver l))(hz:Nat.blt 0 sz=true):Di P E nx hp ev (.fieldAddr S x f) ty (.elt i ver k (o+off)) :=
 fun _ _ _ θ a w h=>by
  obtain⟨g,m,cap,hθ,hv,oH⟩:=Br (h.rel hx) hb
  refine⟨.pointer (some ⟨g,k*xU+o+off,none⟩),fun w=>?_,.elt i ver k _ _ oH fun e' ni v' l' oL=>?_⟩
  ·simp only[execOp,hv,Sem.run_bind,x7 (P:=P) (S:=S) (f:=f) (off:=off) (sz:=sz) (Nat.blt_eq▸hz),Result.andThen_ok,H3]
   rfl
  ·have:A5 hp i=some (.row e' ni v' l'):=oL
   rw[hb]at this
   cases this
   exact⟨Nat.le_refl _,fun _=>⟨g,m,cap,hθ,by rw[Nat.add_assoc]⟩⟩
theorem mR{b:Bool}(hx:ev x=some (.v (.bool b))):Di P E nx hp ev (.unOp .not T x) ty (.v (.bool (!b))) :=
 fun _ _ _ _ _ _ h=>⟨_,fun w=>by simp[execOp,Op.unary,(h.rel hx).val,Sem.run_bind,Sem.run_pure],.im (.v _)⟩
theorem aT[ts:j5 P T]{l:List UInt8}(hx:ev x=some (.str l)):Di P E nx hp ev (.call ⟨.builtin .len,#[x],#[T]⟩) ty (.i l.length) :=
 fun _ _ _ _ _ _ h=>⟨_,fun w=>by rw[S0,(h.rel hx).sval];simp[builtin,run_len_string w T ty _ ts.out,Sem.run_bind,Sem.run_pure,goInt,ByteArray.size],.im (.v _)⟩
theorem di{e sz:Nat}[ts:L7 P T e sz]{ni:Nat}{l:List (List AV)}(hx:ev x=some (.sl ni l)):Di P E nx hp ev (.call ⟨.builtin .len,#[x],#[T]⟩) ty (.i l.length) :=
 fun _ _ _ _ _ _ h=>by
  obtain⟨_,p,cap,hv⟩:=Zq (h.rel hx)
  exact⟨_,fun w=>by rw[S0,hv];simp[builtin,run_len_slice ts.out.1,Sem.run_bind,Sem.run_pure],.im (.v _)⟩
theorem aU{e sz:Nat}[ts:L7 P T e sz]{i ver len e' ni:Nat}{l:List (List AV)}(hx:ev x=some (.row i ver len))(hb:A5 hp i=some (.row e' ni ver l)):Di P E nx hp ev (.call ⟨.builtin .len,#[x],#[T]⟩) ty (.i len) :=
 fun _ _ _ θ a w h=>by
  obtain⟨hl,hv,_⟩:=q8 (h.rel hx) hb
  obtain⟨xs,nh,_⟩:=h.row hb
  obtain⟨p,cap,hs,_⟩:=k6 nh
  have oo:a.eval x=.slice p l.length cap:=by rw[hv];exact hs
  exact⟨_,fun w=>by rw[S0,oo,hl];simp[builtin,run_len_slice ts.out.1,Sem.run_bind,Sem.run_pure],.im (.v _)⟩
theorem VL{e sz:Nat}[ts:L7 P T e sz]{i ver len e':Nat}{l:List (List AV)}{k:IntKind}{j:Int}(hx:ev x=some (.row i ver len))(hb:A5 hp i=some (.row e' sz ver l))(hy:ev y=some (.v (.int k j)))(h0:0≤j)(h1:j<len):
  Di P E nx hp ev (.indexAddr T x y) ty (.elt i ver j.toNat 0) :=
 fun _ _ _ θ a w h=>by
  obtain⟨hl,hv,oH⟩:=q8 (h.rel hx) hb
  obtain⟨xs,nh,hsz,_⟩:=h.row hb
  have hj:=(h.rel hy).val
  rcases nh.2 with ⟨hθ,hn⟩|⟨g,cap,nj,hθ,_,hg,_⟩
  ·omega
  ·have oo:a.eval x=.slice (some ⟨g,0,none⟩) l.length cap:=by rw[hv];exact hθ
   refine⟨.pointer (some ⟨g,j.toNat*sz,none⟩),fun w=>?_,.elt i ver _ 0 _ oH fun e2 pO v2 l2 oM=>?_⟩
   ·simp only[execOp,oo,hj,Sem.run_bind]
    rw[DW (P:=P) (T:=T) (e:=e) (sz:=sz) h0 (by omega),H3,Nat.zero_add]
    rfl
   ·have:A5 hp i=some (.row e2 pO v2 l2):=oM
    rw[hb]at this
    cases this
    exact⟨Nat.le_refl _,fun _=>⟨g,l.length,cap,hθ,by simp⟩⟩
theorem Xv{e sz:Nat}[ts:L7 P T e sz]{l:List (List AV)}{k:IntKind}{i:Int}{el:List AV}(hx:ev x=some (.sl sz l))(hy:ev y=some (.v (.int k i)))(h0:0≤i)(nX:l[i.toNat]?=some el):Di P E nx hp ev (.indexAddr T x y) ty (.iptr el) :=
 fun _ _ _ θ a w h=>by
  have nf:i.toNat<l.length:=(List.getElem?_eq_some_iff.1 nX).1
  have hi:=(h.rel hy).val
  rcases Es (h.rel hx)with ⟨_,e⟩|⟨p,cap,f,hv,h3,h4,h5,h6,h7,h8⟩
  ·subst e;simp at nf
  ·have hsz:=h6 _ (List.mem_of_getElem? nX)
   refine⟨.pointer (some (p.add (i.toNat*sz))),fun w=>?_,.im (.iptr _ _ (f i.toNat) (fun hne=>?_) (fun j hj=>?_) fun j u hu=>h8 _ _ nX j u hu)⟩
   ·simp only[execOp,hv,hi,Sem.run_bind]
    rw[DW (P:=P) (T:=T) (e:=e) (sz:=sz) h0 (by omega)]
    rfl
   ·rw[l5]
    refine h5 (by intro e;simp[e]at nf) ?_
    have h9:=List.length_pos_iff.2 hne
    omega
   ·rw[DH]
    exact h7 _ nf _ (by omega)
def dk:Op→Bool
 |.move _|.assign _|.fieldAddr ..|.build ..=>true
 |.binOp .quo ..|.binOp .rem ..|.binOp .shl ..|.binOp .shr ..=>false
 |.binOp ..=>true
 |_=>false
def aV(ev:Operand→Option AV):Op→Bool
 |.indexAddr _ x _=>match ev x with
  |some (.row ..)=>true
  |some (.sl ..)=>true
  |_=>false
 |.call ⟨.builtin .len,⟨[x]⟩,_⟩=>match ev x with
  |some (.row ..)=>true
  |some (.sl ..)=>true
  |some (.str ..)=>true
  |_=>false
 |.unOp .not _ x=>match ev x with
  |some (.v (.bool _))=>true
  |_=>false
 |op=>dk op
def PV(P:Program)(op:Op)(ev:Operand→Option AV)(hp:Hp)(F:AV→Prop):Prop :=
 match op with
 |.move x=>Y5 (ev x) F
 |.assign x=>Y5 (ev x) F
 |.binOp op _ x y _=>match op,ev x,ev y with
  |.add,some (.v (.int .i64 a)),some (.v (.int .i64 b))=>F8 (-9223372036854775808≤a+b∧a+b≤9223372036854775807) (F (.v (.int .i64 (a+b))))
  |.sub,some (.v (.int .i64 a)),some (.v (.int .i64 b))=>F8 (-9223372036854775808≤a-b∧a-b≤9223372036854775807) (F (.v (.int .i64 (a-b))))
  |.add,some (.str a),some (.str b)=>F8 (a.length+b.length≤9223372036854775807) (F (.str (a++b)))
  |op,some (.v (.int k a)),some (.v (.int k' b))=>cond (decide (k=k')) (match CK op k a b with
   |some r=>F (.v r)
   |none=>False) False
  |_,_,_=>False
 |.fieldAddr S x f=>Ob P S f fun off sz=>cond (Nat.blt 0 sz) (match ev x with
  |some (.ref i o)=>F (.ref i (o+off))
  |some (.iptr l)=>F (.iptr (l.drop off))
  |some (.elt i ver k o)=>(match A5 hp i with
   |some (.row _ _ oN _)=>F8 (ver=oN) (F (.elt i ver k (o+off)))
   |_=>False)
  |_=>False) False
 |.build T ⟨parts⟩=>match Az ev parts with
  |some ps=>It P T fun zs pl=>Dk hp ps (Y5 ((BL pl zs ps).map AV.agg) F)
  |none=>False
 |.indexAddr T x y=>(match ev x,ev y with
  |some (.sl sz l),some (.v (.int _ i))=>IW P T fun _ ni=>cond (Nat.beq sz ni) (P5 l i fun el=>F (.iptr el)) False
  |some (.row r ver len),some (.v (.int _ i))=>(match A5 hp r with
   |some (.row _ sz oN _)=>F8 (ver=oN) (IW P T fun _ ni=>cond (Nat.beq sz ni) (F8 (0≤i∧i<len) (F (.elt r ver i.toNat 0))) False)
   |_=>False)
  |_,_=>False)
 |.call ⟨.builtin .len,⟨[x]⟩,⟨[T]⟩⟩=>(match ev x with
  |some (.sl _ l)=>IW P T fun _ _=>Oa l fun m=>F (.i m)
  |some (.str s)=>DZ P T (F (.i s.length))
  |some (.row r ver len)=>(match A5 hp r with
   |some (.row _ _ oN _)=>F8 (ver=oN) (IW P T fun _ _=>F (.i len))
   |_=>False)
  |_=>False)
 |.unOp .not _ x=>(match ev x with
  |some (.v (.bool b))=>F (.v (.bool (!b)))
  |_=>False)
 |_=>False
theorem kX{op:Op}(h:PV P op ev hp F):∃av,Di P E nx hp ev op ty av∧F av:=by
 unfold PV at h
 split at h
 ·obtain⟨a,hx,h⟩:=J8 h;exact⟨a,kV hx,h⟩
 ·obtain⟨a,hx,h⟩:=J8 h;exact⟨a,dh hx,h⟩
 ·split at h
  ·rename_i hx hy;exact⟨_,Sb hx hy (by simp only[CK,P4 h.h]),h.k⟩
  ·rename_i hx hy;exact⟨_,Sb hx hy (by simp only[CK,P4 h.h]),h.k⟩
  ·rename_i hx hy;exact⟨_,kW hx hy h.h,h.k⟩
  ·rename_i hx hy
   obtain⟨hk,hq⟩:=cond_false h
   have hk:=of_decide_eq_true hk
   subst hk
   split at hq
   ·rename_i hr;exact⟨_,Sb hx hy hr,hq⟩
   ·exact hq.elim
  ·exact h.elim
 ·obtain⟨⟨off,sz,tf,h⟩⟩:=h
  obtain⟨hz,h⟩:=cond_false h
  split at h
  ·rename_i hx;exact⟨_,VJ (off:=off) (sz:=sz) hx hz,h⟩
  ·rename_i hx;exact⟨_,Sc (off:=off) (sz:=sz) hx hz,h⟩
  ·rename_i hx
   split at h
   ·rename_i hb
    obtain⟨rfl,h⟩:=h
    exact⟨_,VK (off:=off) (sz:=sz) hx hb hz,h⟩
   ·exact h.elim
  ·exact h.elim
 ·split at h
  ·rename_i ps sZ
   obtain⟨⟨zs,pl,tz,tp,h⟩⟩:=h
   obtain⟨hf,h⟩:=n6 h
   obtain⟨a,ha,h⟩:=J8 h
   rw[Option.map_eq_some_iff]at ha
   obtain⟨l,hl,rfl⟩:=ha
   exact⟨_,WA (T:=_) sZ hf hl,h⟩
  ·exact h.elim
 ·split at h
  ·rename_i hx hy
   obtain⟨⟨e,ni,ts,h⟩⟩:=h
   obtain⟨hc,hq⟩:=cond_false h
   have hc:=Nat.eq_of_beq_eq_true hc
   subst hc
   obtain⟨h0,h1,hk⟩:=hq
   rename_i sz l kk i
   have nf:i.toNat<l.length:=by omega
   have nX:l[i.toNat]?=some l[i.toNat]:=List.getElem?_eq_getElem nf
   exact⟨_,Xv (e:=e) hx hy h0 nX,hk _ nX⟩
  ·rename_i hx hy
   split at h
   ·rename_i hb
    obtain⟨rfl,h⟩:=h
    obtain⟨⟨e,ni,ts,h⟩⟩:=h
    obtain⟨hc,hq⟩:=cond_false h
    have hc:=Nat.eq_of_beq_eq_true hc
    subst hc
    exact⟨_,VL (e:=e) hx hb hy hq.h.1 hq.h.2,hq.k⟩
   ·exact h.elim
  ·exact h.elim
 ·split at h
  ·rename_i hx
   obtain⟨⟨e,ni,ts,h⟩⟩:=h
   exact⟨_,di (e:=e) (sz:=ni) hx,h.k⟩
  ·rename_i hx
   obtain⟨ts,h⟩:=h
   exact⟨_,aT hx,h⟩
  ·rename_i hx
   split at h
   ·rename_i hb
    obtain⟨rfl,h⟩:=h
    obtain⟨⟨e,ni,ts,h⟩⟩:=h
    exact⟨_,aU (e:=e) (sz:=ni) hx hb,h⟩
   ·exact h.elim
  ·exact h.elim
 ·split at h
  ·rename_i hx;exact⟨_,mR hx,h⟩
  ·exact h.elim
 ·exact h.elim
end pure
def k8(ops:Array Oper):List (List Nat):=ops.toList.map fun o=>(o.after.toList.filter fun e=>Region.binds .any e).map (·.on)
def e7(all:List Bool):Nat→List (List Nat)→List Bool→List Nat
 |k,e::es,b::bs=>cond b (e7 all (k+1) es bs) (cond (e.all fun j=>all.getD j false) (k::e7 all (k+1) es bs) (e7 all (k+1) es bs))
 |_,_,_=>[]
theorem CY{all:List Bool}:∀(es:List (List Nat)) (bs:List Bool) (k i:Nat),i∈e7 all k es bs↔∃j e,i=k+j∧es[j]?=some e∧bs[j]?=some false∧(∀x∈e,all.getD x false=true)
 |[],bs,k,i=>by simp[e7]
 |e::es,[],k,i=>by simp[e7]
 |e::es,b::bs,k,i=>by
  have ih:=CY (all:=all) es bs (k+1) i
  have key:(∃j e',i=k+j∧(e::es)[j]?=some e'∧(b::bs)[j]?=some false∧(∀x∈e',all.getD x false=true))↔(i=k∧b=false∧∀x∈e,all.getD x false=true)∨i∈e7 all (k+1) es bs:=by
   rw[ih]
   constructor
   ·rintro ⟨j,e',h1,h2,h3,h4⟩
    cases j with
    |zero=>simp at h2 h3;subst h2;exact .inl ⟨by omega,h3,h4⟩
    |succ j=>exact .inr ⟨j,e',by omega,by simpa using h2,by simpa using h3,h4⟩
   ·rintro (⟨h1,h2,h3⟩|⟨j,e',h1,h2,h3,h4⟩)
    ·exact⟨0,e,by omega,rfl,by simp[h2],h3⟩
    ·exact⟨j+1,e',by omega,by simpa using h2,by simpa using h3,h4⟩
  rw[key]
  have oU:(e.all fun j=>all.getD j false)=true↔∀x∈e,all.getD x false=true:=by rw[List.all_eq_true]
  cases b with
  |true=>simp[e7]
  |false =>
   simp only[e7,Bool.cond_false]
   cases ha:e.all fun j=>all.getD j false with
   |true =>
    rw[ha]at oU
    simp only[true_iff]at oU
    simp only[Bool.cond_true,List.mem_cons]
    constructor
    ·intro h
     rcases h with h|h
     ·exact Or.inl ⟨h,by first|trivial|rfl,by first|exact oU|trivial⟩
     ·exact Or.inr h
    ·intro h
     rcases h with h|h
     ·exact Or.inl h.1
     ·exact Or.inr h
   |false =>
    rw[ha]at oU
    simp only[Bool.false_eq_true,false_iff]at oU
    simp only[Bool.cond_false]
    constructor
    ·exact Or.inr
    ·intro h
     rcases h with h|h
     ·exact absurd h.2.2 oU
     ·exact h
theorem W9{ops:Array Oper}{l:List Bool}(hl:l.length=ops.size)(i:Nat):i∈Region.ready .any ops l.toArray↔i∈e7 l 0 (k8 ops) l:=by
 rw[mem_ready,CY]
 constructor
 ·rintro ⟨h1,o,ho,h2⟩
  have nf:i<ops.size:=(Array.getElem?_eq_some_iff.1 ho).1
  refine⟨i,_,by omega,by simp[k8,ho];rfl,?_,?_⟩
  ·have qx:i<l.length:=by omega
   simp[qx]at h1 ⊢
   exact h1
  ·intro x hx
   simp only[List.mem_map,List.mem_filter,Array.mem_toList_iff]at hx
   obtain⟨e,⟨he,hb⟩,rfl⟩:=hx
   have:=h2 e he hb
   simpa using this
 ·rintro ⟨j,e,h0,h1,h2,h3⟩
  have:j=i:=by omega
  subst this
  simp only[k8,List.getElem?_map,Option.map_eq_some_iff,Array.getElem?_toList]at h1
  obtain⟨o,ho,rfl⟩:=h1
  refine⟨by simp[h2],o,ho,fun e he hb=>?_⟩
  have:=h3 e.on (List.mem_map.2 ⟨e,List.mem_filter.2 ⟨by simpa using he,hb⟩,rfl⟩)
  simpa using this
theorem Lj{P:Program}{o:Oper}{a:Act}{w:World}{K K':Act→World→Prop}{Q Q':Exit→Act→World→Prop}(hQ:∀e a w,Q e a w→e=.normal)(h:∀a w,K a w→K' a w)(hh:o.wp P a w K Q):o.wp P a w K' Q':=by
 unfold Oper.wp at *
 generalize (execOp a.eval o).run P w=r at *
 cases r with
 |ok n w' =>
  cases n<;>simp only[Oper.upon]at hh ⊢ <;>
   first
    |exact h _ _ hh
    |exact Calls.mono hh (fun e rD he=>by
      cases e with
      |returned v=>exact h _ _ he
      |panicked c=>exact absurd (hQ _ _ _ he) (by simp)
      |outgrown=>obtain⟨a,w,hx⟩:=he;exact absurd (hQ _ _ _ hx) (by simp))
    |exact Rows.mono hh (fun _ _ he=>h _ _ he)
 |halt x w' =>
  cases x<;>simp only[Oper.upon]at hh ⊢
  exact absurd (hQ _ _ _ hh) (by simp)
theorem Of{P:Program}{ops:Array Oper}{Q Q':Exit→Act→World→Prop}(hQ:∀e a w,Q e a w→e=.normal)(h:∀a w,Q .normal a w→Q' .normal a w):∀(ng:Nat) (listed:Array Bool) (a:Act) (w:World),wpAny P .any ops Q ng listed a w→wpAny P .any ops Q' ng listed a w:=by
 intro ng
 induction ng with
 |zero=>intro l a w hx;exact⟨hx.1,h a w hx.2⟩
 |succ ng ih =>
  intro l a w hx
  refine⟨fun hr=>h a w (hx.1 hr),fun i hi=>?_⟩
  have h1:=hx.2 i hi
  unfold wpOp at h1 ⊢
  split at h1
  ·exact ih _ _ _ h1
  ·split at h1
   ·rename_i hw
    rw[if_pos hw]
    rcases h1 with h1|⟨_,a1,w1,hx⟩
    ·exact .inl (Lj hQ (fun a' w' hn=>ih _ _ _ hn) h1)
    ·exact absurd (hQ _ _ _ hx) (by simp)
   ·rename_i hw
    rw[if_neg hw]
    exact ih _ _ _ h1
section rules
variable {P:Program} {E:Env} {n:Nat} {ops:Array Oper} {σ:St} {K:St→Prop} {Q:Exit→St→Prop}
def D1(P:Program)(E:Env)(n:Nat)(ops:Array Oper)(ng:Nat)(l:List Bool)(σ:St)(K:St→Prop):Prop :=
 ∀a w,i9 E n σ a w→wpAny P .any ops (fun e a' w'=>e=.normal∧∃σ',K σ'∧i9 E n σ' a' w') ng l.toArray a w
def dl(P:Program)(E:Env)(n:Nat)(ops:Array Oper)(ng:Nat)(l:List Bool)(σ:St)(K:St→Prop):List Nat→Prop
 |[]=>True
 |i::r=>(match ops[i]? with
  |some o=>B1 P E n ops [o] σ fun σ'=>D1 P E n ops ng (l.set i true) σ' K
  |none=>False)∧dl P E n ops ng l σ K r
theorem Sd{ng:Nat}{l:List Bool}:∀{r:List Nat},dl P E n ops ng l σ K r→∀i∈r,∃o,ops[i]?=some o∧B1 P E n ops [o] σ fun σ'=>D1 P E n ops ng (l.set i true) σ' K
 |[],_,i,hi=>by cases hi
 |j::r,h,i,hi=>by
  rcases List.mem_cons.1 hi with rfl|hi
  ·have:=h.1
   split at this
   ·rename_i o ho;exact⟨o,ho,this⟩
   ·exact this.elim
  ·exact Sd h.2 i hi
structure Xw(P:Program)(E:Env)(n:Nat)(ops:Array Oper)(ng:Nat)(l:List Bool)(σ:St)(K:St→Prop)(r:List Nat):Prop where
 h:dl P E n ops ng l σ K r
def JE(ev:Operand→Option AV)(ops:Array Oper)(l:List Bool):List Nat→Option Nat
 |[]=>none
 |i::r=>match ops[i]? with
  |some ⟨some _,op,_,_,_,none⟩=>cond (aV ev op) (some i) (JE ev ops l r)
  |_=>JE ev ops l r
structure Xx(p:Prop)(A:Prop):Prop where
 h:p
 k:A
def kY(P:Program)(E:Env)(n:Nat)(ops:Array Oper)(ng:Nat)(l:List Bool)(σ:St)(K:St→Prop):Prop :=
 match e7 l 0 (k8 ops) l with
 |[]=>K σ
 |i::r=>match ng with
  |0=>False
  |ng+1=>match JE (F4 σ) ops l (i::r)with
   |some i=>match ops[i]? with
    |some ⟨some d,op,_,_,_,none⟩=>Xx (Region.free .any ops l.toArray i=true∧i∈e7 l 0 (k8 ops) l) (cond (Nat.blt d n) (PV P op (F4 σ) σ.hp fun av=>D1 P E n ops ng (l.set i true) (σ.put d av) K) False)
    |_=>False
   |none=>Xw P E n ops ng l σ K (i::r)
theorem W4(l:List Bool)(i:Nat):l.toArray.setIfInBounds i true=(l.set i true).toArray:=by simp
theorem gt{ng:Nat}{l:List Bool}(hns:Region.noSelect ops=true)(hl:Nat.beq l.length ops.size=true)(h:kY P E n ops ng l σ K):D1 P E n ops ng l σ K:=by
 have hl:=Nat.eq_of_beq_eq_true hl
 unfold kY at h
 split at h
 ·rename_i hr
  intro a w hs
  have pw:Region.ready .any ops l.toArray=[]:=by
   cases hx:Region.ready .any ops l.toArray with
   |nil=>rfl
   |cons i r=>have:=(W9 hl i).1 (by rw[hx];simp);rw[hr]at this;cases this
  exact wpAny_done pw ⟨rfl,σ,h,hs⟩ _
 ·rename_i i r hr
  split at h
  ·exact h.elim
  ·rename_i ng
   split at h
   ·rename_i i' uS
    split at h
    ·rename_i d op ty pos after qZ
     obtain⟨⟨hf,zL⟩,h⟩:=h
     obtain⟨hd,h⟩:=cond_false h
     obtain⟨av,hp,h⟩:=kX (E:=E) (nx:=σ.nx) (ty:=ty) h
     rintro a w ⟨θ,hs⟩
     obtain⟨v,uX,rP⟩:=hp (some d) pos after θ a w hs.evT
     refine wpAny_take qZ hns hf (by simpa using (W9 hl i').2 zL) (fun c a w hc=>by cases hc.1) (v:=v) (.inl ⟨by simp[Region.wanted],uX⟩) ?_
     rw[W4]
     exact h _ _ ⟨θ,hs.put (Nat.blt_eq▸hd) rP⟩
    ·exact h.elim
   ·intro a w hs
    refine⟨fun pw=>?_,fun j hj=>?_⟩
    ·have:=(W9 hl i).2 (by rw[hr];simp)
     rw[pw]at this
     cases this
    ·have ny:=(W9 hl j).1 hj
     rw[hr]at ny
     obtain⟨o,ho,hA⟩:=Sd h.h j ny
     have hw:=hA a w hs
     unfold wpOp
     simp only[ho]
     unfold wpList at hw
     split
     ·rename_i pN
      rw[if_pos pN]at hw
      rcases hw with hw|⟨_,a1,w1,hx⟩
      ·refine .inl (Lj (fun e a w h=>h.1) (fun a' w' hn=>?_) hw)
       obtain⟨_,σ',hk,og⟩:=hn
       rw[W4]
       exact hk a' w' og
      ·exact absurd hx.1 (by simp)
     ·rename_i pN
      rw[if_neg pN]at hw
      obtain⟨_,σ',hk,og⟩:=hw
      rw[W4]
      exact hk _ _ og
def O9(ops:Array Oper):List Bool:=ops.toList.map fun _=>false
theorem JF{id:Nat}[hm:Iz P](S:St)(h:D1 P E n ops ops.size (O9 ops) σ fun σ'=>St.le E n σ' S)(k:Q .normal S):CU P E n id ops σ Q:=by
 refine⟨fun a w ⟨θ,hs⟩=>wp_region_any hm.out ?_⟩
 have hb:Below w.heap.size w { w with drawn:=w.drawn+1 }:=Below.drew (Below.refl _ _)
 have h1:=h a { w with drawn:=w.drawn+1 } ⟨θ,hs.below hb⟩
 have e:(O9 ops).toArray=Array.replicate ops.size false:=by
  apply Array.ext'
  simp[O9,List.map_const']
 rw[e]at h1
 exact Of (fun e a w hx=>hx.1) (fun a w hx=>by
  obtain⟨_,σ',ob,og⟩:=hx
  exact⟨S,k,ob a w og⟩) _ _ _ _ h1
theorem C2{σ1 σ2 σ3:St}(h:St.le E n σ1 σ2)(h':St.le E n σ2 σ3):St.le E n σ1 σ3:=fun a w hs=>h' a w (h a w hs)
theorem A7{σ1:St}:St.le E n σ1 σ1:=fun a w hs=>hs
def swp(i j k:Nat):Nat:=cond (Nat.beq k i) j (cond (Nat.beq k j) i k)
theorem Ga(i j k:Nat):swp i j k=if k=i then j else if k=j then i else k:=by
 unfold swp
 cases h1:Nat.beq k i with
 |true=>rw[if_pos (Nat.eq_of_beq_eq_true h1)];rfl
 |false =>
  have:k≠i:=by intro e;subst e;simp at h1
  rw[if_neg this]
  cases h2:Nat.beq k j with
  |true=>rw[if_pos (Nat.eq_of_beq_eq_true h2)];rfl
  |false =>
   have:k≠j:=by intro e;subst e;simp at h2
   rw[if_neg this];rfl
theorem DJ(i j k:Nat):swp i j (swp i j k)=k:=by
 rw[Ga i j k]
 split
 ·rename_i h;subst h
  rw[Ga]
  split
  ·rename_i h;exact h
  ·rw[if_pos rfl]
 ·split
  ·rename_i h;subst h;rw[Ga,if_pos rfl]
  ·rename_i h1 h2;rw[Ga,if_neg h1,if_neg h2]
theorem BC(i j:Nat){m:Nat}(h0:E.n0=m)(hb:(Nat.ble m i && Nat.ble m j && Nat.blt i σ.nx && Nat.blt j σ.nx)=true)(nf:L1 σ.nx σ.hp=true):
  St.le E n σ ⟨AC (N7 (swp i j) fun _=>0) σ.sl,σ.nx,U4 (swp i j) (fun _=>0) σ.hp⟩:=by
 simp only[Bool.and_eq_true,Nat.ble_eq,Nat.blt_eq]at hb
 obtain⟨⟨⟨hi0,pp⟩,hi⟩,hj⟩:=hb
 have xE:∀k,k<σ.nx→swp i j k<σ.nx:=fun k hk=>by
  rw[Ga]
  split
  ·exact hj
  ·split
   ·exact hi
   ·exact hk
 have uP:∀a b,a<σ.nx→b<σ.nx→swp i j a=swp i j b→a=b:=fun a b _ _ h=>by rw[←DJ i j a,h,DJ]
 have uo:∀q,q<σ.nx→A5 (U4 (swp i j) (fun _=>0) σ.hp) (swp i j q)=(A5 σ.hp q).map (j6 (swp i j) (fun _=>0) q):=by
  intro q hq
  have:=HN (ρ:=swp i j) (s:=fun _=>0) uP σ.hp [] nf q hq
  rw[List.append_nil]at this
  unfold A5
  rw[this]
  cases look σ.hp q with
  |none=>rfl
  |some b=>cases b<;>rfl
 have ns:∀k,σ.nx≤k→A5 (U4 (swp i j) (fun _=>0) σ.hp) k=none:=by
  intro k hk
  have:=Bb (ρ:=swp i j) (s:=fun _=>0) (m:=σ.nx) σ.hp [] nf k (fun q hq he=>by have:=xE q hq;omega)
  rw[List.append_nil]at this
  unfold A5
  rw[this]
  rfl
 rintro a w ⟨θ,hs⟩
 let σ':St:=⟨AC (N7 (swp i j) fun _=>0) σ.sl,σ.nx,U4 (swp i j) (fun _=>0) σ.hp⟩
 let θ':Th:=⟨fun k=>θ (swp i j k),fun k=>θ.N (swp i j k)⟩
 have back:∀k b,A5 σ'.hp k=some b→∃q b0,k=swp i j q∧q<σ.nx∧A5 σ.hp q=some b0∧b=j6 (swp i j) (fun _=>0) q b0∧∀z,FP θ' k b z→FP θ q b0 z:=by
  intro k b hb
  by_cases hk:k<σ.nx
  ·have pd:A5 (U4 (swp i j) (fun _=>0) σ.hp) (swp i j (swp i j k))=some b:=by rw[DJ];exact hb
   rw[uo _ (xE k hk),Option.map_eq_some_iff]at pd
   obtain⟨b0,h1,h2⟩:=pd
   refine⟨swp i j k,b0,(DJ i j k).symm,xE k hk,h1,h2.symm,fun z hz=>?_⟩
   subst h2
   unfold FP at hz ⊢
   rwa[Po]at hz
  ·rw[ns k (by omega)]at hb;cases hb
 have ren:Ren (cx E θ σ w) (cx E θ' σ' w) (swp i j) (fun _=>0):=by
  refine⟨xE,fun k hk=>by show θ (swp i j (swp i j k))=_;rw[DJ];rfl,fun k hk=>by show θ.N (swp i j (swp i j k))=_;rw[DJ];rfl,rfl,fun k hu=>?_,fun q hq e sz v' l hl=>?_⟩
  ·rcases hu with hu|⟨q,b,hb,hk⟩
   ·exact .inl hu
   ·obtain⟨q',b0,rfl,hq,h1,h2,h3⟩:=back q b hb
    exact .inr ⟨q',b0,h1,h3 k hk⟩
  ·have h1:A5 (U4 (swp i j) (fun _=>0) σ.hp) (swp i j q)=some (.row e sz v' l):=hl
   rw[uo q hq,Option.map_eq_some_iff]at h1
   obtain⟨b,hb,qE⟩:=h1
   cases b with
   |bx τ l=>cases qE
   |map m=>cases qE
   |it _ _=>cases qE
   |row e1 sz1 v1 l1 =>
    simp only[j6]at qE
    cases qE
    exact⟨v1,hb,rfl⟩
 refine⟨θ',hs.size,hs.defers,hs.fr,fun s x hx=>?_,fun k b hb=>?_,fun k1 k2 b1 b2 k h1 h2 qA nr=>?_,fun k b q hb hk=>?_,hs.X,⟨hs.base.1,fun k hk=>?_⟩⟩
 ·have qD:look (AC (N7 (swp i j) fun _=>0) σ.sl) s=some x:=hx
  rw[CP,Option.map_eq_some_iff]at qD
  obtain⟨x0,h1,rfl⟩:=qD
  exact Oe ren (hs.slots s x0 h1)
 ·obtain⟨q,b0,rfl,hq,h1,rfl,h3⟩:=back k b hb
  exact⟨xE q hq,WJ ren hq (hs.owns q b0 h1).2⟩
 ·obtain⟨q1,c1,rfl,_,g1,_,g2⟩:=back k1 b1 h1
  obtain⟨q2,c2,rfl,_,g3,_,g4⟩:=back k2 b2 h2
  rw[hs.apart q1 q2 c1 c2 k g1 g3 (g2 k qA) (g4 k nr)]
 ·obtain⟨q1,c1,rfl,_,g1,_,g2⟩:=back k b hb
  exact hs.mine q1 c1 q g1 (g2 q hk)
 ·have:swp i j k=k:=by rw[Ga,if_neg (by omega),if_neg (by omega)]
  show θ (swp i j k)=_∨_
  rw[this]
  refine(hs.base.2 k hk).imp id fun ⟨h1,h2⟩=>⟨h1,fun ⟨e,sz,v,l,hl,pK⟩=>h2 ?_⟩
  obtain⟨q,b0,hq,_,pW,pu,_⟩:=back k _ hl
  have hqk:q=k:=(DJ i j q).symm.trans ((congrArg (swp i j) hq.symm).trans this)
  subst hqk
  cases b0 with
  |bx τ l=>cases pu
  |map m=>cases pu
  |it _ _=>cases pu
  |row e1 sz1 v1 l1 =>
   simp only[j6]at pu
   cases pu
   exact⟨_,_,_,_,pW,pK⟩
theorem kZ{ng:Nat}{l:List Bool}:Xw P E n ops ng l σ K []:=⟨trivial⟩
theorem kc{ng:Nat}{l:List Bool}{i:Nat}{r:List Nat}(h1:match ops[i]? with
  |some o=>B1 P E n ops [o] σ fun σ'=>D1 P E n ops ng (l.set i true) σ' K
  |none=>False) (h2:Xw P E n ops ng l σ K r):Xw P E n ops ng l σ K (i::r):=⟨⟨h1,h2.h⟩⟩
theorem kd{p A:Prop}(h:p)(k:A):Xx p A:=⟨h,k⟩
end rules
def MV(P:Program)(op:Op)(ev:Operand→Option AV)(F:AV→Prop):Prop :=
 match op with
 |.move x=>Y5 (ev x) F
 |.assign x=>Y5 (ev x) F
 |.binOp op T x y _=>SO P T op (ev x) (ev y) F
 |.load T x=>match ev x with
  |some (.iptr l)=>Mz P T [] (some (.iptr l)) F
  |_=>False
 |.fieldAddr S x f=>match ev x with
  |some (.iptr l)=>Ob P S f fun off sz=>cond (Nat.blt 0 sz) (F (.iptr (l.drop off))) False
  |some (.ref i o)=>Ob P S f fun off sz=>cond (Nat.blt 0 sz) (F (.ref i (o+off))) False
  |_=>False
 |.indexAddr T x y=>match ev x with
  |some (.sl sz l)=>Ix P T [] (some (.sl sz l)) (ev y) F
  |_=>False
 |.call ⟨.builtin .len,⟨[x]⟩,⟨[T]⟩⟩=>match ev x with
  |some (.sl sz l)=>HK P T [] (some (.sl sz l)) F
  |some (.str s)=>HK P T [] (some (.str s)) F
  |some (.v (.slice none 0 0))=>HK P T [] (some (.v (.slice none 0 0))) F
  |_=>False
 |.call ⟨.value (.func f),⟨args⟩,_⟩=>match l6 ev args with
  |some l=>cond (I6 l) (RR P f (l++[]) F) False
  |none=>False
 |.build T ⟨parts⟩=>match Az ev parts with
  |some ps=>It P T fun zs pl=>Dk [] ps (Y5 ((BL pl zs ps).map AV.agg) F)
  |none=>False
 |.buildSlice T len ⟨parts⟩=>match Az ev parts with
  |some ps=>Ey P T fun _ sz _ _=>cond (CM 0 ps && q9 sz (M4 ps) && Nat.beq ps.length len && Nat.blt 0 sz) (F8 (len*sz≤16777216) (Dk [] ps (Mx (M4 ps) (F (.sl sz (M4 ps)))))) False
  |none=>False
 |.convert S T x=>Y5 (ev x) fun a=>Af P S T a F
 |.extract x k=>match ev x with
  |some (.tup l)=>Y5 (l[k]?) F
  |_=>False
 |.slice T x lo hi none=>match ev x with
  |some (.str s)=>DZ P T (match AB ev 0 lo,AB ev s.length hi with
   |some l,some h=>F8 (0≤l∧l≤h∧h≤s.length) (F (.str ((s.take h.toNat).drop l.toNat)))
   |_,_=>False)
  |_=>False
 |.unOp .not _ x=>match ev x with
  |some (.v (.bool b))=>F (.v (.bool (!b)))
  |_=>False
 |.index T x y=>match ev x,ev y with
  |some (.str s),some (.v (.int _ i))=>DZ P T (P5 s i fun b=>F (.v (.int .u8 b.toNat)))
  |_,_=>False
 |_=>False
theorem gu{hp:Hp}{a:AV}(h:One [] a):One hp a:=by
 cases h with
 |row hl=>cases hl
 |v h=>exact .v h
 |str l=>exact .str l
 |sl s l=>exact .sl s l
 |iptr l=>exact .iptr l
 |ref i o=>exact .ref i o
 |mp i=>exact .mp i
 |fn f l=>exact .fn f l
 |fo f l=>exact .fo f l
theorem dm{hp:Hp}{a:AV}(h:Fits [] a):Fits hp a:=by
 cases a<;>first|exact trivial|exact gu h
theorem JG{hp:Hp}:∀{ps:List (Nat×AV)},DX [] ps→DX hp ps
 |[],_=>trivial
 |(_,a)::r,h=>⟨dm h.1,JG h.2⟩
theorem mu{P:Program}{op:Op}{ev:Operand→Option AV}{F:AV→Prop}(h:MV P op ev F):∃av,(∀(E:Env) (nx:Nat) (hp:Hp) (ty:TypeId),G6 P E nx hp ev op ty av)∧F av:=by
 unfold MV at h
 split at h
 ·obtain⟨a,hx,h⟩:=J8 h;exact⟨a,fun _ _ _ _=>Zn hx,h⟩
 ·obtain⟨a,hx,h⟩:=J8 h;exact⟨a,fun _ _ _ _=>Rp hx,h⟩
 ·rename_i op T x y T2
  unfold SO at h
  split at h
  ·rename_i hx hy;exact⟨_,fun _ _ _ _=>gC hx hy h.h,h.k⟩
  ·rename_i hx hy;exact⟨_,fun _ _ _ _=>gD hx hy h.h,h.k⟩
  ·rename_i hx hy
   obtain⟨hk,hq⟩:=cond_false h
   clear h
   have hk:=of_decide_eq_true hk
   subst hk
   unfold SM at hq
   split at hq
   ·exact⟨_,fun _ _ _ _=>Dj hx hy (by simp only[CK,P4 hq.h]),hq.k⟩
   ·exact⟨_,fun _ _ _ _=>Dj hx hy (by simp only[CK,P4 hq.h]),hq.k⟩
   ·exact⟨_,fun _ _ _ _=>Dj hx hy (by simp only[CK,P4 hq.h]),hq.k⟩
   ·refine⟨_,fun E nx hp ty=>?_,hq.k⟩
    have pI:=RO (P:=P) (E:=E) (nx:=nx) (hp:=hp) (ty:=ty) (T:=T) (T2:=T2) hx hy hq.h.1
    rw[P4 hq.h.2]at pI
    exact pI
   ·exact⟨_,fun _ _ _ _=>RO hx hy hq.h,hq.k⟩
   ·exact⟨_,fun _ _ _ _=>gB hx hy hq.h,hq.k⟩
   ·split at hq
    ·rename_i hr;exact⟨_,fun _ _ _ _=>Dj hx hy hr,hq⟩
    ·exact hq.elim
  ·rename_i s t hx hy
   unfold dK at h
   split at h
   ·exact⟨_,fun _ _ _ _=>Zp hx hy h.h,h.k⟩
   ·split at h
    ·rename_i hr;exact⟨_,fun _ _ _ _=>Zo hx hy hr,h⟩
    ·exact h.elim
  ·rename_i a b hx hy
   unfold Xn at h
   split at h
   ·have:=h.h;exact⟨_,fun _ _ _ _=>RP (T:=T) false hx hy,h.k⟩
   ·have:=h.h;exact⟨_,fun _ _ _ _=>RP (T:=T) true hx hy,h.k⟩
   ·exact h.elim
  ·rename_i l m hx hy
   unfold CS at h
   split at h
   ·obtain⟨hk,hq⟩:=cond_false h
    obtain⟨rfl,rfl⟩:=of_decide_eq_true hk
    have:=hq.h;exact⟨_,fun _ _ _ _=>HD (T:=T) false hx hy,hq.k⟩
   ·obtain⟨hk,hq⟩:=cond_false h
    obtain⟨rfl,rfl⟩:=of_decide_eq_true hk
    have:=hq.h;exact⟨_,fun _ _ _ _=>HD (T:=T) true hx hy,hq.k⟩
   ·obtain⟨hk,hq⟩:=cond_false h
    obtain⟨rfl,rfl,rfl⟩:=of_decide_eq_true hk
    have:=hq.h;exact⟨_,fun _ _ _ _=>HF (T:=T) false hx hy,hq.k⟩
   ·obtain⟨hk,hq⟩:=cond_false h
    obtain⟨rfl,rfl,rfl⟩:=of_decide_eq_true hk
    have:=hq.h;exact⟨_,fun _ _ _ _=>HF (T:=T) true hx hy,hq.k⟩
   ·obtain⟨hk,hq⟩:=cond_false h
    obtain rfl:=of_decide_eq_true hk
    have:=hq.h;exact⟨_,fun _ _ _ _=>Mi (T:=T) false hx hy,hq.k⟩
   ·obtain⟨hk,hq⟩:=cond_false h
    obtain rfl:=of_decide_eq_true hk
    have:=hq.h;exact⟨_,fun _ _ _ _=>Mi (T:=T) true hx hy,hq.k⟩
   ·exact h.elim
  ·exact h.elim
 ·rename_i T x
  split at h
  ·rename_i l hx
   unfold Mz at h
   obtain⟨⟨ag,sz,tv,h⟩⟩:=h
   cases ag with
   |true =>
    change cond (Nat.beq l.length sz) _ _ at h
    cases hc:Nat.beq l.length sz with
    |true =>
     rw[hc]at h
     exact⟨_,fun _ _ _ _=>AA (sz:=sz) hx (by rw[←Nat.eq_of_beq_eq_true hc,List.take_length]) (Nat.eq_of_beq_eq_true hc),h⟩
    |false =>
     rw[hc]at h
     exact⟨_,fun _ _ _ _=>AA (sz:=sz) hx rfl h.h,h.k⟩
   |false =>
    cases l with
    |nil=>exact h.elim
    |cons av r=>exact⟨_,fun _ _ _ _=>Kj (sz:=sz) hx,h⟩
  ·exact h.elim
 ·split at h
  ·rename_i hx
   obtain⟨⟨off,sz,tf,h⟩⟩:=h
   obtain⟨hz,h⟩:=cond_false h
   exact⟨_,fun _ _ _ _=>Ih (off:=off) (sz:=sz) hx hz,h⟩
  ·rename_i hx
   obtain⟨⟨off,sz,tf,h⟩⟩:=h
   obtain⟨hz,h⟩:=cond_false h
   exact⟨_,fun _ _ _ _=>Kk (off:=off) (sz:=sz) hx hz,h⟩
  ·exact h.elim
 ·split at h
  ·rename_i hx
   unfold Ix at h
   split at h
   ·rename_i yG hy
    cases yG
    obtain⟨⟨e,ni,ts,h⟩⟩:=h
    obtain⟨hz,hq⟩:=cond_false h
    clear h
    have:=Nat.eq_of_beq_eq_true hz
    subst this
    obtain⟨h0,h1,hk⟩:=hq
    exact⟨_,fun _ _ _ _=>Me (e:=e) hx hy h0 (List.getElem?_eq_getElem (by omega)),hk _ (List.getElem?_eq_getElem (by omega))⟩
   ·rename_i yG _;cases yG
   ·rename_i yG _;cases yG
   ·exact h.elim
  ·exact h.elim
 ·split at h
  ·rename_i hx
   unfold HK at h
   obtain⟨⟨e,sz,ts,h⟩⟩:=h
   exact⟨_,fun _ _ _ _=>Ru (e:=e) (sz:=sz) hx,h.k⟩
  ·rename_i hx
   unfold HK at h
   obtain⟨ts,h⟩:=h
   exact⟨_,fun _ _ _ _=>Pc hx,h⟩
  ·rename_i hx
   unfold HK at h
   obtain⟨⟨e,sz,ts,h⟩⟩:=h
   exact⟨_,fun _ _ _ _=>Pd (e:=e) (sz:=sz) hx,h⟩
  ·exact h.elim
 ·split at h
  ·rename_i l hl
   obtain⟨hc,h⟩:=cond_false h
   obtain⟨⟨r,hr,h⟩⟩:=h
   rw[List.append_nil]at hr
   exact⟨_,fun _ _ _ _=>Rw hr hl hc,h⟩
  ·exact h.elim
 ·split at h
  ·rename_i ps sZ
   obtain⟨⟨zs,pl,tz,tp,h⟩⟩:=h
   obtain⟨hf,h⟩:=n6 h
   obtain⟨a,ha,h⟩:=J8 h
   rw[Option.map_eq_some_iff]at ha
   obtain⟨l,hl,rfl⟩:=ha
   exact⟨_,fun _ _ _ _=>WB (T:=_) sZ (JG hf) hl,h⟩
  ·exact h.elim
 ·split at h
  ·rename_i ps sZ
   obtain⟨⟨e,sz,bs,z,ts,tz,tb,hz,h⟩⟩:=h
   obtain⟨hc,h⟩:=cond_false h
   simp only[Bool.and_eq_true,Nat.beq_eq,Nat.blt_eq]at hc
   obtain⟨hs,h⟩:=h
   obtain⟨hf,h⟩:=n6 h
   obtain⟨hi,h⟩:=EP h
   exact⟨_,fun _ _ _ _=>Ip (e:=e) (z:=z) sZ (JG hf) hc.1.1.1 hc.1.1.2 hc.1.2 hz hs hc.2 hi,h⟩
  ·exact h.elim
 ·obtain⟨a,hx,h⟩:=J8 h
  obtain⟨⟨r,hr,h⟩⟩:=h
  cases hr with
  |bytes l hl=>rename_i e sz _ _ _;exact⟨_,fun _ _ _ _=>Km (e:=e) (sz:=sz) hx hl,h⟩
  |back l=>rename_i e sz _ _ _;exact⟨_,fun _ _ _ _=>Kn (e:=e) (sz:=sz) hx,h⟩
  |int m=>exact⟨_,fun _ _ _ _=>Mg hx,h⟩
  |rune m=>exact⟨_,fun _ _ _ _=>Ko hx,h⟩
 ·split at h
  ·rename_i hx
   obtain⟨a,ha,h⟩:=J8 h
   exact⟨_,fun _ _ _ _=>Pg hx ha,h⟩
  ·exact h.elim
 ·split at h
  ·rename_i hx
   obtain⟨ts,h⟩:=h
   split at h
   ·rename_i hl hh;exact⟨_,fun _ _ _ _=>Kq hx hl hh h.h.1 h.h.2.1 h.h.2.2,h.k⟩
   ·exact h.elim
  ·exact h.elim
 ·split at h
  ·rename_i hx;exact⟨_,fun _ _ _ _=>gE hx,h⟩
  ·exact h.elim
 ·split at h
  ·rename_i s k i hx hy
   obtain⟨ts,h0,h1,hk⟩:=h
   have nf:i.toNat<s.length:=by omega
   have nX:s[i.toNat]?=some s[i.toNat]:=List.getElem?_eq_getElem nf
   exact⟨_,fun _ _ _ _=>Kl hx hy h0 nX,hk _ nX⟩
  ·exact h.elim
 ·exact h.elim
structure MB where
 i:Nat
 d:Nat
 av:AV
 rd:List (Nat×AV)
def mv(P:Program)(ops:Array Oper)(m:MB):Prop:=∃op ty pos after,ops[m.i]?=some ⟨some m.d,op,ty,pos,after,none⟩∧∀(E:Env) (nx:Nat) (hp:Hp) (ty:TypeId),G6 P E nx hp (F4 ⟨m.rd,0,[]⟩) op ty m.av
def Ff(ops:Array Oper)(i:Nat):List Nat:=(k8 ops).getD i []
def M5:List MB→List (Nat×AV)
 |[]=>[]
 |⟨_,d,av,_⟩::r=>(d,av)::M5 r
def Y9(l:List Bool)(mb:List MB):List MB:=mb.filter fun m=>l.getD m.i false
def nO(ops:Array Oper)(mb:List MB)(sl:List (Nat×AV)):Prop:=∀m∈mb,∀p∈m.rd,look sl p.1=some p.2∨∃m'∈mb,m'.d=p.1∧m'.av=p.2∧m'.i∈Ff ops m.i
def Db(n:Nat)(sl:List (Nat×AV)):List MB→Bool
 |[]=>true
 |m::r=>Nat.blt m.d n && (look sl m.d).isNone && (r.all fun u=>!(Nat.beq u.d m.d) && !(Nat.beq u.i m.i)) && Db n sl r
theorem Fg{n:Nat}{sl:List (Nat×AV)}:∀{mb:List MB},Db n sl mb=true→(∀m∈mb,m.d<n∧look sl m.d=none)∧(∀m∈mb,∀m'∈mb,m.d=m'.d→m=m')∧∀m∈mb,∀m'∈mb,m.i=m'.i→m=m'
 |[],_=>⟨(fun m hm=>by cases hm),(fun m hm=>by cases hm),fun m hm=>by cases hm⟩
 |a::r,h=>by
  simp only[Db,Bool.and_eq_true,List.all_eq_true,Bool.not_eq_true',Nat.blt_eq,Option.isNone_iff_eq_none]at h
  obtain⟨⟨⟨h1,h2⟩,h3⟩,h4⟩:=h
  obtain⟨i1,i2,i3⟩:=Fg h4
  have uc:∀u∈r,u.d≠a.d∧u.i≠a.i:=fun u hu=>by
   have h5:=h3 u hu
   refine⟨fun e=>?_,fun e=>?_⟩
   ·have:=h5.1;rw[e]at this;simp at this
   ·have:=h5.2;rw[e]at this;simp at this
  refine⟨fun m hm=>?_,fun m hm m' ow e=>?_,fun m hm m' ow e=>?_⟩
  ·rcases List.mem_cons.1 hm with rfl|hm
   ·exact⟨h1,h2⟩
   ·exact i1 m hm
  ·rcases List.mem_cons.1 hm with h5|h5<;>rcases List.mem_cons.1 ow with h6|h6
   ·rw[h5,h6]
   ·subst h5;exact absurd e.symm (uc _ h6).1
   ·subst h6;exact absurd e (uc _ h5).1
   ·exact i2 m h5 m' h6 e
  ·rcases List.mem_cons.1 hm with h5|h5<;>rcases List.mem_cons.1 ow with h6|h6
   ·rw[h5,h6]
   ·subst h5;exact absurd e.symm (uc _ h6).2
   ·subst h6;exact absurd e (uc _ h5).2
   ·exact i3 m h5 m' h6 e
theorem R6(l m:List (Nat×AV))(s:Nat):look (l++m) s=match look l s with
  |some x=>some x
  |none=>look m s:=by
 induction l with
 |nil=>rfl
 |cons a r ih =>
  obtain⟨k,x⟩:=a
  simp only[List.cons_append,E6]
  by_cases e:k=s
  ·simp[e]
  ·simp[e,ih]
theorem Gb{T:List MB}{s:Nat}(h:∀m∈T,m.d≠s):look (M5 T) s=none:=by
 induction T with
 |nil=>rfl
 |cons a r ih =>
  obtain⟨ai,ad,yp,yH⟩:=a
  have h0:ad≠s:=h ⟨ai,ad,yp,yH⟩ (by simp)
  simp only[M5,E6]
  rw[if_neg h0,ih fun m hm=>h m (by simp[hm])]
theorem Dl{T:List MB}{m:MB}(hu:∀m∈T,∀m'∈T,m.d=m'.d→m=m')(hm:m∈T):look (M5 T) m.d=some m.av:=by
 induction T with
 |nil=>cases hm
 |cons a r ih =>
  obtain⟨ai,ad,yp,yH⟩:=a
  simp only[M5,E6]
  by_cases e:ad=m.d
  ·rw[if_pos e,←hu ⟨ai,ad,yp,yH⟩ (by simp) m hm e]
  ·rw[if_neg e]
   rcases List.mem_cons.1 hm with rfl|hm
   ·exact absurd rfl e
   ·exact ih (fun x hx y hy=>hu x (by simp[hx]) y (by simp[hy])) hm
theorem s5{T:List MB}{s:Nat}{x:AV}(h:look (M5 T) s=some x):∃m∈T,m.d=s∧m.av=x:=by
 induction T with
 |nil=>cases h
 |cons a r ih =>
  obtain⟨ai,ad,yp,yH⟩:=a
  simp only[M5,E6]at h
  by_cases e:ad=s
  ·rw[if_pos e]at h;cases h;exact⟨⟨ai,ad,_,yH⟩,by simp,e,rfl⟩
  ·rw[if_neg e]at h
   obtain⟨m,hm,h1,h2⟩:=ih h
   exact⟨m,by simp[hm],h1,h2⟩
theorem HR{E:Env}{n nx:Nat}{hp:Hp}{sl sl':List (Nat×AV)}{a:Act}{w:World}(e:∀s x,look sl' s=some x→look sl s=some x)(h:i9 E n ⟨sl,nx,hp⟩ a w):i9 E n ⟨sl',nx,hp⟩ a w:=by
 obtain⟨θ,h⟩:=h
 exact⟨θ,h.size,h.defers,h.fr,fun s x hs=>h.slots s x (e s x hs),h.owns,h.apart,h.mine,h.X,h.base⟩
def C8(P:Program)(E:Env)(n:Nat)(ops:Array Oper)(done:List Bool)(mb:List MB)(σ:St)(K:St→Prop):Prop :=
 (∀m∈mb,mv P ops m)→nO ops mb σ.sl→Db n σ.sl mb=true →
 ∀(ng:Nat) (l:List Bool) (a:Act) (w:World),l.length=ops.size→(∀i,done.getD i false=true→l.getD i false=true)→(∀i,l.getD i false=true→done.getD i false=true∨∃m∈mb,m.i=i)→l.count false≤ng →
  i9 E n ⟨M5 (Y9 l mb)++σ.sl,σ.nx,σ.hp⟩ a w→wpAny P .any ops (fun e a' w'=>e=.normal∧∃σ',K σ'∧i9 E n σ' a' w') ng l.toArray a w
def s6(ops:Array Oper)(mb:List MB)(i:Nat):List MB:=mb.filter fun m=>(Ff ops i).contains m.i
def l8(ops:Array Oper)(mb:List MB)(i:Nat):List MB:=mb.filter fun m=>!((Ff ops i).contains m.i)
def JH(ops:Array Oper)(done:List Bool)(mb:List MB)(i:Nat):List Bool:=(s6 ops mb i).foldl (fun l m=>l.set m.i true) (done.set i true)
def y4:List MB→List Nat
 |[]=>[]
 |m::r=>m.rd.map (·.1)++y4 r
structure NI(P:Program)(E:Env)(n:Nat)(ops:Array Oper)(done:List Bool)(mb:List MB)(K:St→Prop)(base:List (Nat×AV))(k:Nat)(ex:List (Nat×AV))(σ':St):Prop where
 sl:σ'.sl=σ'.sl.take k++ex
 rd:(y4 mb).map (look (σ'.sl.take k))=(y4 mb).map (look base)
 chk:Db n (σ'.sl.take k) mb=true
 go:C8 P E n ops done mb ⟨σ'.sl.take k,σ'.nx,σ'.hp⟩ K
def NJ(P:Program)(E:Env)(n:Nat)(ops:Array Oper)(done:List Bool)(mb:List MB)(σ:St)(K:St→Prop)(i:Nat):Prop :=
 match ops[i]? with
 |some o=>∀ex:List (Nat×AV),B1 P E n ops [o] ⟨M5 (s6 ops mb i)++(σ.sl++ex),σ.nx,σ.hp⟩ fun σ'=>NI P E n ops (JH ops done mb i) (l8 ops mb i) K (M5 (s6 ops mb i)++σ.sl) (match o.dst,o.guard with
  |some _,some _=>(s6 ops mb i).length+σ.sl.length+2
  |some _,none=>(s6 ops mb i).length+σ.sl.length+1
  |none,_=>(s6 ops mb i).length+σ.sl.length) ex σ'
 |none=>False
def Xy(P:Program)(E:Env)(n:Nat)(ops:Array Oper)(done:List Bool)(mb:List MB)(σ:St)(K:St→Prop):List Nat→Prop
 |[]=>True
 |i::r=>NJ P E n ops done mb σ K i∧Xy P E n ops done mb σ K r
theorem Se{P:Program}{E:Env}{n:Nat}{ops:Array Oper}{done:List Bool}{mb:List MB}{σ:St}{K:St→Prop}:∀{r:List Nat},Xy P E n ops done mb σ K r→∀i∈r,NJ P E n ops done mb σ K i
 |[],_,i,hi=>by cases hi
 |j::r,h,i,hi=>by
  rcases List.mem_cons.1 hi with rfl|hi
  ·exact h.1
  ·exact Se h.2 i hi
def HS(ops:Array Oper)(done:List Bool)(mb:List MB):List Nat :=
 (List.range ops.size).filter fun i=>!(done.getD i false) && !(mb.any fun m=>Nat.beq m.i i) && (Ff ops i).all fun j=>done.getD j false || mb.any fun m=>Nat.beq m.i j
def Gc(ops:Array Oper):Bool:=(List.range ops.size).all fun i=>(Ff ops i).all fun j=>Nat.blt j i
def RV(ops:Array Oper)(done:List Bool)(mb:List MB):Bool:=(List.range ops.size).all fun i=>done.getD i false || mb.any fun m=>Nat.beq m.i i
theorem HT(l:List Bool)(i j:Nat):(l.set i true).getD j false=if i=j∧i<l.length then true else l.getD j false:=by
 simp only[List.getD_eq_getElem?_getD,List.getElem?_set]
 by_cases e:i=j
 ·subst e
  by_cases h:i<l.length
  ·simp[h]
  ·simp[h]
 ·simp[e]
theorem Ps:∀(l:List Bool) (i:Nat),l[i]?=some false→(l.set i true).count false+1=l.count false
 |[],i,h=>by simp at h
 |b::r,0,h=>by simp at h;subst h;simp
 |b::r,i+1,h=>by
  have:=Ps r i (by simpa using h)
  rw[List.set_cons_succ,List.count_cons,List.count_cons]
  omega
theorem Gd:∀(T:List MB) (l:List Bool) (j:Nat),(∀m∈T,m.i<l.length)→((T.foldl (fun l m=>l.set m.i true) l).getD j false=true↔l.getD j false=true∨∃m∈T,m.i=j)
 |[],l,j,_=>by simp
 |m::r,l,j,h=>by
  rw[List.foldl_cons,Gd r _ j (fun x hx=>by rw[List.length_set];exact h x (by simp[hx])),HT]
  have hm:=h m (by simp)
  by_cases e:m.i=j
  ·subst e
   constructor
   ·intro _;exact .inr ⟨m,by simp,rfl⟩
   ·intro _;left;rw[if_pos ⟨rfl,hm⟩]
  ·rw[if_neg (fun h=>e h.1)]
   constructor
   ·rintro (h1|⟨x,hx,e2⟩)
    ·exact .inl h1
    ·exact .inr ⟨x,by simp[hx],e2⟩
   ·rintro (h1|⟨x,hx,e2⟩)
    ·exact .inl h1
    ·rcases List.mem_cons.1 hx with rfl|hx
     ·exact absurd e2 e
     ·exact .inr ⟨x,hx,e2⟩
theorem WL{ops:Array Oper}{i:Nat}(h:i<ops.size):(k8 ops)[i]?=some (Ff ops i):=by
 have hl:i<(k8 ops).length:=by simp[k8];exact h
 rw[Ff,List.getD_eq_getElem?_getD,List.getElem?_eq_getElem hl];rfl
theorem KE{P:Program}{E:Env}{n:Nat}{ops:Array Oper}{done:List Bool}{mb:List MB}{σ:St}{K:St→Prop}(nZ:Nat.beq done.length ops.size=true)(oE:Gc ops=true)
  (ph:RV ops done mb=true→K ⟨M5 mb++σ.sl,σ.nx,σ.hp⟩) (oU:Xy P E n ops done mb σ K (HS ops done mb)):C8 P E n ops done mb σ K:=by
 have nZ:=Nat.eq_of_beq_eq_true nZ
 intro pS nd om
 obtain⟨qK,pf,vY⟩:=Fg om
 have tX:∀m∈mb,m.i<ops.size:=fun m hm=>by
  obtain⟨op,ty,pos,after,h,_⟩:=pS m hm
  exact(Array.getElem?_eq_some_iff.1 h).1
 have ql:∀l,∀m∈Y9 l mb,m∈mb∧l.getD m.i false=true:=fun l m hm=>by
  unfold Y9 at hm
  exact List.mem_filter.1 hm
 have ox:∀l,∀m∈mb,l.getD m.i false=true→m∈Y9 l mb:=fun l m hm h=>List.mem_filter.2 ⟨hm,h⟩
 have hu:∀l,∀m∈Y9 l mb,∀m'∈Y9 l mb,m.d=m'.d→m=m':=fun l m hm m' ow=>pf m (ql l m hm).1 m' (ql l m' ow).1
 -- a slot of the state is none of those that may be filled
 have qO:∀l s x,look σ.sl s=some x→look (M5 (Y9 l mb)) s=none:=fun l s x hs=>Gb fun m hm e=>by
  have:=(qK m (ql l m hm).1).2
  rw[e,hs]at this
  cases this
 have fin:∀(l:List Bool) (a:Act) (w:World),(∀i,i<ops.size→l.getD i false=true)→(∀i,l.getD i false=true→done.getD i false=true∨∃m∈mb,m.i=i)→i9 E n ⟨M5 (Y9 l mb)++σ.sl,σ.nx,σ.hp⟩ a w→(Exit.normal=Exit.normal∧∃σ',K σ'∧i9 E n σ' a w):=by
  intro l a w hl h2 hs
  refine⟨rfl,_,ph ?_,HR (fun s x h=>?_) hs⟩
  ·unfold RV
   rw[List.all_eq_true]
   intro i hi
   rcases h2 i (hl i (List.mem_range.1 hi))with h|⟨m,hm,e⟩
   ·rw[h];rfl
   ·have:(mb.any fun m=>Nat.beq m.i i)=true:=List.any_eq_true.2 ⟨m,hm,by simp[e]⟩
    rw[this];simp
  ·have:Y9 l mb=mb:=List.filter_eq_self.2 fun m hm=>hl _ (tX m hm)
   rw[this];exact h
 have uN:∀(l:List Bool),l.length=ops.size→Region.ready .any ops l.toArray=[]→∀i,i<ops.size→l.getD i false=true:=by
  intro l hl hr i
  induction i using Nat.strongRecOn with
  |_ i ih =>
   intro hi
   cases hx:l.getD i false with
   |true=>rfl
   |false =>
    exfalso
    have oR:i∈e7 l 0 (k8 ops) l:=by
     rw[CY]
     refine⟨i,Ff ops i,by omega,WL hi,?_,fun x hxe=>?_⟩
     ·rw[List.getD_eq_getElem?_getD]at hx
      have h1:l[i]?=some (l[i]'(by omega)):=List.getElem?_eq_getElem (by omega)
      rw[h1]at hx ⊢
      simpa using hx
     ·unfold Gc at oE
      have h1:=List.all_eq_true.1 oE i (List.mem_range.2 hi)
      have h2:=List.all_eq_true.1 h1 x hxe
      have h3:x<i:=by simpa using h2
      exact ih x h3 (by omega)
    have:=(W9 hl i).2 oR
    rw[hr]at this
    cases this
 intro ng
 induction ng with
 |zero =>
  intro l a w hl h1 h2 vk hs
  have h0:∀i,i<ops.size→l.getD i false=true:=by
   intro i hi
   have uL:l[i]?=some (l[i]'(by omega)):=List.getElem?_eq_getElem (by omega)
   rw[List.getD_eq_getElem?_getD,uL]
   cases hb:l[i]'(by omega)with
   |true=>rfl
   |false =>
    have:0<l.count false:=List.count_pos_iff.2 (hb▸List.getElem_mem _)
    omega
  refine⟨?_,fin l a w h0 h2 hs⟩
  cases hx:Region.ready .any ops l.toArray with
  |nil=>rfl
  |cons i r =>
   have:=(W9 hl i).1 (by rw[hx];simp)
   rw[CY]at this
   obtain⟨j,e,e1,_,e2,_⟩:=this
   have hj:j<ops.size:=by rw[←hl];exact(List.getElem?_eq_some_iff.1 e2).1
   have:=h0 j hj
   rw[List.getD_eq_getElem?_getD,e2]at this
   cases this
 |succ ng ih =>
  intro l a w hl h1 h2 vk hs
  refine⟨fun hr=>fin l a w (uN l hl hr) h2 hs,fun i hi=>?_⟩
  have ou:=(W9 hl i).1 hi
  rw[CY]at ou
  obtain⟨i',e,ei,he,hf,wT⟩:=ou
  obtain rfl:i=i':=by omega
  have his:i<ops.size:=by rw[←hl];exact(List.getElem?_eq_some_iff.1 hf).1
  rw[WL his]at he
  cases he
  have hlf:l.getD i false=false:=by rw[List.getD_eq_getElem?_getD,hf];rfl
  have oL:(l.set i true).length=ops.size:=by rw[List.length_set];exact hl
  have vB:(l.set i true).count false≤ng:=by have:=Ps l i hf;omega
  have od:∀j,(l.set i true).getD j false=true↔j=i∨l.getD j false=true:=by
   intro j
   rw[HT]
   by_cases e:i=j
   ·subst e;simp;omega
   ·simp[e,Ne.symm e]
  by_cases hm:∃m∈mb,m.i=i
  ·obtain⟨m,hm,vu⟩:=hm
   subst vu
   obtain⟨op,ty,pos,after,ho,hq⟩:=pS m hm
   unfold wpOp
   simp only[ho]
   rw[if_pos (by simp[Region.wanted])]
   left
   obtain⟨θ,hs⟩:=hs
   have pq:t9 E θ σ.nx σ.hp (F4 ⟨m.rd,0,[]⟩) a w:=by
    have h0:=hs.evT
    refine⟨h0.fr,h0.owns,h0.X,fun {x av} hx=>h0.rel (x:=x) ?_,h0.apart,h0.fresh,h0.tab⟩
    cases x with
    |tmp t =>
     have qD:look m.rd t=some av:=hx
     show look (M5 (Y9 l mb)++σ.sl) t=some av
     have oR:∀(rd:List (Nat×AV)),look rd t=some av→(t,av)∈rd:=by
      intro rd
      induction rd with
      |nil=>intro h;cases h
      |cons p r ih =>
       obtain⟨k,x⟩:=p
       intro h
       rw[E6]at h
       by_cases e:k=t
       ·subst e;rw[if_pos rfl]at h;cases h;simp
       ·rw[if_neg e]at h;exact List.mem_cons_of_mem _ (ih h)
     rw[R6]
     rcases nd m hm (t,av) (oR _ qD)with h|⟨m',ow,e1,e2,e3⟩
     ·rw[qO l t av h];exact h
     ·have h4:m'∈Y9 l mb:=ox l m' ow (wT _ e3)
      have h5:=Dl (hu l) h4
      have e1:m'.d=t:=e1
      have e2:m'.av=av:=e2
      rw[e1,e2]at h5
      rw[h5]
    |const c=>exact hx
    |global g=>exact hx
    |func f=>exact hx
   refine Ro (hq E σ.nx σ.hp ty (some m.d) pos after θ a w (fun v w'=>Below w.heap.size w w'∧D8 (kx E θ σ.nx σ.hp w') m.av v) pq fun v w' hb hr=>⟨hb,hr⟩) fun v w' wX=>?_
   rw[W4]
   refine ih (l.set m.i true) _ w' oL (fun j hj=>(od j).2 (.inr (h1 j hj))) (fun j hj=>?_) vB ?_
   ·rcases(od j).1 hj with e|e
    ·exact .inr ⟨m,hm,e.symm⟩
    ·exact h2 j e
   ·have rC:=(hs.below wX.1).put (d:=m.d) (qK m hm).1 (x:=m.av) (v:=v) wX.2
    refine HR (sl:=(m.d,m.av)::(M5 (Y9 l mb)++σ.sl)) (fun s x h=>?_) ⟨θ,rC⟩
    rw[R6]at h
    rw[E6,R6]
    cases hx:look (M5 (Y9 (l.set m.i true) mb)) s with
    |some y =>
     rw[hx]at h
     cases h
     obtain⟨m',ow,e1,e2⟩:=s5 hx
     obtain⟨h3,h4⟩:=ql _ m' ow
     by_cases e:m.d=s
     ·rw[if_pos e,pf m hm m' h3 (by rw[e,e1]),e2]
     ·rw[if_neg e]
      have h5:l.getD m'.i false=true:=by
       rcases(od _).1 h4 with h6|h6
       ·have:=vY m' h3 m hm h6
        subst this
        exact absurd e1 e
       ·exact h6
      have:=Dl (hu l) (ox l m' h3 h5)
      rw[e1,e2]at this
      rw[this]
    |none =>
     rw[hx]at h
     have h':look σ.sl s=some x:=h
     have hne:m.d≠s:=fun e=>by have:=(qK m hm).2;rw[e,h']at this;cases this
     rw[if_neg hne,qO l s x h']
     exact h'
  ·have pZ:∀m∈mb,m.i≠i:=fun m ow e=>hm ⟨m,ow,e⟩
   have wW:done.getD i false=false:=by
    cases hx:done.getD i false with
    |false=>rfl
    |true=>rw[h1 i hx]at hlf;cases hlf
   have xa:(mb.any fun m=>Nat.beq m.i i)=false:=by
    rw[List.any_eq_false]
    intro m ow h
    exact pZ m ow (Nat.eq_of_beq_eq_true h)
   have zB:i∈HS ops done mb:=by
    unfold HS
    rw[List.mem_filter]
    refine⟨List.mem_range.2 his,?_⟩
    rw[wW,xa]
    simp only[Bool.not_false,Bool.true_and,List.all_eq_true]
    intro j hj
    rcases h2 j (wT j hj)with h|⟨m,ow,e⟩
    ·rw[h];rfl
    ·have:(mb.any fun m=>Nat.beq m.i j)=true:=List.any_eq_true.2 ⟨m,ow,by simp[e]⟩
     rw[this];simp
   have sR:=Se oU i zB
   unfold NJ at sR
   split at sR
   ·rename_i o ho
    have vM:∀m,m∈s6 ops mb i↔m∈mb∧m.i∈Ff ops i:=fun m=>by simp[s6,List.mem_filter]
    have rL:∀m,m∈l8 ops mb i↔m∈mb∧m.i∉Ff ops i:=fun m=>by simp[l8,List.mem_filter]
    have up:i9 E n ⟨M5 (s6 ops mb i)++(σ.sl++M5 (Y9 l (l8 ops mb i))),σ.nx,σ.hp⟩ a w:=by
     refine HR (fun s x h=>?_) hs
     rw[R6]at h ⊢
     cases hx:look (M5 (s6 ops mb i)) s with
     |some y =>
      rw[hx]at h
      cases h
      obtain⟨m,ow,e1,e2⟩:=s5 hx
      obtain⟨h3,h4⟩:=(vM m).1 ow
      have:=Dl (hu l) (ox l m h3 (wT _ h4))
      rw[e1,e2]at this
      rw[this]
     |none =>
      rw[hx]at h
      have h:look (σ.sl++M5 (Y9 l (l8 ops mb i))) s=some x:=h
      rw[R6]at h
      cases hy:look σ.sl s with
      |some y =>
       rw[hy]at h
       cases h
       rw[qO l s _ hy]
      |none =>
       rw[hy]at h
       have h:look (M5 (Y9 l (l8 ops mb i))) s=some x:=h
       obtain⟨m,ow,e1,e2⟩:=s5 h
       obtain⟨h3,h4⟩:=List.mem_filter.1 ow
       have:=Dl (hu l) (ox l m ((rL m).1 h3).1 h4)
       rw[e1,e2]at this
       rw[this]
    have hw:=sR (M5 (Y9 l (l8 ops mb i))) a w up
    have last:∀(kk:Nat) σ' a' w',NI P E n ops (JH ops done mb i) (l8 ops mb i) K (M5 (s6 ops mb i)++σ.sl) kk (M5 (Y9 l (l8 ops mb i))) σ'→i9 E n σ' a' w'→wpAny P .any ops (fun e a' w'=>e=.normal∧∃σ',K σ'∧i9 E n σ' a' w') ng (l.set i true).toArray a' w':=by
     intro kk σ' a' w' hp og
     have qW:∀j,(JH ops done mb i).getD j false=true↔(done.getD j false=true∨j=i)∨∃m∈s6 ops mb i,m.i=j:=by
      intro j
      unfold JH
      rw[Gd _ _ _ (fun m ow=>by rw[List.length_set,nZ];exact tX m ((vM m).1 ow).1),HT]
      by_cases e:i=j
      ·subst e;simp;left;omega
      ·simp[e,Ne.symm e]
     have wv:∀m∈s6 ops mb i,look (M5 (s6 ops mb i)++σ.sl) m.d=some m.av:=fun m ow=>by
      rw[R6,Dl (fun m h m' h'=>pf m ((vM m).1 h).1 m' ((vM m').1 h').1) ow]
     refine hp.go (fun m ow=>pS m ((rL m).1 ow).1) (fun m ow p hpm=>?_) hp.chk ng (l.set i true) a' w' oL (fun j hj=>?_) (fun j hj=>?_) vB ?_
     ·have uz:look (σ'.sl.take kk) p.1=look (M5 (s6 ops mb i)++σ.sl) p.1:=by
       have oR:p.1∈y4 (l8 ops mb i):=by
        have:∀(L:List MB),m∈L→p.1∈y4 L:=by
         intro L
         induction L with
         |nil=>intro h;cases h
         |cons a r ih =>
          intro h
          simp only[y4,List.mem_append,List.mem_map]
          rcases List.mem_cons.1 h with rfl|h
          ·exact .inl ⟨p,hpm,rfl⟩
          ·exact .inr (ih h)
        exact this _ ow
       obtain⟨t,ht,et⟩:=List.getElem_of_mem oR
       have h3:=congrArg (fun L:List (Option AV)=>L[t]?) hp.rd
       simp only[List.getElem?_map,List.getElem?_eq_getElem ht,Option.map_some,Option.some.injEq,et]at h3
       exact h3
      rcases nd m ((rL m).1 ow).1 p hpm with h|⟨m',xZ,e1,e2,e3⟩
      ·left
       rw[uz,R6,Gb (fun u rI e=>by
        have:=(qK u ((vM u).1 rI).1).2
        rw[e,h]at this
        cases this)]
       exact h
      ·by_cases wt:m'.i∈Ff ops i
       ·left
        rw[uz,←e1,wv m' ((vM m').2 ⟨xZ,wt⟩),e2]
       ·exact .inr ⟨m',(rL m').2 ⟨xZ,wt⟩,e1,e2,e3⟩
     ·rw[od]
      rcases(qW j).1 hj with (h|h)|⟨m,ow,e⟩
      ·exact .inr (h1 j h)
      ·exact .inl h
      ·exact .inr (e▸wT _ ((vM m).1 ow).2)
     ·rw[qW]
      rcases(od j).1 hj with h|h
      ·exact .inl (.inl (.inr h))
      ·rcases h2 j h with h|⟨m,ow,e⟩
       ·exact .inl (.inl (.inl h))
       ·by_cases wt:m.i∈Ff ops i
        ·exact .inl (.inr ⟨m,(vM m).2 ⟨ow,wt⟩,e⟩)
        ·exact .inr ⟨m,(rL m).2 ⟨ow,wt⟩,e⟩
     ·have rQ:=hp.sl
      obtain⟨c1,c2,c3⟩:=Fg hp.chk
      have:Y9 (l.set i true) (l8 ops mb i)=Y9 l (l8 ops mb i):=by
       unfold Y9
       refine List.filter_congr fun m ow=>?_
       rw[HT,if_neg (fun h=>pZ m ((rL m).1 ow).1 h.1.symm)]
      rw[this]
      refine HR (sl:=σ'.sl) (fun s x h=>?_) og
      rw[R6]at h
      rw[rQ,R6]
      cases hx:look (M5 (Y9 l (l8 ops mb i))) s with
      |some y =>
       rw[hx]at h
       cases h
       obtain⟨m,ow,e1,e2⟩:=s5 hx
       have h3:=(c1 m (List.mem_filter.1 ow).1).2
       rw[e1]at h3
       rw[h3]
      |none =>
       rw[hx]at h
       have h:look (σ'.sl.take kk) s=some x:=h
       rw[h]
    unfold wpOp
    simp only[ho]
    unfold wpList at hw
    split
    ·rename_i pN
     rw[if_pos pN]at hw
     rcases hw with hw|⟨_,a1,w1,hx⟩
     ·refine .inl (Lj (fun e a w h=>h.1) (fun a' w' hn=>?_) hw)
      obtain⟨_,σ',hk,og⟩:=hn
      rw[W4]
      exact last _ σ' a' w' hk og
     ·exact absurd hx.1 (by simp)
    ·rename_i pN
     rw[if_neg pN]at hw
     obtain⟨_,σ',hk,og⟩:=hw
     rw[W4]
     exact last _ σ' _ _ hk og
   ·exact sR.elim
def RX:List MB→(List MB→Prop)→Prop
 |[],F=>F []
 |⟨i,d,av,rd⟩::r,F=>CW rd fun rd2=>RX r fun s=>F (⟨i,d,av,rd2⟩::s)
theorem NK:∀{l:List MB} {F:List MB→Prop},RX l F→F l
 |[],F,h=>h
 |⟨i,d,av,rd⟩::r,F,h=>NK (l:=r) (F:=fun s=>F (⟨i,d,av,rd⟩::s)) (l7 h)
def Lk(op:Op)(sl:List (Nat×AV)):List (Nat×AV):=op.operands.toList.filterMap fun x=>match x with
 |.tmp t=>(look sl t).map fun a=>(t,a)
 |_=>none
def WM(ops:Array Oper)(mb:List MB)(i:Nat)(op:Op):Bool:=op.operands.toList.all fun x=>match x with
 |.tmp t=>mb.all fun m=>!(Nat.beq m.d t) || (Ff ops i).contains m.i
 |_=>true
def Sf(ev:Operand→Option AV)(x:Operand):Bool:=match ev x with
 |some a=>J1 a
 |none=>false
def nP(op:Op)(ev:Operand→Option AV):Bool :=
 match op with
 |.move x=>(ev x).isSome
 |.assign x=>(ev x).isSome
 |.binOp _ _ x y _=>Sf ev x && Sf ev y
 |.load _ x=>match ev x with
  |some (.iptr _)=>true
  |_=>false
 |.fieldAddr _ x _=>match ev x with
  |some (.iptr _)=>true
  |some (.ref _ _)=>true
  |_=>false
 |.indexAddr _ x y=>(match ev x with
  |some (.sl _ _)=>true
  |_=>false) && Sf ev y
 |.call ⟨.builtin .len,⟨[x]⟩,⟨[_]⟩⟩=>match ev x with
  |some (.sl _ _)=>true
  |some (.str _)=>true
  |some (.v (.slice none 0 0))=>true
  |_=>false
 |.call ⟨.value (.func f),⟨args⟩,_⟩=>match l6 ev args with
  |some l=>I6 l
  |none=>false
 |.build _ ⟨parts⟩=>match Az ev parts with
  |some ps=>ps.all fun p=>J1 p.2
  |none=>false
 |.buildSlice _ _ ⟨parts⟩=>match Az ev parts with
  |some ps=>ps.all fun p=>J1 p.2
  |none=>false
 |.convert _ _ x=>Sf ev x
 |.extract x k=>match ev x with
  |some (.tup l)=>(l[k]?).isSome
  |_=>false
 |.slice _ x lo hi none=>(match ev x with
  |some (.str _)=>true
  |_=>false) && (match lo with
  |some o=>Sf ev o
  |none=>true) && (match hi with
  |some o=>Sf ev o
  |none=>true)
 |.unOp .not _ x=>match ev x with
  |some (.v (.bool _))=>true
  |_=>false
 |.index _ x y=>(match ev x with
  |some (.str _)=>true
  |_=>false) && Sf ev y
 |_=>false
def RY(ops:Array Oper)(n:Nat)(done:List Bool)(mb:List MB)(sl:List (Nat×AV))(i:Nat):Bool :=
 !(done.getD i false) && !(mb.any fun m=>Nat.beq m.i i) && ((Ff ops i).all fun j=>done.getD j false || mb.any fun m=>Nat.beq m.i j) && match ops[i]? with
  |some ⟨some d,op,_,_,_,none⟩=>nP op (F4 ⟨M5 mb++sl,0,[]⟩) && Db n sl (⟨i,d,.any,[]⟩::mb) && WM ops mb i op
  |_=>false
theorem dp{op:Op}{sl:List (Nat×AV)}{p:Nat×AV}(h:p∈Lk op sl):look sl p.1=some p.2∧Operand.tmp p.1∈op.operands.toList:=by
 unfold Lk at h
 rw[List.mem_filterMap]at h
 obtain⟨x,hx,h⟩:=h
 split at h
 ·rw[Option.map_eq_some_iff]at h
  obtain⟨a,ha,rfl⟩:=h
  exact⟨ha,hx⟩
 ·cases h
theorem Sg{P:Program}{E:Env}{n:Nat}{ops:Array Oper}{done:List Bool}{mb:List MB}{σ:St}{K:St→Prop}{i d:Nat}{op:Op}{ty:TypeId}{pos:String}{after:Array Edge}(qZ:ops[i]?=some ⟨some d,op,ty,pos,after,none⟩)
  (wT:WM ops mb i op=true) (pX:Db n σ.sl (⟨i,d,.any,[]⟩::mb)=true) (wW:done.getD i false=false)
  (h:MV P op (F4 ⟨Lk op (M5 mb++σ.sl),0,[]⟩) fun av=>C8 P E n ops done (⟨i,d,av,Lk op (M5 mb++σ.sl)⟩::mb) σ K):C8 P E n ops done mb σ K:=by
 obtain⟨av,hq,h⟩:=mu h
 intro pS nd om ng l a w hl h1 h2 vk hs
 obtain⟨c1,c2,c3⟩:=Fg pX
 have uL:l.getD i false=false:=by
  cases hx:l.getD i false with
  |false=>rfl
  |true =>
   exfalso
   rcases h2 i hx with h|⟨m,hm,e⟩
   ·rw[wW]at h;cases h
   ·simp only[Db,Bool.and_eq_true,List.all_eq_true,Bool.not_eq_true']at pX
    have h3:=(pX.1.2 m hm).2
    rw[e]at h3
    simp at h3
 refine h (fun m hm=>?_) (fun m hm p hp=>?_) pX ng l a w hl h1 (fun j hj=>?_) vk ?_
 ·rcases List.mem_cons.1 hm with rfl|hm
  ·exact⟨op,ty,pos,after,qZ,hq⟩
  ·exact pS m hm
 ·rcases List.mem_cons.1 hm with rfl|hm
  ·obtain⟨h3,h4⟩:=dp hp
   rw[R6]at h3
   cases hx:look (M5 mb) p.1 with
   |none=>rw[hx]at h3;exact .inl h3
   |some y =>
    rw[hx]at h3
    cases h3
    obtain⟨m',ow,e1,e2⟩:=s5 hx
    refine .inr ⟨m',List.mem_cons_of_mem _ ow,e1,e2,?_⟩
    have h5:=List.all_eq_true.1 wT _ h4
    have h6:=List.all_eq_true.1 h5 m' ow
    rw[e1]at h6
    simpa using h6
  ·rcases nd m hm p hp with h3|⟨m',ow,h4⟩
   ·exact .inl h3
   ·exact .inr ⟨m',List.mem_cons_of_mem _ ow,h4⟩
 ·rcases h2 j hj with h3|⟨m,hm,e⟩
  ·exact .inl h3
  ·exact .inr ⟨m,List.mem_cons_of_mem _ hm,e⟩
 ·have:Y9 l (⟨i,d,av,Lk op (M5 mb++σ.sl)⟩::mb)=Y9 l mb:=by
   unfold Y9
   rw[List.filter_cons,if_neg (by simp only[uL];exact Bool.false_ne_true)]
  rw[this]
  exact hs
structure ke(F:List (Nat×AV)→Prop):Prop where
 h:∀ex,F ex
theorem mw{F:List (Nat×AV)→Prop}(h:∀ex,F ex):ke F:=⟨h⟩
structure NM(P:Program)(E:Env)(n:Nat)(ops:Array Oper)(done:List Bool)(mb:List MB)(σ:St)(K:St→Prop)(r:List Nat):Prop where
 h:Xy P E n ops done mb σ K r
theorem gv{P:Program}{E:Env}{n:Nat}{ops:Array Oper}{done:List Bool}{mb:List MB}{σ:St}{K:St→Prop}:NM P E n ops done mb σ K []:=⟨trivial⟩
def Xz(P:Program)(E:Env)(n:Nat)(ops:Array Oper)(done:List Bool)(mb:List MB)(σ:St)(K:St→Prop)(i:Nat):Prop :=
 match ops[i]? with
 |some o=>CW (M5 (s6 ops mb i)++σ.sl) fun xM=>ke fun ex=>B1 P E n ops [o] ⟨xM++ex,σ.nx,σ.hp⟩ fun σ'=>NI P E n ops (JH ops done mb i) (l8 ops mb i) K (M5 (s6 ops mb i)++σ.sl) (match o.dst,o.guard with
  |some _,some _=>(s6 ops mb i).length+σ.sl.length+2
  |some _,none=>(s6 ops mb i).length+σ.sl.length+1
  |none,_=>(s6 ops mb i).length+σ.sl.length) ex σ'
 |none=>False
theorem YA{P:Program}{E:Env}{n:Nat}{ops:Array Oper}{done:List Bool}{mb:List MB}{σ:St}{K:St→Prop}{i:Nat}(h:Xz P E n ops done mb σ K i):NJ P E n ops done mb σ K i:=by
 unfold Xz at h
 unfold NJ
 split at h
 ·have h2:=(l7 h).h
  simp only[List.append_assoc]at h2
  exact h2
 ·exact h.elim
theorem gw{P:Program}{E:Env}{n:Nat}{ops:Array Oper}{done:List Bool}{mb:List MB}{σ:St}{K:St→Prop}{i:Nat}{r:List Nat}(h:Xz P E n ops done mb σ K i)(k:NM P E n ops done mb σ K r):NM P E n ops done mb σ K (i::r):=⟨⟨YA h,k.h⟩⟩
theorem gx{P:Program}{E:Env}{n:Nat}{ops:Array Oper}{done:List Bool}{mb:List MB}{K:St→Prop}{base:List (Nat×AV)}{k:Nat}{ex:List (Nat×AV)}{σ':St}(h1:σ'.sl=σ'.sl.take k++ex)(h2:(y4 mb).map (look (σ'.sl.take k))=(y4 mb).map (look base))(h3:Db n (σ'.sl.take k) mb=true)
  (h4:CW (σ'.sl.take k) fun xM=>U3 σ'.hp fun hp2=>G8 σ'.nx fun sq=>KC done fun tK=>RX mb fun mb2=>C8 P E n ops tK mb2 ⟨xM,sq,hp2⟩ K):NI P E n ops done mb K base k ex σ' :=
 ⟨h1,h2,h3,NK (ET (D9 (S4 (l7 h4))))⟩
def kf(P:Program)(E:Env)(n:Nat)(ops:Array Oper)(done:List Bool)(mb:List MB)(σ:St)(K:St→Prop):Prop :=
 match (List.range ops.size).find? (RY ops n done mb σ.sl)with
 |some i=>match ops[i]? with
  |some ⟨some d,op,_,_,_,none⟩=>CW (Lk op (M5 mb++σ.sl)) fun rd=>MV P op (F4 ⟨rd,0,[]⟩) fun av=>C8 P E n ops done (⟨i,d,av,rd⟩::mb) σ K
  |_=>False
 |none=>RU (HS ops done mb) fun L=>match L with
  |[]=>cond (RV ops done mb) (K ⟨M5 mb++σ.sl,σ.nx,σ.hp⟩) False
  |i::r=>NM P E n ops done mb σ K (i::r)
theorem Pt{P:Program}{E:Env}{n:Nat}{ops:Array Oper}{done:List Bool}{mb:List MB}{σ:St}{K:St→Prop}(nZ:Nat.beq done.length ops.size=true)(oE:Gc ops=true)(h:kf P E n ops done mb σ K):C8 P E n ops done mb σ K:=by
 unfold kf at h
 split at h
 ·rename_i i hi
  have hc:=List.find?_some hi
  split at h
  ·rename_i d op ty pos after qZ
   simp only[RY,qZ,Bool.and_eq_true,Bool.not_eq_true']at hc
   exact Sg qZ hc.2.2 hc.2.1.2 hc.1.1.1 (l7 h)
  ·exact h.elim
 ·have h:=HM h
  split at h
  ·rename_i hr
   obtain⟨ha,h⟩:=cond_false h
   exact KE nZ oE (fun _=>h) (by rw[hr];trivial)
  ·rename_i i r hr
   refine KE nZ oE (fun ha=>?_) (by rw[hr];exact h.h)
   exfalso
   have oR:i∈HS ops done mb:=by rw[hr];simp
   unfold HS at oR
   rw[List.mem_filter]at oR
   have h2:=List.all_eq_true.1 ha i oR.1
   have h3:=oR.2
   simp only[Bool.and_eq_true,Bool.not_eq_true']at h3
   rw[h3.1.1,h3.1.2]at h2
   cases h2
theorem FA{P:Program}{E:Env}{n:Nat}{ops:Array Oper}{σ:St}{K:St→Prop}(h:C8 P E n ops (O9 ops) [] σ K):D1 P E n ops ops.size (O9 ops) σ K:=fun a w hs =>
 h (fun m hm=>by cases hm) (fun m hm=>by cases hm) rfl ops.size (O9 ops) a w (by simp[O9]) (fun i h=>h) (fun i h=>.inl h) (by
  have:=List.count_le_length (a:=false) (l:=O9 ops)
  simpa [O9]using this) hs
theorem H9{P:Program}{E:Env}{n:Nat}{ops:Array Oper}{σ:St}{Q:Exit→St→Prop}{id:Nat}[hm:Iz P](S:St)(h:KC (O9 ops) fun d=>CW σ.sl fun sl=>C8 P E n ops d [] ⟨sl,σ.nx,σ.hp⟩ fun σ'=>St.le E n σ' S)(k:Q .normal S):CU P E n id ops σ Q:=JF S (FA (l7 (ET h))) k
def kg(S:Nat→List AV→Prop):List Nat→List AV→Prop
 |[],l=>l=[]
 |t::r,l=>∃a b,S t a∧kg S r b∧l=a++b
def ki(S:List AV→Prop):Nat→List AV→Prop
 |0,l=>l=[]
 |n+1,l=>∃a b,S a∧ki S n b∧l=a++b
def JI(P:Program)(tot:Nat):List Field→Nat→Bool
 |[],o=>Nat.beq o tot
 |f::r,o=>Nat.beq f.offset o && JI P tot r (o+P.cellsOf f.type)
def Sh(P:Program):Nat→TypeId→List AV→Prop
 |0,_,_=>False
 |f+1,t,l=>match P.underlying t with
  |some .bool=>∃b,l=[.v (.bool b)]
  |some (.int k)=>∃n,(Lit.int k n).wf=true∧l=[.v (.int k n)]
  |some .string=>∃s,s.length≤maxLen∧l=[.str s]
  |some (.slice e)=>∃ls,ls.length≤maxLen∧(∀x∈ls,Sh P f e x)∧l=[.sl (P.cellsOf e) ls]
  |some (.struct fs)=>JI P (P.cellsOf t) fs.toList 0=true→kg (Sh P f) (fs.toList.map (·.type)) l
  |some (.array n e)=>P.cellsOf t=n*P.cellsOf e→ki (Sh P f e) n l
  |_=>True
def EI:Nat→Prop:=fun _=>False
def DD(w:World)(l:List AV)(cs:List Value):Prop:=l.length=cs.length∧∀(j:Nat) x y,l[j]?=some x→cs[j]?=some y→Im EI w x y
theorem DD.nil{w:World}:DD w [] []:=⟨rfl,fun j x y h=>by simp at h⟩
theorem DD.one{w:World}{a:AV}{v:Value}(h:Im EI w a v):DD w [a] [v]:=⟨rfl,fun j x y hx hy=>by
 cases j with
 |zero=>simp at hx hy;subst hx hy;exact h
 |succ j=>simp at hx⟩
theorem DD.app{w:World}{l m:List AV}{cs ds:List Value}(h:DD w l cs)(h':DD w m ds):DD w (l++m) (cs++ds):=by
 refine⟨by rw[List.length_append,List.length_append,h.1,h'.1],fun j x y hx hy=>?_⟩
 by_cases hj:j<l.length
 ·rw[List.getElem?_append_left hj]at hx
  rw[List.getElem?_append_left (by rw[←h.1];exact hj)]at hy
  exact h.2 j x y hx hy
 ·rw[List.getElem?_append_right (by omega)]at hx
  rw[List.getElem?_append_right (by rw[←h.1];omega),←h.1]at hy
  exact h'.2 _ x y hx hy
theorem DD.raw{w:World}(cs:List Value):DD w (cs.map .v) cs:=⟨by simp,fun j x y hx hy=>by
 rw[List.getElem?_map,hy]at hx
 simp at hx;subst hx;exact .v _⟩
theorem HU{α β:Type}{f:α→Option β}:∀{l:List α} {r:List β},l.mapM f=some r→r.length=l.length∧∀(i:Nat) x,l[i]?=some x→∃y,r[i]?=some y∧f x=some y
 |[],r,h=>by simp at h;subst h;simp
 |a::l,r,h=>by
  rw[List.mapM_cons]at h
  cases ha:f a with
  |none=>rw[ha]at h;cases h
  |some y =>
   rw[ha]at h
   cases hl:l.mapM f with
   |none=>rw[hl]at h;cases h
   |some r' =>
    rw[hl]at h
    cases h
    obtain⟨h1,h2⟩:=HU hl
    refine⟨by simp[h1],fun i x hi=>?_⟩
    cases i with
    |zero=>simp at hi;subst hi;exact⟨y,rfl,ha⟩
    |succ i=>simp at hi;simpa using h2 i x hi
theorem VM{w:World}{base:Nat}{a:Addr}{n:Nat}{cs:List Value}(h:w.cells? base a n=some cs):cs.length=n∧∀j,j<n→∃v,cs[j]?=some v∧w.cell? (a.add j)=some v:=by
 unfold World.cells? at h
 split at h
 ·obtain⟨h1,h2⟩:=HU h
  rw[List.length_range]at h1
  refine⟨h1,fun j hj=>?_⟩
  obtain⟨y,hy,hc⟩:=h2 j j (by rw[List.getElem?_range hj])
  exact⟨y,hy,hc⟩
 ·cases h
theorem dq{α:Type}(n:Nat)(f:Nat→α)(i:Nat):((List.range n).map f)[i]?=if i<n then some (f i)else none:=by
 by_cases h:i<n
 ·simp[h]
 ·simp[h]
section
variable {H:Type} {enc:TypeId×Value→H} {P:Program} {w:World} {base:Nat} {spare:Nat→Bool} {held:Bool}
theorem Pu{S:Nat→List AV→Prop}{T:Nat→List Value→Option (DataW H×List MemPlace)}(hT:∀t cs y,T t cs=some y→∃l,S t l∧DD w l cs){tot:Nat}(cs:List Value)(oz:cs.length=tot):
  ∀(fs:List Field) (o:Nat) {r},JI P tot fs o=true→(fs.mapM fun f=>T f.type ((cs.drop f.offset).take (P.cellsOf f.type)))=some r→∃l,kg S (fs.map (·.type)) l∧DD w l (cs.drop o)
 |[],o,r,hc,h=>by
  have:o=tot:=Nat.eq_of_beq_eq_true hc
  exact⟨[],rfl,by rw[List.drop_of_length_le (by omega)];exact .nil⟩
 |f::fs,o,r,hc,h=>by
  simp only[JI,Bool.and_eq_true]at hc
  have ho:f.offset=o:=Nat.eq_of_beq_eq_true hc.1
  rw[List.mapM_cons]at h
  cases ha:T f.type ((cs.drop f.offset).take (P.cellsOf f.type))with
  |none=>rw[ha]at h;cases h
  |some y =>
   rw[ha]at h
   cases hl:(fs.mapM fun f=>T f.type ((cs.drop f.offset).take (P.cellsOf f.type)))with
   |none=>rw[hl]at h;cases h
   |some r' =>
    obtain⟨a,ha1,wP⟩:=hT _ _ _ ha
    obtain⟨b,pG,oD⟩:=Pu hT cs oz fs _ hc.2 hl
    refine⟨a++b,⟨a,b,ha1,pG,rfl⟩,?_⟩
    have:=wP.app oD
    rw[ho,←List.drop_drop,List.take_append_drop]at this
    exact this
theorem Si{S:List AV→Prop}{c:Nat}{T:List Value→Option (DataW H×List MemPlace)}(hT:∀cs y,T cs=some y→∃l,S l∧DD w l cs)(cs:List Value):
  ∀(n i:Nat),cs.length=(i+n)*c→(∀k,k<n→∃y,T ((cs.drop ((i+k)*c)).take c)=some y)→∃l,ki S n l∧DD w l (cs.drop (i*c))
 |0,i,hl,_=>⟨[],rfl,by rw[List.drop_of_length_le (by rw[hl,Nat.add_zero];exact Nat.le_refl _)];exact .nil⟩
 |n+1,i,hl,h=>by
  obtain⟨y,hy⟩:=h 0 (by omega)
  obtain⟨a,ha1,wP⟩:=hT _ _ hy
  obtain⟨b,pG,oD⟩:=Si hT cs n (i+1) (by rw[hl];congr 1;omega) (fun k hk=>by
   obtain⟨z,hz⟩:=h (k+1) (by omega)
   exact⟨z,by rw[show i+1+k=i+(k+1) by omega];exact hz⟩)
  refine⟨a++b,⟨a,b,ha1,pG,rfl⟩,?_⟩
  have:=wP.app oD
  rw[Nat.add_zero,Nat.add_mul,Nat.one_mul,←List.drop_drop,List.take_append_drop]at this
  exact this
theorem gy:∀(ng:Nat) (t:TypeId) (cs:List Value) (y:DataW H×List MemPlace),DataW.trod enc P w base spare held ng t cs=some y→∃l,Sh P ng t l∧DD w l cs:=by
 intro ng
 induction ng with
 |zero=>intro t cs y h;simp[DataW.trod]at h
 |succ f ih =>
  intro t cs y h
  have raw:(∀l,Sh P (f+1) t l)→∃l,Sh P (f+1) t l∧DD w l cs:=fun oU=>⟨_,oU _,.raw cs⟩
  unfold DataW.trod at h
  split at h
  ·rename_i ht
   exact⟨[.v (.bool _)],by simp only[Sh,ht];exact⟨_,rfl⟩,.one (.v _)⟩
  ·rename_i k k' n ht
   split at h
   ·rename_i hk
    obtain⟨rfl,hwf⟩:=hk
    exact⟨[.v (.int k' n)],by simp only[Sh,ht];exact⟨_,hwf,rfl⟩,.one (.v _)⟩
   ·cases h
  ·rename_i ht;exact raw fun l=>by simp only[Sh,ht]
  ·rename_i s ht
   split at h
   ·rename_i hs
    refine⟨[.str s.data.toList],by simp only[Sh,ht];exact⟨_,by rw[Array.length_toList];exact hs,rfl⟩,.one ?_⟩
    have:=Im.str (U:=EI) (w:=w) s.data.toList
    simpa using this
   ·cases h
  ·rename_i ht;exact raw fun l=>by simp only[Sh,ht]
  ·rename_i ht;exact raw fun l=>by simp only[Sh,ht]
  ·rename_i e ht
   exact⟨[.sl (P.cellsOf e) []],by simp only[Sh,ht];exact⟨[],Nat.zero_le _,(fun x hx=>by cases hx),rfl⟩,.one (.slnil _)⟩
  ·rename_i e a len cap ht
   simp only at h
   split at h
   ·rename_i hb
    obtain⟨pW,vD,sv⟩:=hb
    rw[Option.bind_eq_some_iff]at h
    obtain⟨elems,nX,_⟩:=h
    obtain⟨_,rz⟩:=HU nX
    have key:∀i,∃p:List AV×List Value,i<len→Sh P f e p.1∧DD w p.1 p.2∧p.2.length=P.cellsOf e∧∀j,j<P.cellsOf e→∃v,p.2[j]?=some v∧w.cell? (a.add (i*P.cellsOf e+j))=some v:=by
     intro i
     by_cases hi:i<len
     ·obtain⟨z,_,hz⟩:=rz i i (by rw[List.getElem?_range hi])
      rw[Option.bind_eq_some_iff]at hz
      obtain⟨csi,oz,yC⟩:=hz
      obtain⟨nZ,oX⟩:=VM oz
      obtain⟨l,hsh,hp⟩:=ih _ _ _ yC
      exact⟨(l,csi),fun _=>⟨hsh,hp,nZ,fun j hj=>by
       obtain⟨v,hv,hc⟩:=oX j hj
       rw[DH]at hc
       exact⟨v,hv,hc⟩⟩⟩
     ·exact⟨([],[]),fun h=>absurd h hi⟩
    have se:=fun i=>Classical.choose_spec (key i)
    generalize hg:(fun i=>Classical.choose (key i))=g at se
    have gi:∀i,Classical.choose (key i)=g i:=fun i=>congrFun hg i
    simp only[gi]at se
    refine⟨[.sl (P.cellsOf e) ((List.range len).map fun i=>(g i).1)],?_,.one ?_⟩
    ·simp only[Sh,ht]
     refine⟨_,by simp;omega,fun x hx=>?_,rfl⟩
     obtain⟨i,hi,rfl⟩:=List.mem_map.1 hx
     exact(se i (List.mem_range.1 hi)).1
    ·have hl:((List.range len).map fun i=>(g i).1).length=len:=by simp
     have:=Im.sl (U:=EI) (w:=w) (P.cellsOf e) ((List.range len).map fun i=>(g i).1) a cap (fun i j=>(g i).2.getD j undef) (by rw[hl];exact vD) sv (fun _ _ h=>h)
      (fun x hx=>by
       obtain⟨i,hi,rfl⟩:=List.mem_map.1 hx
       obtain⟨_,h1,h2,_⟩:=se i (List.mem_range.1 hi)
       rw[h1.1,h2])
      (fun i hi j hj=>by
       rw[hl]at hi
       obtain⟨_,_,_,h3⟩:=se i hi
       obtain⟨v,hv,hc⟩:=h3 j hj
       simp only[List.getD_eq_getElem?_getD,hv]
       exact hc)
      (fun i x hx j u hu=>by
       rw[dq]at hx
       split at hx
       ·rename_i hi
        cases hx
        obtain⟨_,h1,h2,h3⟩:=se i hi
        have hj:j<P.cellsOf e:=by rw[←h2,←h1.1];exact(List.getElem?_eq_some_iff.1 hu).1
        obtain⟨v,hv,_⟩:=h3 j hj
        simp only[List.getD_eq_getElem?_getD,hv]
        exact h1.2 j u v hu hv
       ·cases hx)
     rw[hl]at this
     exact this
   ·cases h
  ·rename_i fs ht
   split at h
   ·rename_i hl
    rw[Option.map_eq_some_iff]at h
    obtain⟨r,hr,_⟩:=h
    by_cases hc:JI P (P.cellsOf t) fs.toList 0=true
    ·obtain⟨l,h1,h2⟩:=Pu (S:=Sh P f) (fun t cs y h=>ih t cs y h) _ hl fs.toList 0 hc hr
     exact⟨l,by simp only[Sh,ht];exact fun _=>h1,by simpa using h2⟩
    ·exact raw fun l=>by simp only[Sh,ht];exact fun h=>absurd h hc
   ·cases h
  ·rename_i n e ht
   split at h
   ·rename_i hl
    rw[Option.map_eq_some_iff]at h
    obtain⟨r,hr,_⟩:=h
    by_cases hc:P.cellsOf t=n*P.cellsOf e
    ·obtain⟨_,oq⟩:=HU hr
     obtain⟨l,h1,h2⟩:=Si (S:=Sh P f e) (c:=P.cellsOf e) (T:=fun cs=>DataW.trod enc P w base spare held f e cs) (fun cs y h=>ih e cs y h) _ n 0 (by rw[hl,hc,Nat.zero_add]) (fun k hk=>by
      obtain⟨z,_,hz⟩:=oq k k (by rw[List.getElem?_range hk])
      exact⟨z,by rw[Nat.zero_add];exact hz⟩)
     exact⟨l,by simp only[Sh,ht];exact fun _=>h1,by simpa using h2⟩
    ·exact raw fun l=>by simp only[Sh,ht];exact fun h=>absurd h hc
   ·cases h
  all_goals first
   |cases h;done
   |(rename_i ht;exact raw (by intro l;simp only[Sh,ht]))
   |(rename_i ht;split at h<;>first|(cases h;done)|exact raw (by intro l;simp only[Sh,ht]))
   |(rename_i ht _;exact raw (by intro l;simp only[Sh,ht]))
def BD(P:Program)(t:TypeId)(a:AV):Prop:=match P.underlying t with
 |some (.struct _)|some (.array _ _)=>∃ng l,a=.agg l∧Sh P ng t l
 |_=>∃ng,Sh P ng t [a]
theorem Sj{v:Value}(h:∀cs,v≠.agg cs):v.cells=#[v]:=by
 cases v<;>first|rfl|exact absurd rfl (h _)
theorem VN{r:Reach}{b0:Nat}{t:TypeId}{v:Value}(h:Cell.okWide P w r b0 t v):∀cs,v≠.agg cs:=by
 rintro cs rfl
 simp only[Cell.okWide,Cell.ok]at h
 split at h<;>simp_all
theorem dr{r:Reach}{b0:Nat}{t:TypeId}{v:Value}{d:DataW H}{ps:List MemPlace}(pS:Value.okWide P w r b0 t v)(h:DataW.Trod enc P w base spare held t v d ps):∃a,BD P t a∧Im EI w a v:=by
 obtain⟨ng,h⟩:=h
 obtain⟨l,hs,hp⟩:=gy ng t _ _ h
 have one:(∀cs,v≠.agg cs)→∃a,l=[a]∧Im EI w a v:=by
  intro yd
  rw[Sj yd]at hp
  obtain⟨h1,h2⟩:=hp
  match l,h1,h2 with
  |[a],_,h2=>exact⟨a,rfl,h2 0 a v rfl rfl⟩
 have agg:∀cs,v=.agg cs→Im EI w (.agg l) v:=by
  rintro cs rfl
  have uC:DD w l cs.toList:=hp
  have:=Im.agg (U:=EI) (w:=w) l cs.toList uC.1 uC.2
  simpa using this
 unfold BD
 unfold Value.okWide at pS
 split at pS
 ·rename_i ht
  obtain⟨cs,hv,_⟩:=pS
  exact⟨.agg l,(by simp only[ht];exact⟨ng,l,rfl,hs⟩),agg cs hv⟩
 ·rename_i ht
  obtain⟨cs,hv,_⟩:=pS
  exact⟨.agg l,(by simp only[ht];exact⟨ng,l,rfl,hs⟩),agg cs hv⟩
 ·obtain⟨a,rfl,ha⟩:=one (VN pS)
  refine⟨a,?_,ha⟩
  split
  all_goals first|exact⟨ng,hs⟩|(exfalso;simp_all)
def DK(P:Program):List TypeId→List AV→Prop
 |[],l=>l=[]
 |t::ts,l=>∃a r,l=a::r∧BD P t a∧DK P ts r
theorem Pv{r:Reach}{b0:Nat}:∀{ts:List TypeId} {vs:List Value} {ds:List (DataW H)} {ps:List MemPlace},(∀(j:Nat) t v,ts[j]?=some t→vs[j]?=some v→Value.okWide P w r b0 t v)→DataW.TrodAll enc P w base spare held ts vs ds ps →
  ds.length=ts.length∧∃l,DK P ts l∧l.length=vs.length∧∀(j:Nat) a v,l[j]?=some a→vs[j]?=some v→Im EI w a v
 |[],[],[],ps,_,_=>⟨rfl,[],rfl,rfl,fun j a v h=>by simp at h⟩
 |[],[],_::_,ps,_,h=>h.elim
 |[],_::_,_,ps,_,h=>h.elim
 |_::_,[],_,ps,_,h=>h.elim
 |_::_,_::_,[],ps,_,h=>h.elim
 |t::ts,v::vs,d::ds,ps,pS,h=>by
  obtain⟨p,q,h1,h2,_⟩:=h
  obtain⟨a,ha,hi⟩:=dr (pS 0 t v rfl rfl) h1
  obtain⟨hd,l,hl,nZ,hr⟩:=Pv (ts:=ts) (vs:=vs) (fun j t v ht hv=>pS (j+1) t v (by simpa using ht) (by simpa using hv)) h2
  refine⟨by simp[hd],a::l,⟨a,l,rfl,ha,hl⟩,by simp[nZ],fun j x y hx hy=>?_⟩
  cases j with
  |zero=>simp at hx hy;subst hx hy;exact hi
  |succ j=>exact hr j x y (by simpa using hx) (by simpa using hy)
theorem Pw(hl:laidOutB P=true){w':World}(hb:Below w.heap.size w w'):∀{ts:List TypeId} {vs:List Value} {ds:List (DataW H)} {ps:List MemPlace},(ts.all fun t=>P.readableRec t && decide (t<P.types.size))=true→(∀x∈ps,x.block<w.heap.size) →
  DataW.TrodAll enc P w 0 (fun _=>true) true ts vs ds ps→DataW.TrodAll enc P w' 0 (fun b=>decide (b<w.heap.size)) true ts vs ds ps
 |[],[],[],ps,_,_,h=>h
 |[],[],_::_,ps,_,_,h=>h.elim
 |[],_::_,_,ps,_,_,h=>h.elim
 |_::_,[],_,ps,_,_,h=>h.elim
 |_::_,_::_,[],ps,_,_,h=>h.elim
 |t::ts,v::vs,d::ds,ps,hr,nf,h=>by
  obtain⟨p,q,h1,h2,rfl⟩:=h
  rw[List.all_cons,Bool.and_eq_true,Bool.and_eq_true]at hr
  exact⟨p,q,Below.trod hl hr.1.1 (of_decide_eq_true hr.1.2) h1 hb fun x hx=>nf x (by simp[hx]),Pw hl hb hr.2 (fun x hx=>nf x (by simp[hx])) h2,rfl⟩
theorem HV{f:Nat}{fn:Func}{s:ChangeSpec}{tb:TypeId}{handsOn:Bool}{W:World}{args:Array Value}{ds gs:List (DataW H)}{before:List MemPlace}{b0:Nat}{r:Reach}
  (hl:laidOutB P=true) (hr:(fn.params.toList.all fun t=>P.readableRec t && decide (t<P.types.size))=true) (rR:P.underlying tb=some .bool) (wE:fn.resultTypes=#[tb])
  (uw:s.vars=[]) (hs:∀ds:List (DataW H),ds.length=fn.params.toList.length→s.fn H (ds++[])={ results:=[.lit (.bool true)],args:=ds })
  (rT:∀l,DK P fn.params.toList l→A3 P f l (.b true))
  (oa:P3 EI W) (hval:∀(j:Nat) t v,fn.params[j]?=some t→args[j]?=some v→Value.okWide P W r b0 t v)
  (hW:DataW.Whole enc P fn.params.toList s.vars false W args.toList ds gs before) :
  Calls P f args W fun e W'=>∃v,e=.returned v∧s.post enc P fn false true handsOn false W args v W':=by
 have hW0:=hW
 obtain⟨p,q,hA,hV,rfl,hfz,wW⟩:=hW
 obtain⟨qW,l,hsh,sO,oc⟩:=Pv (r:=r) (b0:=b0) (fun j t v ht hv=>hval j t v (by simpa using ht) (by simpa using hv)) hA
 have nf:∀x∈p++q,x.block<W.heap.size:=fun x hx=>hW0.lt x hx
 rw[uw]at hV
 obtain⟨rfl,rfl⟩:gs=[]∧q=[]:=by
  cases gs with
  |nil=>exact⟨rfl,hV⟩
  |cons a b=>exact hV.elim
 have hc:=(rT l hsh).2 EI W args.toList (fun k hk=>hk.elim) oa sO oc
 have ea:args.toList.toArray=args:=by simp
 rw[ea]at hc
 refine hc.mono fun e W' ⟨v,he,hi,hb⟩=>?_
 subst he
 cases hi
 refine⟨_,rfl,ds,[],p++[],[],p,[],hW0,?_,?_,?_,?_,fun h=>by cases h⟩
 ·rw[wE,hs ds qW]
  exact⟨[],[],shut_bool rR true,rfl,rfl⟩
 ·rw[hs ds qW]
  exact Pw hl hb hr (fun x hx=>nf x (by simp[hx])) hA
 ·rw[uw,hs ds qW]
  rfl
 ·exact Below.frame hb _
end
section
variable {P:Program}
theorem aW{k:IntKind}{n:Int}(h:(Lit.int k n).wf=true):k.min≤n∧n≤k.max:=by
 simpa [Lit.wf]using h
theorem wf_u8{n:Int}(h:(Lit.int .u8 n).wf=true):0≤n∧n<256:=by
 obtain⟨h1,h2⟩:=aW h
 have e1:IntKind.min .u8=0:=rfl
 have e2:IntKind.max .u8=255:=rfl
 omega
theorem wf_i64{n:Int}(h:(Lit.int .i64 n).wf=true):-9223372036854775808≤n∧n≤9223372036854775807:=by
 obtain⟨h1,h2⟩:=aW h
 have e1:IntKind.min .i64=-9223372036854775808:=by decide
 have e2:IntKind.max .i64=9223372036854775807:=by decide
 omega
theorem aX{f t:Nat}{l:List AV}{k:IntKind}(ht:P.underlying t=some (.int k))(h:Sh P f t l):∃n,(Lit.int k n).wf=true∧l=[.v (.int k n)]:=by
 cases f with
 |zero=>exact h.elim
 |succ f=>simpa only[Sh,ht]using h
theorem dt{f t e c:Nat}{l:List AV}(ht:P.underlying t=some (.slice e))(hc:P.cellsOf e=c)(h:Sh P f t l):∃f' ls,ls.length≤maxLen∧(∀x∈ls,Sh P f' e x)∧l=[.sl c ls]∧f=f'+1:=by
 cases f with
 |zero=>exact h.elim
 |succ f =>
  simp only[Sh,ht]at h
  obtain⟨ls,h1,h2,h3⟩:=h
  exact⟨f,ls,h1,h2,by rw[h3,hc],rfl⟩
def YB(P:Program)(t:Nat):Bool:=match P.underlying t with
 |some (.struct _)|some (.array _ _)=>true
 |_=>false
theorem WN{t:Nat}{a:AV}(ht:YB P t=false)(h:BD P t a):∃ng,Sh P ng t [a]:=by
 unfold BD at h
 unfold YB at ht
 split at ht
 ·cases ht
 ·cases ht
 ·split at h
  all_goals first|exact h|(exfalso;simp_all)
theorem gz{t:Nat}{a:AV}(ht:P.underlying t=some (.int .i64))(h:BD P t a):∃n:Int,(-9223372036854775808≤n∧n≤9223372036854775807)∧a=.i n:=by
 obtain⟨f,h⟩:=WN (by simp[YB,ht]) h
 obtain⟨n,hw,e⟩:=aX ht h
 exact⟨n,wf_i64 hw,by simpa using e⟩
theorem aY{t e c:Nat}{a:AV}(ht:P.underlying t=some (.slice e))(hc:P.cellsOf e=c)(h:BD P t a):∃f ls,ls.length≤maxLen∧(∀x∈ls,Sh P f e x)∧a=.sl c ls:=by
 obtain⟨f,h⟩:=WN (by simp[YB,ht]) h
 obtain⟨f',ls,h1,h2,h3,_⟩:=dt ht hc h
 exact⟨f',ls,h1,h2,by simpa using h3⟩
theorem Sk{α:Type}{F:α→List AV}{R:α→Prop}:∀{ls:List (List AV)},(∀x∈ls,∃y,R y∧x=F y)→∃l:List α,ls=l.map F∧∀y∈l,R y
 |[],_=>⟨[],rfl,fun y h=>by cases h⟩
 |x::r,h=>by
  obtain⟨y,hy,e⟩:=h x (by simp)
  obtain⟨l,hl,hr⟩:=Sk (ls:=r) fun z hz=>h z (by simp[hz])
  refine⟨y::l,by simp[e,hl],fun z hz=>?_⟩
  rcases List.mem_cons.1 hz with rfl|hz
  ·exact hy
  ·exact hr z hz
abbrev N9(b:UInt8):List AV:=[.v (.int .u8 b.toNat)]
theorem aZ{t e:Nat}{a:AV}(ht:P.underlying t=some (.slice e))(he:P.underlying e=some (.int .u8))(hc:P.cellsOf e=1)(h:BD P t a):∃l:List UInt8,l.length≤maxLen∧a=.sl 1 (l.map N9):=by
 obtain⟨f,ls,h1,h2,h3⟩:=aY ht hc h
 obtain⟨l,hl,_⟩:=Sk (F:=N9) (R:=fun _=>True) (ls:=ls) (fun x hx=>by
  obtain⟨n,hw,e⟩:=aX he (h2 x hx)
  obtain⟨g1,g2⟩:=wf_u8 hw
  refine⟨UInt8.ofNat n.toNat,trivial,?_⟩
  rw[e,N9,UInt8.toNat_ofNat']
  rw[show ((n.toNat % 2 ^ 8:Nat):Int)=n by omega])
 exact⟨l,by rw[hl,List.length_map]at h1;exact h1,by rw[h3,hl]⟩
end
theorem YC{α:Type}{l:List UInt8}{f:UInt8→α}{k:Nat}{F:α→Prop}(h:k<l.length)(kk:∀x,l[k]?=some x→x.toNat<256→F (f x)):P5 (l.map f) (k:Int) F:=AJ h fun x hx=>kk x hx x.toNat_lt
theorem aa{α:Type}{l:List UInt8}{f:UInt8→α}{i:Int}{F:α→Prop}(h0:0≤i)(h:i<l.length)(kk:∀x,l[i.toNat]?=some x→x.toNat<256→F (f x)):P5 (l.map f) i F:=m9 h0 h fun x hx=>kk x hx x.toNat_lt
theorem hH{l:List UInt8}{i:Int}{F:UInt8→Prop}(h0:0≤i)(h:i<l.length)(kk:∀x,l[i.toNat]?=some x→x.toNat<256→F x):P5 l i F:=aB h0 h fun x hx=>kk x hx x.toNat_lt
theorem iB{P:Program}{S T:Nat}{k':IntKind}{b:UInt8}{F:AV→Prop}[R8 P T .i64][R8 P S k'](kk:F (.v (.int .i64 b.toNat))):Af P S T (.v (.int k' b.toNat)) F:=gq (P4 (by have:=b.toNat_lt;omega)) kk
theorem b9{P:Program}{E:Env}{n:Nat}{ops:Array Oper}{rest:List Oper}{σ:St}{K:St→Prop}{d:Nat}{ty:TypeId}{pos:String}{after:Array Edge}{T len:Nat}{parts:List (Nat×Operand)}(hd:Nat.blt d n=true)
  (h:match Az (F4 σ) parts with
   |some ps=>Ey P T fun e sz _ _=>cond (CM 0 ps && q9 sz (M4 ps) && Nat.beq ps.length len && Nat.blt 0 sz && Nat.blt e L0) (F8 (len*sz≤16777216) (Dk σ.hp ps (Mx (M4 ps) (G8 σ.nx fun nx=>B1 P E n ops rest ((σ.new (.row e sz 0 (M4 ps))).put d (.row nx 0 len)) K)))) False
   |none=>False):B1 P E n ops (⟨some d,.buildSlice T len ⟨parts⟩,ty,pos,after,none⟩::rest) σ K:=by
 split at h
 ·rename_i ps he
  obtain⟨⟨e,sz,bs,z,ts,tz,tb,hz,h⟩⟩:=h
  obtain⟨hc,h⟩:=cond_false h
  simp only[Bool.and_eq_true,Nat.beq_eq]at hc
  obtain⟨⟨⟨⟨h1,h2⟩,h3⟩,h4⟩,qg⟩:=hc
  obtain⟨h5,h⟩:=h
  obtain⟨h6,h⟩:=n6 h
  obtain⟨h7,h⟩:=EP h
  exact Mo (e:=e) (sz:=sz) (z:=z) he h6 h1 h2 h3 hz h5 (Nat.blt_eq▸h4) h7 (Nat.blt_eq▸qg) hd (D9 h)
 ·exact h.elim
def Sl:AV→Bool
 |.v x=>Xl x
 |.str _|.sl _ _|.iptr _|.fn _ _=>true
 |_=>false
theorem Kv{x:AV}(h:Sl x=true):b7 x:=by
 cases x<;>first|exact Iu h|trivial|cases h
theorem mx{m:List (List AV)}(h:(m.all fun el=>el.all Sl)=true):∀el∈m,∀u∈el,b7 u:=fun el nX u hu =>
 Kv (List.all_eq_true.1 (List.all_eq_true.1 h el nX) u hu)
theorem iC{α:Type}{l:List α}{f:α→List AV}(h:∀x,(f x).all Sl=true):∀el∈l.map f,∀u∈el,b7 u:=fun el nX u hu=>by
 obtain⟨x,_,rfl⟩:=List.mem_map.1 nX
 exact Kv (List.all_eq_true.1 (h x) u hu)
theorem G9(id:Nat){P:Program}{E:Env}{n:Nat}{ops:Array Oper}{σ:St}{Q:Exit→St→Prop}(h:CU P E n id ops σ Q):CU P E n id ops σ Q:=h
def WO(o:Oper):Bool:=o.dst.isSome && match o.op with
 |.box ..|.alloc ..|.makeSlice ..|.makeMap ..|.mapUpdate ..|.store ..=>false
 |.call ⟨.builtin .append,_,_⟩=>false
 |_=>true
theorem km{P:Program}{E:Env}{n:Nat}{ops:Array Oper}{σ:St}{id:Nat}{Q:Exit→St→Prop}[hm:Iz P](hq:ops.toList.all WO=true)(hd:ER ops=true)(h:DQ P E n ops ops.toList σ fun σ'=>Q .normal σ'):CU P E n id ops σ Q :=
 B5 hd h
theorem S9{P:Program}{E:Env}{n:Nat}{ops:Array Oper}{σ σ':St}{id:Nat}{Q:Exit→St→Prop}(h:St.le E n σ σ')(k:CU P E n id ops σ' Q):CU P E n id ops σ Q:=⟨u5 h k.h⟩
def Dc(sl:List (Nat×AV)):List Nat→List (Nat×AV)
 |[]=>[]
 |s::r=>match look sl s with
  |some x=>(s,x)::Dc sl r
  |none=>Dc sl r
def l9(hp:Hp):Nat→Hp
 |0=>[]
 |i+1=>match A5 hp i with
  |some b=>(i,some b)::l9 hp i
  |none=>l9 hp i
theorem HW{sl:List (Nat×AV)}:∀{l:List Nat} {s:Nat} {x:AV},look (Dc sl l) s=some x→look sl s=some x
 |[],s,x,h=>by cases h
 |t::r,s,x,h=>by
  unfold Dc at h
  cases hx:look sl t with
  |none=>rw[hx]at h;exact HW h
  |some y =>
   rw[hx]at h
   simp only[E6]at h
   by_cases e:t=s
   ·subst e;rw[if_pos rfl]at h;rw[hx];exact h
   ·rw[if_neg e]at h;exact HW h
theorem GG{hp:Hp}:∀(m i:Nat),A5 (l9 hp m) i=if i<m then A5 hp i else none
 |0,i=>by simp[l9,A5,look]
 |m+1,i=>by
  unfold l9
  cases hx:A5 hp m with
  |none =>
   simp only
   rw[GG m i]
   by_cases e:i=m
   ·subst e;simp[hx]
   ·by_cases h:i<m
    ·rw[if_pos h,if_pos (by omega)]
    ·rw[if_neg h,if_neg (by omega)]
  |some b =>
   simp only[F7]
   by_cases e:m=i
   ·subst e;simp[hx]
   ·rw[if_neg e,GG m i]
    by_cases h:i<m
    ·rw[if_pos h,if_pos (by omega)]
    ·rw[if_neg h,if_neg (by omega)]
theorem ab{E:Env}{n:Nat}{σ:St}(oh:List Nat):St.le E n σ ⟨Dc σ.sl oh,σ.nx,l9 σ.hp σ.nx⟩:=by
 rintro a w ⟨θ,h⟩
 have e:∀i,A5 (l9 σ.hp σ.nx) i=A5 σ.hp i:=by
  intro i
  rw[GG]
  by_cases hi:i<σ.nx
  ·rw[if_pos hi]
  ·rw[if_neg hi]
   cases hx:A5 σ.hp i with
   |none=>rfl
   |some b=>exact absurd (h.owns i b hx).1 hi
 have le:(cx E θ σ w).le (cx E θ ⟨Dc σ.sl oh,σ.nx,l9 σ.hp σ.nx⟩ w):=by
  refine⟨Nat.le_refl _,fun i hi=>.inl rfl,fun i hi e' ni v' l' hl=>⟨e',v',l',?_,.inr ⟨rfl,rfl,rfl⟩⟩,Nat.le_refl _,fun k hk _=>rfl,fun k hk hu=>?_⟩
  ·have oL:A5 (l9 σ.hp σ.nx) i=some (.row e' ni v' l'):=hl
   rw[e i]at oL;exact oL
  ·rcases hu with hu|⟨i,b,hi,oT⟩
   ·exact .inl hu
   ·have ou:A5 (l9 σ.hp σ.nx) i=some b:=hi
    rw[e i]at ou
    exact .inr ⟨i,b,ou,oT⟩
 refine⟨θ,h.size,h.defers,h.fr,fun s x hs=>(h.slots s x (HW hs)).mono le,fun i b hi=>?_,fun i j b b' k hi hj=>?_,fun i b k hi=>?_,h.X,⟨h.base.1,fun i hi=>(h.base.2 i hi).imp id fun ⟨h1,h2⟩=>⟨h1,fun ⟨e',sz,v,l,hl,hk⟩=>h2 ⟨e',sz,v,l,by rw[←e i];exact hl,hk⟩⟩⟩⟩
 ·have ou:A5 (l9 σ.hp σ.nx) i=some b:=hi
  rw[e i]at ou
  exact⟨(h.owns i b ou).1,(h.owns i b ou).2.mono le rfl (fun _=>rfl) fun k _=>rfl⟩
 ·have ou:A5 (l9 σ.hp σ.nx) i=some b:=hi
  have ny:A5 (l9 σ.hp σ.nx) j=some b':=hj
  rw[e i]at ou
  rw[e j]at ny
  exact h.apart i j b b' k ou ny
 ·have ou:A5 (l9 σ.hp σ.nx) i=some b:=hi
  rw[e i]at ou
  exact h.mine i b k ou
def YD(σ:St)(oh:List Nat)(F:St→Prop):Prop:=CW (Dc σ.sl oh) fun sl=>G8 σ.nx fun nx=>U3 (l9 σ.hp nx) fun hp=>F ⟨sl,nx,hp⟩
theorem Px{σ:St}{oh:List Nat}{F:St→Prop}(h:YD σ oh F):F ⟨Dc σ.sl oh,σ.nx,l9 σ.hp σ.nx⟩:=S4 (F:=fun hp=>F ⟨Dc σ.sl oh,σ.nx,hp⟩) (D9 (F:=fun nx=>U3 (l9 σ.hp nx) fun hp=>F ⟨Dc σ.sl oh,nx,hp⟩) (l7 h))
section rules
variable {P:Program} {E:Env} {n:Nat} {ops:Array Oper} {rest:List Oper} {σ:St} {K:St→Prop} {Q:Exit→St→Prop}
theorem FB{l:List Oper}(oh:List Nat)(h:YD σ oh fun σ'=>B1 P E n ops l σ' K):B1 P E n ops l σ K:=Em (ab oh) (Px (F:=fun σ'=>B1 P E n ops l σ' K) h)
theorem du{c:Code}(oh:List Nat)(h:YD σ oh fun σ'=>ND P E n c σ' Q):ND P E n c σ Q:=⟨u5 (ab oh) (Px (F:=fun σ'=>ND P E n c σ' Q) h).h⟩
theorem iD{o:Oper}{l:List AV}(i:Nat)(oh:List Nat)(h:YD (σ.frz i) oh fun σ'=>B1 P E n ops (o::rest) σ' K):e6 P E n ops o rest l σ K:=J9 i (FB oh h)
end rules
class T3(G:Prop) where
 sub:Prop
 imp:sub→G
theorem nQ{G:Prop}[s:T3 G](h:s.sub):G:=s.imp h
section
variable {P:Program} {E:Env} {n:Nat} {ops:Array Oper} {l:List Oper} {σ:St} {K:St→Prop} {Q:Exit→St→Prop} {c:Code} {S T f:Nat}
instance:T3 (B1 P E n ops l σ K):=⟨kS P E n ops l σ K,DI⟩
instance:T3 (C7 P E n c σ Q):=⟨Xp P E n c σ Q,aN⟩
instance:T3 (DQ P E n ops l σ K):=⟨de P E n ops l σ K,mQ⟩
instance {ag:Bool}{sz:Nat}{F:Bool→Nat→Prop}[G5 P T ag sz]:T3 (Lg P T F):=⟨F ag sz,mJ⟩
instance {z:List Value}{F:List AV→Prop}[H8 P T z]:T3 (Xi P T F):=⟨F (z.map d9),kL⟩
instance {off sz:Nat}{F:Nat→Nat→Prop}[D7 P S f off sz]:T3 (Ob P S f F):=⟨F off sz,mK⟩
instance {e sz:Nat}{F:Nat→Nat→Prop}[L7 P T e sz]:T3 (IW P T F):=⟨F e sz,mr⟩
instance {len e sz:Nat}{F:Nat→Nat→Prop}[Lc P T len e sz]:T3 (dG P T F):=⟨F len sz,mL (e:=e)⟩
instance {A:Prop}[j5 P T]:T3 (DZ P T A):=⟨A,kM⟩
instance {A:Prop}[Zk P T]:T3 (gF P T A):=⟨A,mt⟩
instance {A:Prop}[HA P T]:T3 (Mu P T A):=⟨A,gn⟩
instance {A:Prop}[Ep P T]:T3 (GZ P T A):=⟨A,gj⟩
instance {A:Prop}{k1 k2 k3:IntKind}[Jy P T k1 k2 k3]:T3 (Mt P T k1 k2 k3 A):=⟨A,gk⟩
instance {A:Prop}{k:IntKind}[Ej P T k]:T3 (HJ P T k A):=⟨A,mM⟩
instance {A:Prop}{k1 k2:IntKind}[HB P T k1 k2]:T3 (Ms P T k1 k2 A):=⟨A,gl⟩
instance {zs:List Value}{pl:List (Nat×Nat)}{F:List AV→List (Nat×Nat)→Prop}[H8 P T zs][L5 P T pl]:T3 (It P T F):=⟨F (zs.map d9) pl,gp⟩
instance {e sz bs:Nat}{z:List Value}{F:Nat→Nat→Nat→List AV→Prop}[L7 P T e sz][H8 P e z][O2 P e bs]:T3 (Ey P T F):=⟨F8 (z.length=sz) (F e sz bs (z.map d9)),fun h=>mN h.h h.k⟩
instance {k e:Nat}{t:TypeDesc}{z:Value}{F:TypeDesc→AV→Prop}[EM P T k e t z]:T3 (Xj P T F):=⟨F t (d9 z),mO⟩
instance (priority:=low) {α:Type}{l:List α}{F:Nat→Prop}:T3 (Oa l F):=⟨F l.length,mI⟩
instance {α β:Type}{l:List β}{f:β→α}{F:Nat→Prop}:T3 (Oa (l.map f) F):=⟨F l.length,gf⟩
instance (priority:=low) {k:IntKind}{m:Int}{F:AV→Prop}[R8 P S k][j5 P T]:T3 (Af P S T (.v (.int k m)) F):=⟨F (.str (Utf8.encode m).data.toList),aD⟩
instance {k k':IntKind}{m:Int}{F:AV→Prop}[R8 P T k][R8 P S k']:T3 (Af P S T (.v (.int k' m)) F):=⟨F (.v (.int k (k.wrap m))),dH⟩
instance (priority:=high) {k':IntKind}{b:UInt8}{F:AV→Prop}[R8 P T .i64][R8 P S k']:T3 (Af P S T (.v (.int k' b.toNat)) F):=⟨F (.v (.int .i64 b.toNat)),iB⟩
variable {A B p:Prop} {b:Bool}
instance (priority:=low):T3 (O8 b true A B):=⟨(b=true→A)∧(b=false→B),fun h=>dX h.1 h.2⟩
instance (priority:=low):T3 (O8 b false A B):=⟨(b=false→A)∧(b=true→B),fun h=>dY h.1 h.2⟩
instance (priority:=low):T3 (BM b A B):=⟨(b=true→A)∧(b=false→B),fun h=>kK h.1 h.2⟩
instance:T3 (O8 (!b) true A B):=⟨(b=false→A)∧(b=true→B),fun h=>aL h.1 h.2⟩
instance:T3 (O8 (!b) false A B):=⟨(b=true→A)∧(b=false→B),fun h=>aM h.1 h.2⟩
instance:T3 (BM (!b) A B):=⟨(b=false→A)∧(b=true→B),fun h=>gh h.1 h.2⟩
instance [Decidable p]:T3 (O8 (decide p) true A B):=⟨(p→A)∧(¬p→B),fun h=>dV h.1 h.2⟩
instance [Decidable p]:T3 (O8 (decide p) false A B):=⟨(¬p→A)∧(p→B),fun h=>dW h.1 h.2⟩
instance [Decidable p]:T3 (BM (decide p) A B):=⟨(p→A)∧(¬p→B),fun h=>kJ h.1 h.2⟩
instance (priority:=high) [Decidable p]:T3 (O8 (!decide p) true A B):=⟨(¬p→A)∧(p→B),fun h=>aJ h.1 h.2⟩
instance (priority:=high) [Decidable p]:T3 (O8 (!decide p) false A B):=⟨(p→A)∧(¬p→B),fun h=>aK h.1 h.2⟩
instance (priority:=high) [Decidable p]:T3 (BM (!decide p) A B):=⟨(¬p→A)∧(p→B),fun h=>gg h.1 h.2⟩
instance {F:List (Nat×AV)→Prop}:T3 (ke F):=⟨∀ex,F ex,mw⟩
variable {α β:Type}
class Py(G:Prop) where
 side:Prop
 sub:Prop
 imp:side→sub→G
instance (priority:=low) {l:List α}{i:Int}{F:α→Prop}:Py (P5 l i F):=⟨0≤i∧i<l.length,∀x,l[i.toNat]?=some x→F x,fun h k=>aB h.1 h.2 k⟩
instance {l:List β}{f:β→α}{i:Int}{F:α→Prop}:Py (P5 (l.map f) i F):=⟨0≤i∧i<l.length,∀x,l[i.toNat]?=some x→F (f x),fun h k=>m9 h.1 h.2 k⟩
instance (priority:=1010) {l:List β}{f:β→α}{k:Nat}{F:α→Prop}:Py (P5 (l.map f) (k:Int) F):=⟨0≤k∧k<l.length,∀x,l[k]?=some x→F (f x),fun h kk=>AJ h.2 kk⟩
instance (priority:=1020) {l:List UInt8}{i:Int}{F:UInt8→Prop}:Py (P5 l i F):=⟨0≤i∧i<l.length,∀x,l[i.toNat]?=some x→x.toNat<256→F x,fun h k=>hH h.1 h.2 k⟩
instance (priority:=1020) {l:List UInt8}{f:UInt8→α}{i:Int}{F:α→Prop}:Py (P5 (l.map f) i F):=⟨0≤i∧i<l.length,∀x,l[i.toNat]?=some x→x.toNat<256→F (f x),fun h k=>aa h.1 h.2 k⟩
instance (priority:=high) {l:List UInt8}{f:UInt8→α}{k:Nat}{F:α→Prop}:Py (P5 (l.map f) (k:Int) F):=⟨0≤k∧k<l.length,∀x,l[k]?=some x→x.toNat<256→F (f x),fun h kk=>YC h.2 kk⟩
instance {e sz:Nat}{l:List UInt8}{F:AV→Prop}[L7 P S e sz][R8 P e .u8][j5 P T]:T3 (Af P S T (.sl 1 (l.map fun b=>[.v (.int .u8 b.toNat)])) F):=⟨F (.str l),aC (e:=e) (sz:=sz)⟩
instance {e sz:Nat}{l:List UInt8}{F:AV→Prop}[j5 P S][L7 P T e sz][R8 P e .u8]:Py (Af P S T (.str l) F):=⟨0≤l.length∧l.length≤9223372036854775807,F (.sl 1 (l.map fun b=>[.v (.int .u8 b.toNat)])),fun h k=>Xk (e:=e) (sz:=sz) h.2 k⟩
class kn(G:Prop)(α β:outParam Type)(l:outParam (List β))(f:outParam (β→α))(i:outParam Int)(F:outParam (α→Prop)):Prop where
 eq:G=P5 (l.map f) i F
instance {l:List β}{f:β→α}{i:Int}{F:α→Prop}:kn (P5 (l.map f) i F) α β l f i F:=⟨rfl⟩
class dv(G:Prop)(α:outParam Type)(l:outParam (List α))(i:outParam Int)(F:outParam (α→Prop)):Prop where
 eq:G=P5 l i F
instance {l:List α}{i:Int}{F:α→Prop}:dv (P5 l i F) α l i F:=⟨rfl⟩
theorem Z1{G:Prop}{l:List β}{f:β→α}{i:Int}{x:β}{F:α→Prop}[s:kn G α β l f i F](kk:F (f x))(h:l[i.toNat]?=some x:=by assumption)(h0:0≤i:=by omega):G:=s.eq▸A2 h h0 kk
theorem Z2{G:Prop}{l:List α}{i:Int}{x:α}{F:α→Prop}[s:dv G α l i F](kk:F x)(h:l[i.toNat]?=some x:=by assumption)(h0:0≤i:=by omega):G:=s.eq▸EO h h0 kk
class ko(G:Prop)(p A:outParam Prop):Prop where
 imp:p→A→G
instance:ko (F8 p A) p A:=⟨J0⟩
theorem Z3{G:Prop}[s:ko G p A](k:A)(h:p:=by first|omega|exact Eq.refl _|exact⟨Eq.refl _,by omega⟩|(simp only[List.length_map];omega)|exact mx rfl|exact iC fun _=>rfl|(constructor<;>(simp only[M4,K4,List.length_cons,List.length_nil,List.length_map];omega))):G:=s.imp h k
theorem Z4{G:Prop}[s:Py G](k:s.sub)(h:s.side:=by (conv=>whnf);omega):G:=s.imp h k
class WP(G:Prop) where
 side:Prop
 sub:Prop
 imp:side→sub→G
instance {ng:Nat}{l:List Bool}:WP (D1 P E n ops ng l σ K):=⟨Nat.beq l.length ops.size=true∧Region.noSelect ops=true,kY P E n ops ng l σ K,fun h k=>gt h.2 h.1 k⟩
instance {done:List Bool}{mb:List MB}:WP (C8 P E n ops done mb σ K):=⟨Nat.beq done.length ops.size=true∧Gc ops=true,kf P E n ops done mb σ K,fun h k=>Pt h.1 h.2 k⟩
instance {done:List Bool}{mb:List MB}{base:List (Nat×AV)}{k:Nat}{ex:List (Nat×AV)}{σ':St}:WP (NI P E n ops done mb K base k ex σ') :=
 ⟨(σ'.sl,(y4 mb).map (look (σ'.sl.take k)),Db n (σ'.sl.take k) mb)=(σ'.sl.take k++ex,(y4 mb).map (look base),true)∧true=true,
  CW (σ'.sl.take k) fun xM=>U3 σ'.hp fun hp2=>G8 σ'.nx fun sq=>KC done fun tK=>RX mb fun mb2=>C8 P E n ops tK mb2 ⟨xM,sq,hp2⟩ K,
  fun h k=>gx (congrArg (·.1) h.1) (congrArg (·.2.1) h.1) (congrArg (·.2.2) h.1) k⟩
instance {id:Nat}[hm:Iz P]:WP (CU P E n id ops σ Q):=⟨ops.toList.all WO=true∧ER ops=true,DQ P E n ops ops.toList σ fun σ'=>Q .normal σ',fun h k=>km h.1 h.2 k⟩
theorem Z5{G:Prop}[s:WP G](k:s.sub)(h:s.side:=by exact⟨by rfl,by kernel_rfl⟩):G:=s.imp h k
theorem S1{G H:Prop}(k:H)(h:H→G:=by first|exact dR|exact dS|exact dT|exact dU|exact kH|exact kI|exact aN|exact nQ):G:=h k
theorem C1{f:Nat}{fn:Func}{code:Code}{args:List AV}{r:AV}{rs:Array ResultVar}(hf:P.funcs[f]?=some fn)(n:Nat)
  (h : (∀ a ∈ args,Rd a) → ∀ E,E.n0 = 0 → C7 P E n code ⟨Ag args 0,0,[]⟩ (D0 P rs r)) (pP : (fn.name == "runtime.NumGoroutine") = false := by kernel_rfl) (hb : fn.body = some code := by rfl) (hn : fn.ntmps = n := by rfl) (sa : fn.results = rs := by rfl)
  (oC:Nat.ble args.length n=true:=by rfl) (nz:J1 r=true:=by rfl) (pb:∀t T,rs=#[.cell t T]→∃sz,G5 P T true sz∧∀l,r=.agg l→l.length=sz:=by intro t T h;cases h):A3 P f args r :=
 VG hf pP hb hn sa oC nz pb h
theorem a8{f:Nat}{fn:Func}{code:Code}{args:List AV}{r:AV}{rs:Array ResultVar}{m0 m1:Nat}{hp0 hp1:Hp}(hf:P.funcs[f]?=some fn)(n:Nat)
  (h : ∀ E,E.n0 = m0 → C7 P E n code ⟨Ag args 0,m0,hp0⟩ (C6 P E n rs m1 hp1 r)) (pP : (fn.name == "runtime.NumGoroutine") = false := by kernel_rfl) (hb : fn.body = some code := by rfl) (hn : fn.ntmps = n := by rfl) (sa : fn.results = rs := by rfl)
  (oC:Nat.ble args.length n=true:=by rfl):B8 P f m0 hp0 args m1 hp1 r :=
 VI hf pP hb hn sa oC h
theorem nc{d f:Nat}{xs:List Operand}{ts:Array TypeId}{L args l:List AV}{r:AV}{m0 m1:Nat}{hp0 hp1:Hp}{ty:TypeId}{pos:String}{after:Array Edge}{rest:List Oper}(ι off:List Nat)(hc:B8 P f m0 hp0 args m1 hp1 r)
  (pq:l6 (F4 σ) xs=some L) (hL:AK (K5 ι) (K5 off) args=L) (hB:(U1 m0 args && Nat.beq ι.length m0 && CX ι σ.nx && AL hp0 hp1 m0 && L1 m0 hp0 && L1 m1 hp1 && Nat.ble m0 m1 && Nat.blt d n)=true) (oQ:Da σ.hp hp0 ι off m0)
  (k:U2 (N7 (gρ ι m0 σ.nx) (gs ι m0 σ.hp) r) fun r2=>U3 (U4 (gρ ι m0 σ.nx) (gs ι m0 σ.hp) hp1++σ.hp) fun hp2=>G8 (σ.nx+(m1-m0)) fun sq=>B1 P E n ops rest (St.put ⟨σ.sl,sq,hp2⟩ d r2) K) :
  e6 P E n ops ⟨some d,.call ⟨.value (.func f),⟨xs⟩,ts⟩,ty,pos,after,none⟩ rest l σ K:=by
 simp only[Bool.and_eq_true]at hB
 obtain⟨⟨⟨⟨⟨⟨⟨h1,h2⟩,h3⟩,h4⟩,h5⟩,h6⟩,h7⟩,h8⟩:=hB
 exact⟨F6 ι off hc pq hL h1 h2 h3 oQ h4 h5 h6 h7 h8 k⟩
end
theorem S2{G H:Prop}(k:H)(h:PLift H→G:=by intro k;(first|refine DI ?_|refine S1 ?_|refine Z1 ?_|refine Z2 ?_|refine Z3 ?_|refine Z4 ?_|refine Z5 ?_|(refine kd ?_ ?_;exact⟨by kernel_rfl,by decide⟩)|(refine Pt ?_ ?_ ?_;kernel_rfl;kernel_rfl));(try (conv=>whnf));exact k.down):G:=h ⟨k⟩
theorem V1{c A:Prop}(h:c)(f:c→False:=by first|(intro h0;omega)|exact absurd rfl):A:=(f h).elim
theorem T5{G A B:Prop}(a:A)(b:B)(h:A→B→G:=by first|exact kc|exact gw):G:=h a b
theorem T6{a b:Prop}(x:a)(y:b):a∧b:=⟨x,y⟩
theorem T4{G:Prop}(h:G:=by first|exact kZ|exact gv):G:=h
theorem A6{E:Env}{n m:Nat}{σ σ':St}(h0:E.n0=m)(hm:Nat.ble m σ'.nx=true:=by rfl)(hs:HH σ σ'.hp σ'.sl:=by repeat' (first|exact trivial|exact rfl|refine And.intro ?_ ?_|exact⟨_,rfl⟩))(hh:EN σ σ'.hp σ'.hp:=by repeat' (first|exact trivial|exact rfl|refine And.intro ?_ ?_|exact⟨_,rfl⟩))(hn:Nat.ble σ'.nx σ.nx=true:=by rfl)(hl:SI σ'.nx σ'.sl=true:=by rfl)(hb:L1 σ'.nx σ'.hp=true:=by rfl):St.le E n σ σ':=B3 h0 hm hs hh hn hl hb
end Go.Av
