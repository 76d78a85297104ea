/- Regions that draw their order, of quiet operations. Blocks under other numbers; calls that are handed memory of one's own. Regions that draw their order and write: every order, pure operations first. Regions that draw their order: what only makes or reads what nobody writes may happen at any time. What came in, read as abstract values; and a law's contract out of a call. One word for many steps of the walk: what a goal asks instead. -/
import Derived.Test.YtiphlhoclaogjaaGreatDoorJE2
import Derived.Orders
import Derived.Carry
import Derived.RowKit
import Derived.OpenShut
import Derived.KernelRfl
set_option linter.unusedSimpArgs false
set_option linter.unusedVariables false
set_option linter.unnecessarySimpa false
set_option maxHeartbeats 64000000
namespace Go.Av
open Go Go.RowKit
class Jh(P:Program):Prop where
 out:P.follows .mixedOrders=true
section congr
variable {P:Program} {hp:Hp} {ev ev':Operand→Option AV} {F:AV→Prop}
theorem GV:∀{l:List Operand},(∀x∈l,ev x=ev' x)→r9 ev l=r9 ev' l
 |[],_=>rfl
 |x::r,h=>by simp only[r9,h x (by simp),GV (l:=r) fun y hy=>h y (by simp[hy])]
theorem Ji:∀{l:List (Nat×Operand)},(∀x∈l.map (·.2),ev x=ev' x)→CM ev l=CM ev' l
 |[],_=>rfl
 |(i,x)::r,h=>by simp only[CM,h x (by simp),Ji (l:=r) fun y hy=>h y (by simp at hy ⊢;exact .inr hy)]
theorem QX{m:Nat}{o:Option Operand}(h:∀x,o=some x→ev x=ev' x):BP ev m o=BP ev' m o:=by
 cases o with
 |none=>rfl
 |some x=>simp only[BP,h x rfl]
theorem aP{op:Op}(h:∀x∈op.operands.toList,ev x=ev' x)(ho:GU P op ev hp F):GU P op ev' hp F:=by
 unfold GU at ho
 split at ho
 ·rename_i x;rw[h x (by simp[Op.operands])]at ho;exact ho
 ·rename_i x;rw[h x (by simp[Op.operands])]at ho;exact ho
 ·rename_i c a b
  rw[h c (by simp[Op.operands]),h a (by simp[Op.operands]),h b (by simp[Op.operands])]at ho;exact ho
 ·rename_i op T x y T2;rw[h x (by simp[Op.operands]),h y (by simp[Op.operands])]at ho;exact ho
 ·rename_i T x;rw[h x (by simp[Op.operands])]at ho;exact ho
 ·rename_i T x;rw[h x (by simp[Op.operands])]at ho;exact ho
 ·rename_i T x;rw[h x (by simp[Op.operands])]at ho;exact ho
 ·rename_i S x f;rw[h x (by simp[Op.operands])]at ho;exact ho
 ·rename_i T x y;rw[h x (by simp[Op.operands]),h y (by simp[Op.operands])]at ho;exact ho
 ·rename_i T x y;rw[h x (by simp[Op.operands]),h y (by simp[Op.operands])]at ho;exact ho
 ·rename_i x;rw[h x (by simp[Op.operands])]at ho;exact ho
 ·rename_i S T x;rw[h x (by simp[Op.operands])]at ho;exact ho
 ·rename_i x T;rw[h x (by simp[Op.operands,Call.operands])]at ho;exact ho
 ·rename_i x y T U;rw[h x (by simp[Op.operands,Call.operands]),h y (by simp[Op.operands,Call.operands])]at ho;exact ho
 ·rename_i x y T U;rw[h x (by simp[Op.operands,Call.operands]),h y (by simp[Op.operands,Call.operands])]at ho;exact ho
 ·rename_i f args ts
  rw[GV (ev':=ev') (fun x hx=>h x (by simp[Op.operands,Call.operands];exact .inr hx))]at ho;exact ho
 ·rename_i t args ts
  rw[h (.tmp t) (by simp[Op.operands,Call.operands]),GV (ev':=ev') (fun x hx=>h x (by simp[Op.operands,Call.operands];exact .inr hx))]at ho;exact ho
 ·rename_i T parts
  rw[Ji (ev':=ev') (fun x hx=>h x (by simpa [Op.operands]using hx))]at ho;exact ho
 ·rename_i T len parts
  rw[Ji (ev':=ev') (fun x hx=>h x (by simpa [Op.operands]using hx))]at ho;exact ho
 ·rename_i T x y ok;rw[h x (by simp[Op.operands]),h y (by simp[Op.operands])]at ho;exact ho
 ·rename_i T x lo hi
  have e1:∀m,BP ev m lo=BP ev' m lo:=fun m=>QX fun y hy=>h y (by subst hy;simp[Op.operands])
  have e2:∀m,BP ev m hi=BP ev' m hi:=fun m=>QX fun y hy=>h y (by subst hy;simp[Op.operands])
  unfold Nl at ho
  simp only[e1,e2]at ho
  rw[h x (by simp[Op.operands])]at ho
  exact ho
 ·rename_i x k;rw[h x (by simp[Op.operands])]at ho;exact ho
 ·rename_i f xs
  rw[GV (ev':=ev') (fun x hx=>h x (by simpa [Op.operands]using hx))]at ho;exact ho
 ·exact ho.elim
end congr
def Jj(f:Nat→Option AV):Operand→Option AV
 |.tmp t=>f t
 |.const c=>some (l5 c)
 |.global g=>some (XY g)
 |.func f=>some (.v (.func (.func f) #[] #[]))
theorem PQ(σ:St):F4 σ=Jj (look σ.sl):=by funext x;cases x<;>rfl
open Classical in
noncomputable def rs(op:Op)(ev:Operand→Option AV):Operand→Option AV:=fun x=>if x∈op.operands.toList then ev x else none
def DV(f:Nat→Option AV)(d:Nat)(a:AV):Nat→Option AV:=fun s=>if d=s then some a else f s
section quiet
variable {P:Program} {E:Env} {n nx:Nat} {hp:Hp} {ev:Operand→Option AV} {ops:Array Oper} {σ:St} {K:(Nat→Option AV)→Prop} {f f':Nat→Option AV}
theorem dK{op:Op}{ty:Nat}{av:AV}{ev ev':Operand→Option AV}(h:∀x a,ev x=some a→ev' x=some a)(hq:G8 P E nx hp ev op ty av):G8 P E nx hp ev' op ty av :=
 fun d pos after θ a w K hs hk=>hq d pos after θ a w K ⟨hs.fr,hs.owns,hs.X,fun hx=>hs.rel (h _ _ hx),hs.apart,hs.fresh,hs.tab⟩ hk
theorem aQ{op:Op}{ty:Nat}{F:AV→Prop}(h:GU P op ev hp F):∃av,G8 P E nx hp (rs op ev) op ty av∧F av :=
 fy (aP (fun x hx=>by simp[rs,hx]) h)
def QS(P:Program)(E:Env)(nx:Nat)(hp:Hp)(ops:Array Oper)(o:Oper)(f:Nat→Option AV)(av:AV):Prop :=
 match o.guard with
 |none=>G8 P E nx hp (rs o.op (Jj f)) o.op o.type av
 |some (j,g)=>∃dj,(ops[j]?).bind (·.dst)=some dj∧((f dj=some (.v (.bool g))∧G8 P E nx hp (rs o.op (Jj f)) o.op o.type av)∨(f dj=some (.v (.bool (!g)))∧av=.v undef)∨∃t,f dj=some (.v (.tuple t))∧av=.v undef)
theorem dL{op:Op}(h:∀x∈op.operands.toList,Jj f x=Jj f' x):rs op (Jj f)=rs op (Jj f'):=by
 funext x
 unfold rs
 split
 ·rename_i hx;exact h x hx
 ·rfl
theorem QS.congr{o:Oper}{av:AV}(h:∀d∈o.looksAt ops,f d=f' d)(hq:QS P E nx hp ops o f av):QS P E nx hp ops o f' av:=by
 have hr:rs o.op (Jj f)=rs o.op (Jj f'):=dL fun x hx=>by
  cases x with
  |tmp t=>exact h t (List.mem_append_left _ (List.mem_filterMap.2 ⟨.tmp t,hx,rfl⟩))
  |_=>rfl
 unfold QS at hq ⊢
 split at hq
 ·rw[←hr];exact hq
 ·rename_i j g hg
  obtain⟨dj,hj,hq⟩:=hq
  have hd:f dj=f' dj:=h dj (by simp[Oper.looksAt,hg,hj])
  refine⟨dj,hj,?_⟩
  rw[←hr,←hd]
  exact hq
def QW(P:Program)(E:Env)(n nx:Nat)(hp:Hp)(ops:Array Oper):List Oper→(Nat→Option AV)→((Nat→Option AV)→Prop)→Prop
 |[],f,K=>K f
 |o::r,f,K=>∃d av,o.dst=some d∧d<n∧QS P E nx hp ops o f av∧QW P E n nx hp ops r (DV f d av) K
theorem aR{d e:Nat}{a b:AV}(h:d≠e):DV (DV f d a) e b=DV (DV f e b) d a:=by
 funext s
 unfold DV
 by_cases h1:e=s
 ·subst h1;simp[h]
 ·simp[h1]
theorem QW.swap{x y:Oper}{r:List Oper}(qj:x.apart ops y=true)(h:QW P E n nx hp ops (x::y::r) f K):QW P E n nx hp ops (y::x::r) f K:=by
 obtain⟨dx,ax,hdx,nt,hqx,dy,ay,hdy,hny,hqy,hr⟩:=h
 obtain⟨h1,h2,h3⟩:=Oper.apart_spec qj
 have hne:dx≠dy:=fun e=>h2 dx hdx (e▸hdy)
 have hy:QS P E nx hp ops y f ay:=hqy.congr fun s hs=>by
  have:dx≠s:=fun e=>h1 dx hdx (e▸hs)
  simp[DV,this]
 have hx:QS P E nx hp ops x (DV f dy ay) ax:=hqx.congr fun s hs=>by
  have:dy≠s:=fun e=>h3 dy hdy (e▸hs)
  simp[DV,this]
 exact⟨dy,ay,hdy,hny,hy,dx,ax,hdx,nt,hx,by rw[←aR hne];exact hr⟩
theorem QW.first{o:Oper}:∀{pre post:List Oper} {f:Nat→Option AV},(∀p∈pre,p.apart ops o=true)→QW P E n nx hp ops (pre++o::post) f K→QW P E n nx hp ops (o::(pre++post)) f K
 |[],post,f,_,h=>h
 |p::pre,post,f,qj,h=>by
  obtain⟨d,av,hd,hn,hq,hr⟩:=h
  have:=QW.first (pre:=pre) (fun q hq=>qj q (by simp[hq])) hr
  exact QW.swap (qj p (by simp)) ⟨d,av,hd,hn,hq,this⟩
def gC(ops:Array Oper)(i j:Nat):Bool :=
 match ops[i]?,ops[j]? with
 |some oi,some oj=>oi.after.any (fun e=>Region.binds .any e && Nat.beq e.on j) || oj.apart ops oi
 |_,_=>true
def gD(ops:Array Oper)(i:Nat):Bool :=
 match ops[i]? with
 |some o=>o.after.all fun e=>!Region.binds .any e || Nat.blt e.on i
 |none=>true
def FI(ops:Array Oper):Bool:=(List.range ops.size).all fun i=>gD ops i && (List.range i).all fun j=>gC ops i j
theorem Xw(h:FI ops=true){i j:Nat}{oi oj:Oper}(sE:j<i)(hi:ops[i]?=some oi)(hj:ops[j]?=some oj):(∃e∈oi.after,Region.binds .any e=true∧e.on=j)∨oj.apart ops oi=true:=by
 have nN:i<ops.size:=(Array.getElem?_eq_some_iff.1 hi).1
 unfold FI at h
 rw[List.all_eq_true]at h
 have h1:=h i (List.mem_range.2 nN)
 rw[Bool.and_eq_true,List.all_eq_true]at h1
 have h2:=h1.2 j (List.mem_range.2 sE)
 unfold gC at h2
 rw[hi,hj]at h2
 simp only[Bool.or_eq_true]at h2
 rcases h2 with h2|h2
 ·left
  obtain⟨k,hk,h3⟩:=Array.any_eq_true.1 h2
  simp only[Bool.and_eq_true]at h3
  exact⟨oi.after[k],Array.getElem_mem hk,h3.1,Nat.eq_of_beq_eq_true h3.2⟩
 ·exact .inr h2
theorem Xx(h:FI ops=true){i:Nat}{oi:Oper}(hi:ops[i]?=some oi):∀e∈oi.after,Region.binds .any e=true→e.on<i:=by
 have nN:i<ops.size:=(Array.getElem?_eq_some_iff.1 hi).1
 unfold FI at h
 rw[List.all_eq_true]at h
 have h1:=h i (List.mem_range.2 nN)
 rw[Bool.and_eq_true]at h1
 have h2:=h1.1
 unfold gD at h2
 rw[hi]at h2
 intro e he hb
 simp only[Array.all_eq_true_iff_forall_mem,Bool.or_eq_true]at h2
 have:=h2 e he
 rw[hb]at this
 simpa [Nat.blt_eq]using this
def left(ops:Array Oper)(listed:Array Bool):List Nat:=(List.range ops.size).filter fun i=>!listed.getD i true
def Xy(E:Env)(n nx:Nat)(hp:Hp)(f:Nat→Option AV)(a:Act)(w:World):Prop:=∃σ:St,(∀s,look σ.sl s=f s)∧σ.nx=nx∧σ.hp=hp∧o3 E n σ a w
theorem mF{o:Oper}{d:Nat}{av:AV}{a:Act}{w:World}{Q:Exit→Act→World→Prop}{C:Act→World→Prop}{i:Nat}(hi:ops[i]?=some o)(hd:o.dst=some d)(hn:d<n)(hq:QS P E nx hp ops o f av)(hs:Xy E n nx hp f a w)
  (hk:∀a' w',Xy E n nx hp (DV f d av) a' w'→C a' w'):wpOp P ops Q i C a w:=by
 obtain⟨σ,hl,rfl,rfl,θ,hs⟩:=hs
 have pm:Jj f=F4 σ:=by rw[PQ];congr 1;funext s;exact(hl s).symm
 have step:∀{v:Value} {w':World},Below w.heap.size w w'→E0 (cx E θ σ w') av v→C (a.put (some d) v) w':=fun hb hr =>
  hk _ _ ⟨σ.put d av,fun s=>by simp only[St.put,E8,DV,hl],rfl,rfl,θ,(hs.below hb).put hn hr⟩
 unfold wpOp
 simp only[hi]
 have vP:∀{t:Nat} {b:Bool},f t=some (.v (.bool b))→a.tmps[t]?=some (.bool b):=by
  intro t b hb
  have h1:=(hs.slots t _ (by rw[hl];exact hb)).val
  rw[Array.getD_eq_getD_getElem?]at h1
  cases hg:a.tmps[t]? with
  |none=>rw[hg]at h1;exact absurd h1 (by simp[undef])
  |some v=>rw[hg]at h1;simp at h1;rw[h1]
 have run:G8 P E σ.nx σ.hp (rs o.op (Jj f)) o.op o.type av→o.wp P a w C Q:=by
  intro hq
  have zl:G8 P E σ.nx σ.hp (F4 σ) o.op o.type av:=dK (fun x b hx=>by
   unfold rs at hx
   split at hx
   ·rw[←pm];exact hx
   ·cases hx) hq
  have hv:=zl o.dst o.pos o.after θ a w (fun v w'=>Below w.heap.size w w'∧E0 (cx E θ σ w') av v) hs.evT fun v w' hb hr=>⟨hb,hr⟩
  have yw:JQ P o a w (fun v w'=>Below w.heap.size w w'∧E0 (cx E θ σ w') av v):=by
   have e:JQ P o a w=JQ P ⟨o.dst,o.op,o.type,o.pos,o.after,none⟩ a w:=by
    funext K
    unfold JQ
    have:execOp a.eval o=execOp a.eval ⟨o.dst,o.op,o.type,o.pos,o.after,none⟩:=by
     obtain⟨_,op,_,_,_,_⟩:=o
     cases op<;>rfl
    rw[this]
   rw[e]
   exact hv
  exact SU yw fun v w' hv=>by rw[hd];exact step hv.1 hv.2
 unfold QS at hq
 split at hq
 ·rename_i hg
  rw[if_pos (by simp[Region.wanted,hg])]
  exact .inl (run hq)
 ·rename_i j g hg
  obtain⟨dj,hj,hq⟩:=hq
  rcases hq with ⟨hb,hq⟩|⟨hb,rfl⟩|⟨t,hb,rfl⟩
  ·have:yielded ops a.tmps j=some g:=by simp[yielded,hj,vP hb]
   rw[if_pos (by simp[Region.wanted,hg,this])]
   exact .inl (run hq)
  ·have:yielded ops a.tmps j=some (!g):=by simp[yielded,hj,vP hb]
   rw[if_neg (by simp[Region.wanted,hg,this])]
   rw[hd]
   exact step (Below.refl _ _) (.im (.v _))
  ·have:yielded ops a.tmps j=none:=by
    have h1:=(hs.slots dj _ (by rw[hl];exact hb)).val
    rw[Array.getD_eq_getD_getElem?]at h1
    unfold yielded
    rw[hj]
    simp only[Option.bind_some]
    cases hg:a.tmps[dj]? with
    |none=>rfl
    |some v=>rw[hg]at h1;simp at h1;rw[h1]
   rw[if_neg (by simp[Region.wanted,hg,this])]
   rw[hd]
   exact step (Below.refl _ _) (.im (.v _))
theorem Dr(p:Nat→Bool)(m:Nat){pre post:List Nat}{i:Nat}(h:(List.range m).filter p=pre++i::post):(∀j∈pre,j<i)∧i∉pre∧i∉post:=by
 have hs:((List.range m).filter p).Pairwise (·<·):=List.Pairwise.filter _ (List.pairwise_lt_range)
 rw[h,List.pairwise_append]at hs
 obtain⟨_,h2,h3⟩:=hs
 rw[List.pairwise_cons]at h2
 have h4:∀j∈pre,j<i:=fun j hj=>h3 j hj i (by simp)
 exact⟨h4,fun hc=>Nat.lt_irrefl _ (h4 i hc),fun hc=>Nat.lt_irrefl _ (h2.1 i hc)⟩
theorem TC{listed:Array Bool}{i:Nat}{pre post:List Nat}(h:left ops listed=pre++i::post):left ops (listed.setIfInBounds i true)=pre++post:=by
 obtain⟨_,h2,h3⟩:=Dr _ _ h
 have e:left ops (listed.setIfInBounds i true)=(left ops listed).filter (fun j=>decide (j≠i)):=by
  unfold left
  rw[List.filter_filter]
  congr 1
  funext j
  by_cases hj:j=i
  ·subst hj
   by_cases nN:j<listed.size
   ·simp[Array.getD,nN]
   ·simp[Array.getD,nN]
  ·have:(listed.setIfInBounds i true).getD j true=listed.getD j true:=by
    rw[Array.getD_eq_getD_getElem?,Array.getD_eq_getD_getElem?,Array.getElem?_setIfInBounds_ne (Ne.symm hj)]
   rw[this]
   simp[hj]
 rw[e,h,List.filter_append,List.filter_cons_of_neg (by simp)]
 congr 1
 ·exact List.filter_eq_self.2 fun j hj=>by simp;exact fun e=>h2 (e▸hj)
 ·exact List.filter_eq_self.2 fun j hj=>by simp;exact fun e=>h3 (e▸hj)
def opsOf(ops:Array Oper)(l:List Nat):List Oper:=l.filterMap fun i=>ops[i]?
theorem Nq{listed:Array Bool}{j:Nat}(hj:j∈Region.ready .any ops listed):j∈left ops listed:=by
 obtain⟨h1,o,ho,_⟩:=mem_ready.1 hj
 exact List.mem_filter.2 ⟨List.mem_range.2 (Array.getElem?_eq_some_iff.1 ho).1,by rw[h1];rfl⟩
theorem Jk(l m:List Nat):opsOf ops (l++m)=opsOf ops l++opsOf ops m:=List.filterMap_append ..
theorem Xz{i:Nat}{o:Oper}(h:ops[i]?=some o)(m:List Nat):opsOf ops (i::m)=o::opsOf ops m:=by simp[opsOf,h]
theorem dM(pQ:FI ops=true){listed:Array Bool}(hsz:listed.size=ops.size){i:Nat}{r:List Nat}(h:left ops listed=i::r):i∈Region.ready .any ops listed:=by
 have hi:i∈left ops listed:=by rw[h];simp
 obtain⟨h1,h2⟩:=List.mem_filter.1 hi
 have nN:=List.mem_range.1 h1
 refine mem_ready.2 ⟨by simpa using h2,ops[i],Array.getElem?_eq_getElem nN,fun e he hb=>?_⟩
 have qt:=Xx pQ (Array.getElem?_eq_getElem nN) e he hb
 cases hx:listed.getD e.on false with
 |true=>rfl
 |false =>
  exfalso
  have qT:e.on<listed.size:=by omega
  have qV:listed.getD e.on true=false:=by
   simp[Array.getD,qT]at hx ⊢;exact hx
  have hm:e.on∈left ops listed:=List.mem_filter.2 ⟨List.mem_range.2 (by omega),by rw[qV];rfl⟩
  have hs:(left ops listed).Pairwise (·<·):=List.Pairwise.filter _ (List.pairwise_lt_range)
  rw[h]at hm hs
  rcases List.mem_cons.1 hm with h3|h3
  ·omega
  ·have:=(List.pairwise_cons.1 hs).1 _ h3
   omega
theorem kK(pQ:FI ops=true){Q:Exit→Act→World→Prop}(hK:∀f' a' w',K f'→Xy E n nx hp f' a' w'→Q .normal a' w'):∀(nO:Nat) (listed:Array Bool) (f:Nat→Option AV) (a:Act) (w:World),listed.size=ops.size →
  (left ops listed).length≤nO→QW P E n nx hp ops (opsOf ops (left ops listed)) f K→Xy E n nx hp f a w→wpAny P .any ops Q nO listed a w:=by
 intro nO
 induction nO with
 |zero =>
  intro listed f a w hsz nM hq hs
  have pV:left ops listed=[]:=List.eq_nil_of_length_eq_zero (by omega)
  rw[pV]at hq
  refine⟨?_,hK f a w hq hs⟩
  cases hr:Region.ready .any ops listed with
  |nil=>rfl
  |cons j r=>have:=Nq (ops:=ops) (listed:=listed) (j:=j) (by rw[hr];simp);rw[pV]at this;cases this
 |succ nO ih =>
  intro listed f a w hsz nM hq hs
  refine⟨fun hr=>?_,fun i hi=>?_⟩
  ·cases hl:left ops listed with
   |nil=>rw[hl]at hq;exact hK f a w hq hs
   |cons i r=>have:=dM pQ hsz hl;rw[hr]at this;cases this
  ·obtain⟨pre,post,py⟩:=List.append_of_mem (Nq hi)
   obtain⟨yt,oi,hoi,AC6⟩:=mem_ready.1 hi
   have zz:=(Dr _ _ py).1
   rw[py,Jk,Xz hoi]at hq
   have zl:=QW.first (fun p hp=>by
    obtain⟨j,hj,zO⟩:=List.mem_filterMap.1 hp
    rcases Xw pQ (zz j hj) hoi zO with ⟨e,he,hb,rfl⟩|h
    ·exfalso
     have h1:=AC6 e he hb
     have h2:e.on∈left ops listed:=by rw[py];simp[hj]
     have h3:=(List.mem_filter.1 h2).2
     have h4:listed.getD e.on true=false:=by simpa using h3
     by_cases nN:e.on<listed.size
     ·simp[Array.getD,nN]at h1 h4;rw[h1]at h4;cases h4
     ·simp[Array.getD,nN]at h1
    ·exact h) hq
   obtain⟨d,av,hd,hn,hqs,hr⟩:=zl
   refine mF hoi hd hn hqs hs fun a' w' oX=>ih _ _ a' w' (by simpa using hsz) ?_ ?_ oX
   ·rw[TC py]
    rw[py]at nM
    simp at nM ⊢
    omega
   ·rw[TC py,Jk]
    exact hr
def DQ(P:Program)(E:Env)(n:Nat)(ops:Array Oper)(l:List Oper)(σ:St)(K:St→Prop):Prop :=
 QW P E n σ.nx σ.hp ops l (look σ.sl) fun f=>∃τ:St,(∀s,look τ.sl s=f s)∧τ.nx=σ.nx∧τ.hp=σ.hp∧K τ
theorem dN(σ:St)(d:Nat)(a:AV):look (σ.put d a).sl=DV (look σ.sl) d a:=by
 funext s;simp only[St.put,E8,DV]
theorem Nr{l:List Oper}{d:Nat}{av:AV}{K:St→Prop}:DQ P E n ops l (σ.put d av) K→QW P E n σ.nx σ.hp ops l (DV (look σ.sl) d av) fun f=>∃τ:St,(∀s,look τ.sl s=f s)∧τ.nx=σ.nx∧τ.hp=σ.hp∧K τ:=by
 intro h
 unfold DQ at h
 rw[dN]at h
 exact h
theorem TD{d:Nat}{a:AV}(h:look σ.sl d=some a):look (σ.put d a).sl=look σ.sl:=by
 funext s
 simp only[St.put,E8]
 by_cases e:d=s
 ·subst e;rw[if_pos rfl,h]
 ·rw[if_neg e]
def dO(P:Program)(E:Env)(n:Nat)(ops:Array Oper)(l:List Oper)(σ:St)(K:St→Prop):Prop :=
 match l with
 |[]=>K σ
 |⟨some d,op,_,_,_,none⟩::rest=>cond (Nat.blt d n) (GU P op (F4 σ) σ.hp fun av=>DQ P E n ops rest (σ.put d av) K) False
 |⟨some d,op,_,_,_,some (j,g)⟩::rest=>match (ops[j]?).bind (·.dst)with
  |some dj=>cond (Nat.blt d n) (match look σ.sl dj with
   |some (.v (.bool b))=>P8 b g (GU P op (F4 (σ.put dj (.v (.bool g)))) σ.hp fun av=>DQ P E n ops rest ((σ.put dj (.v (.bool g))).put d av) K)
     (DQ P E n ops rest ((σ.put dj (.v (.bool !g))).put d (.v undef)) K)
   |some (.v (.tuple t))=>DQ P E n ops rest (σ.put d (.v undef)) K
   |_=>False) False
  |none=>False
 |_=>False
theorem mG{l:List Oper}{K:St→Prop}(h:dO P E n ops l σ K):DQ P E n ops l σ K:=by
 unfold dO at h
 split at h
 ·exact⟨σ,fun _=>rfl,rfl,rfl,h⟩
 ·rename_i d op ty pos after rest
  obtain⟨hd,h⟩:=cond_false h
  obtain⟨av,hq,h⟩:=aQ (E:=E) (nx:=σ.nx) (ty:=ty) h
  exact⟨d,av,rfl,Nat.blt_eq▸hd,by unfold QS;rw[←PQ];exact hq,Nr h⟩
 ·rename_i d op ty pos after j g rest
  split at h
  ·rename_i dj hj
   obtain⟨hd,h⟩:=cond_false h
   split at h
   ·rename_i b hb
    cases uV:(b == g)with
    |true =>
     have uV:b=g:=by simpa using uV
     subst uV
     have h1:=h.t rfl
     obtain⟨av,hq,h2⟩:=aQ (E:=E) (nx:=σ.nx) (ty:=ty) h1
     have e:look (σ.put dj (.v (.bool b))).sl=look σ.sl:=TD hb
     rw[PQ,e]at hq
     refine⟨d,av,rfl,Nat.blt_eq▸hd,⟨dj,hj,.inl ⟨hb,hq⟩⟩,?_⟩
     have h3:=Nr h2
     rw[e]at h3
     exact h3
    |false =>
     have uV:b=!g:=by cases b<;>cases g<;>simp_all
     have h1:=h.f uV
     have e:look (σ.put dj (.v (.bool !g))).sl=look σ.sl:=TD (uV▸hb)
     refine⟨d,_,rfl,Nat.blt_eq▸hd,⟨dj,hj,.inr (.inl ⟨uV▸hb,rfl⟩)⟩,?_⟩
     have h3:=Nr h1
     rw[e]at h3
     exact h3
   ·rename_i t hb
    exact⟨d,_,rfl,Nat.blt_eq▸hd,⟨dj,hj,.inr (.inr ⟨t,hb,rfl⟩)⟩,Nr h⟩
   ·exact h.elim
  ·exact h.elim
 ·exact h.elim
theorem A9{id:Nat}{Q:Exit→St→Prop}[hm:Jh P](pQ:FI ops=true)(h:DQ P E n ops ops.toList σ fun σ'=>Q .normal σ'):DU P E n id ops σ Q:=by
 refine⟨fun a w ⟨θ,hs⟩=>wp_region_any hm.out ?_⟩
 have hb:Below w.heap.size w { w with drawn:=w.drawn+1 }:=Below.drew (Below.refl _ _)
 refine kK pQ (K:=fun f=>∃τ:St,(∀s,look τ.sl s=f s)∧τ.nx=σ.nx∧τ.hp=σ.hp∧Q .normal τ) (fun f' a' w' hk oX=>?_) ops.size _ (look σ.sl) a _ (by simp) ?_ ?_ ⟨σ,fun _=>rfl,rfl,rfl,θ,hs.below hb⟩
 ·obtain⟨τ,h1,h2,h3,h4⟩:=hk
  obtain⟨σ2,g1,g2,g3,θ2,nS⟩:=oX
  refine⟨τ,h4,θ2,?_⟩
  have e1:σ2.nx=τ.nx:=by rw[g2,h2]
  have e2:σ2.hp=τ.hp:=by rw[g3,h3]
  have e3:∀s,look τ.sl s=look σ2.sl s:=fun s=>by rw[h1,g1]
  have ec:cx E θ2 σ2 w'=cx E θ2 τ w':=by unfold cx;rw[e1,e2]
  exact⟨nS.size,nS.defers,nS.fr,fun s x hx=>by rw[←ec];exact nS.slots s x (by rw[←e3];exact hx),fun i b hi=>by rw[←ec,←e1];exact nS.owns i b (by rw[e2];exact hi),fun i j b b' k hi hj=>nS.apart i j b b' k (by rw[e2];exact hi) (by rw[e2];exact hj),fun i b k hi=>nS.mine i b k (by rw[e2];exact hi),nS.X,by rw[←e1,←e2];exact nS.base⟩
 ·unfold left
  exact Nat.le_trans (List.length_filter_le _ _) (by simp)
 ·have e:left ops (Array.replicate ops.size false)=List.range ops.size:=by
   unfold left
   refine List.filter_eq_self.2 fun i hi=>?_
   have:=List.mem_range.1 hi
   simp[Array.getD,this]
  rw[e]
  have e2:opsOf ops (List.range ops.size)=ops.toList:=by
   unfold opsOf
   apply List.ext_getElem?
   intro i
   have:∀(m:Nat),m≤ops.size→(List.range m).filterMap (fun i=>ops[i]?)=ops.toList.take m:=by
    intro m
    induction m with
    |zero=>intro _;simp
    |succ m ih =>
     intro hm
     rw[List.range_succ,List.filterMap_append,ih (by omega),List.take_add_one]
     congr 1
     have nN:m<ops.size:=by omega
     simp[nN]
   rw[this ops.size (Nat.le_refl _)]
   congr 1
   exact List.take_of_length_le (by simp)
  rw[e2]
  exact h
end quiet
def SA{α:Type}:List α→(List α→Prop)→Prop
 |[],F=>F []
 |a::r,F=>SA r fun s=>F (a::s)
theorem IG{α:Type}:∀{l:List α} {F:List α→Prop},SA l F→F l
 |[],F,h=>h
 |a::r,F,h=>IG (l:=r) (F:=fun s=>F (a::s)) h
mutual
def V4:AV→(AV→Prop)→Prop
 |.agg l,F=>CN l fun l2=>F (.agg l2)
 |.tup l,F=>CN l fun l2=>F (.tup l2)
 |.fo f l,F=>CN l fun l2=>F (.fo f l2)
 |.ref i o,F=>H0 i fun i2=>H0 o fun o2=>F (.ref i2 o2)
 |.row i v m,F=>H0 i fun i2=>H0 v fun v2=>F (.row i2 v2 m)
 |.elt i v k o,F=>H0 i fun i2=>H0 v fun v2=>F (.elt i2 v2 k o)
 |.sub i v k o,F=>H0 i fun i2=>H0 v fun v2=>F (.sub i2 v2 k o)
 |.mp i,F=>H0 i fun i2=>F (.mp i2)
 |.any,F=>F .any
 |.v x,F=>F (.v x)
 |.str l,F=>F (.str l)
 |.iptr l,F=>F (.iptr l)
 |.sl sz l,F=>F (.sl sz l)
 |.fn f l,F=>F (.fn f l)
 |.err,F=>F .err
 |.own e sz l,F=>F (.own e sz l)
def CN:List AV→(List AV→Prop)→Prop
 |[],F=>F []
 |x::r,F=>V4 x fun x2=>CN r fun r2=>F (x2::r2)
end
mutual
theorem FJ:∀{a:AV} {F:AV→Prop},V4 a F→F a
 |.agg l,F,h=>CO (l:=l) (F:=fun l2=>F (.agg l2)) (by simpa only[V4]using h)
 |.tup l,F,h=>CO (l:=l) (F:=fun l2=>F (.tup l2)) (by simpa only[V4]using h)
 |.fo f l,F,h=>CO (l:=l) (F:=fun l2=>F (.fo f l2)) (by simpa only[V4]using h)
 |.ref i o,F,h=>by simp only[V4]at h;exact E3 (E3 h)
 |.row i v m,F,h=>by simp only[V4]at h;exact E3 (E3 h)
 |.elt i v k o,F,h=>by simp only[V4]at h;exact E3 (E3 h)
 |.sub i v k o,F,h=>by simp only[V4]at h;exact E3 (E3 h)
 |.mp i,F,h=>by simp only[V4]at h;exact E3 h
 |.any,F,h=>by simpa only[V4]using h
 |.v x,F,h=>by simpa only[V4]using h
 |.str l,F,h=>by simpa only[V4]using h
 |.iptr l,F,h=>by simpa only[V4]using h
 |.sl sz l,F,h=>by simpa only[V4]using h
 |.fn f l,F,h=>by simpa only[V4]using h
 |.err,F,h=>by simpa only[V4]using h
 |.own e sz l,F,h=>by simpa only[V4]using h
theorem CO:∀{l:List AV} {F:List AV→Prop},CN l F→F l
 |[],F,h=>by simpa only[CN]using h
 |x::r,F,h=>by
  simp only[CN]at h
  exact CO (l:=r) (F:=fun r2=>F (x::r2)) (FJ (a:=x) (F:=fun x2=>CN r fun r2=>F (x2::r2)) h)
end
def DW:List (Nat×AV)→(List (Nat×AV)→Prop)→Prop
 |[],F=>F []
 |(k,x)::r,F=>V4 x fun x2=>DW r fun s=>F ((k,x2)::s)
theorem s5:∀{l:List (Nat×AV)} {F:List (Nat×AV)→Prop},DW l F→F l
 |[],F,h=>h
 |(k,x)::r,F,h=>s5 (l:=r) (F:=fun s=>F ((k,x)::s)) (FJ (a:=x) (F:=fun x2=>DW r fun s=>F ((k,x2)::s)) h)
def Km:List Bool→(List Bool→Prop)→Prop
 |[],F=>F []
 |true::r,F=>Km r fun s=>F (true::s)
 |false::r,F=>Km r fun s=>F (false::s)
theorem FL:∀{l:List Bool} {F:List Bool→Prop},Km l F→F l
 |[],F,h=>h
 |true::r,F,h=>FL (l:=r) (F:=fun s=>F (true::s)) h
 |false::r,F,h=>FL (l:=r) (F:=fun s=>F (false::s)) h
def V5:Hp→(Hp→Prop)→Prop
 |[],F=>F []
 |(k,some (.bx τ l))::r,F=>H0 k fun k=>CN l fun l2=>V5 r fun s=>F ((k,some (.bx τ l2))::s)
 |(k,some (.row e sz v l))::r,F=>H0 k fun k=>H0 v fun v2=>V5 r fun s=>F ((k,some (.row e sz v2 l))::s)
 |(k,some (.map m))::r,F=>H0 k fun k=>V5 r fun s=>F ((k,some (.map m))::s)
 |(k,some (.it t p))::r,F=>H0 k fun k=>V5 r fun s=>F ((k,some (.it t p))::s)
 |(k,none)::r,F=>H0 k fun k=>V5 r fun s=>F ((k,none)::s)
theorem T7:∀{l:Hp} {F:Hp→Prop},V5 l F→F l
 |[],F,h=>h
 |(k,some (.bx τ l))::r,F,h=>T7 (l:=r) (F:=fun s=>F ((k,some (.bx τ l))::s)) (CO (l:=l) (F:=fun l2=>V5 r fun s=>F ((k,some (.bx τ l2))::s)) (E3 (F:=fun k=>CN l fun l2=>V5 r fun s=>F ((k,some (.bx τ l2))::s)) h))
 |(k,some (.row e sz v l))::r,F,h=>T7 (l:=r) (F:=fun s=>F ((k,some (.row e sz v l))::s)) (E3 (F:=fun v2=>V5 r fun s=>F ((k,some (.row e sz v2 l))::s)) (E3 (F:=fun k=>H0 v fun v2=>V5 r fun s=>F ((k,some (.row e sz v2 l))::s)) h))
 |(k,some (.map m))::r,F,h=>T7 (l:=r) (F:=fun s=>F ((k,some (.map m))::s)) (E3 (F:=fun k=>V5 r fun s=>F ((k,some (.map m))::s)) h)
 |(k,some (.it t p))::r,F,h=>T7 (l:=r) (F:=fun s=>F ((k,some (.it t p))::s)) (E3 (F:=fun k=>V5 r fun s=>F ((k,some (.it t p))::s)) h)
 |(k,none)::r,F,h=>T7 (l:=r) (F:=fun s=>F ((k,none)::s)) (E3 (F:=fun k=>V5 r fun s=>F ((k,none)::s)) h)
mutual
def O2(ρ s:Nat→Nat):AV→AV
 |.ref i off=>.ref (ρ i) off
 |.row i v len=>.row (ρ i) (v+s i) len
 |.elt i v k off=>.elt (ρ i) (v+s i) k off
 |.sub i v k off=>.sub (ρ i) (v+s i) k off
 |.mp i=>.mp (ρ i)
 |.agg l=>.agg (Bd ρ s l)
 |.tup l=>.tup (Bd ρ s l)
 |.fo f l=>.fo f (Bd ρ s l)
 |x=>x
def Bd(ρ s:Nat→Nat):List AV→List AV
 |[]=>[]
 |x::r=>O2 ρ s x::Bd ρ s r
end
theorem Q9(ρ s:Nat→Nat):∀l,Bd ρ s l=l.map (O2 ρ s)
 |[]=>by simp[Bd]
 |x::r=>by simp[Bd,Q9 ρ s r]
def o5(ρ s:Nat→Nat)(i:Nat):C4→C4
 |.bx τ l=>.bx τ (Bd ρ s l)
 |.row e sz v l=>.row e sz (v+s i) l
 |.map m=>.map m
 |.it t p=>.it t p
structure Ren(c c':Cx)(ρ s:Nat→Nat):Prop where
 nx:∀i,i<c.nx→ρ i<c'.nx
 θ:∀i,i<c.nx→c'.θ (ρ i)=c.θ i
 N:∀i,i<c.nx→c'.θ.N (ρ i)=c.θ.N i
 w:c'.w=c.w
 U:∀k,c'.U k→c.U k
 rows:∀i,i<c.nx→∀e sz v' l,A5 c'.hp (ρ i)=some (.row e sz v' l)→∃v,A5 c.hp i=some (.row e sz v l)∧v'=v+s i
theorem Ren.im{c c':Cx}{ρ s:Nat→Nat}(h:Ren c c' ρ s){a:AV}{x:Value}(hi:Im c.U c.w a x):Im c'.U c'.w a x:=hi.mono (fun k _ _=>by rw[h.w]) fun k _ hu=>h.U k hu
theorem kL{c c':Cx}{ρ s:Nat→Nat}(h:Ren c c' ρ s){a:AV}{x:Value}(hi:Im c.U c.w a x):O2 ρ s a=a∨E0 c' (O2 ρ s a) x:=by
 induction hi with
 |v x=>exact .inl rfl
 |str l=>exact .inl rfl
 |fn f l cs hl hc ih=>exact .inl rfl
 |iptr l a f hu hc hh ih=>exact .inl rfl
 |err t p=>exact .inl rfl
 |any x=>exact .inl rfl
 |own e sz l x=>exact .inl rfl
 |slnil sz=>exact .inl rfl
 |sl sz l a cap f oQ hm hu hsz hc hh ih=>exact .inl rfl
 |agg l cs hl hc ih =>
  refine .inr ?_
  simp only[O2,Q9]
  refine .agg _ cs (by simp[hl]) fun j u z hu hz=>?_
  simp only[List.getElem?_map,Option.map_eq_some_iff]at hu
  obtain⟨u0,pW,rfl⟩:=hu
  rcases ih j u0 z pW hz with e|e
  ·rw[e];exact .im (h.im (hc j u0 z pW hz))
  ·exact e
 |tup l cs hl hc ih =>
  refine .inr ?_
  simp only[O2,Q9]
  refine .tup _ cs (by simp[hl]) fun j u z hu hz=>?_
  simp only[List.getElem?_map,Option.map_eq_some_iff]at hu
  obtain⟨u0,pW,rfl⟩:=hu
  rcases ih j u0 z pW hz with e|e
  ·rw[e];exact .im (h.im (hc j u0 z pW hz))
  ·exact e
theorem PT{c c':Cx}{ρ s:Nat→Nat}(h:Ren c c' ρ s){a:AV}{x:Value}(r:E0 c a x):E0 c' (O2 ρ s a) x:=by
 induction r with
 |any x=>exact .any x
 |im hi =>
  rcases kL h hi with e|e
  ·rw[e];exact .im (h.im hi)
  ·exact e
 |agg l cs hl _ ih =>
  simp only[O2,Q9]
  refine .agg _ cs (by simp[hl]) fun j u z hu hz=>?_
  simp only[List.getElem?_map,Option.map_eq_some_iff]at hu
  obtain⟨u0,pW,rfl⟩:=hu
  exact ih j u0 z pW hz
 |tup l cs hl _ ih =>
  simp only[O2,Q9]
  refine .tup _ cs (by simp[hl]) fun j u z hu hz=>?_
  simp only[List.getElem?_map,Option.map_eq_some_iff]at hu
  obtain⟨u0,pW,rfl⟩:=hu
  exact ih j u0 z pW hz
 |fo f l cs hl _ ih =>
  simp only[O2,Q9]
  refine .fo f _ cs (by simp[hl]) fun j u z hu hz=>?_
  simp only[List.getElem?_map,Option.map_eq_some_iff]at hu
  obtain⟨u0,pW,rfl⟩:=hu
  exact ih j u0 z pW hz
 |ref i off b hi hθ=>exact .ref _ off b (h.nx i hi) (by rw[h.θ i hi];exact hθ)
 |row i ver len x hi hr =>
  refine .row _ _ len x (h.nx i hi) fun e sz v' l hl=>?_
  obtain⟨v,hv,rfl⟩:=h.rows i hi e sz v' l hl
  obtain⟨h1,h2⟩:=hr e sz v l hv
  exact⟨by omega,fun e=>by rw[h.θ i hi];exact h2 (by omega)⟩
 |mp i r hi hθ=>exact .mp _ r (h.nx i hi) (by rw[h.θ i hi];exact hθ)
 |sub i ver lo len x hi hr =>
  refine .sub _ _ lo len x (h.nx i hi) fun e sz v' l hl=>?_
  obtain⟨v,hv,rfl⟩:=h.rows i hi e sz v' l hl
  obtain⟨h1,h2⟩:=hr e sz v l hv
  exact⟨by omega,fun e=>by rw[h.θ i hi];exact h2 (by omega)⟩
 |elt i ver k off x hi hr =>
  refine .elt _ _ k off x (h.nx i hi) fun e sz v' l hl=>?_
  obtain⟨v,hv,rfl⟩:=h.rows i hi e sz v' l hl
  obtain⟨h1,h2⟩:=hr e sz v l hv
  exact⟨by omega,fun e=>by rw[h.θ i hi];exact h2 (by omega)⟩
theorem We{c c':Cx}{ρ s:Nat→Nat}(h:Ren c c' ρ s){i:Nat}{b:C4}(hi:i<c.nx)(o:L8 c i b):L8 c' (ρ i) (o5 ρ s i b):=by
 cases b with
 |bx τ l =>
  obtain⟨b',nw,T,e1,e2,e3,e4⟩:=o
  refine⟨b',nw,T,by rw[h.θ i hi];exact e1,by rw[h.w];exact e2,by rw[Q9,List.length_map];exact e3,fun j u z hu hz=>?_⟩
  rw[Q9]at hu
  simp only[List.getElem?_map,Option.map_eq_some_iff]at hu
  obtain⟨u0,pW,rfl⟩:=hu
  exact PT h (e4 j u0 z pW hz)
 |row e sz v l =>
  obtain⟨xs,e1,e2,e3,e4⟩:=o
  refine⟨xs,by rw[h.θ i hi,h.w];exact e1,e2,fun k el hk j x hx=>?_,fun hne=>⟨fun k p hk=>by rw[h.w];exact(e4 hne).1 k p (by rw[←h.N i hi];exact hk),fun k el hk j e' nQ l' hj=>?_⟩⟩
  ·obtain⟨y,hy,hi⟩:=e3 k el hk j x hx
   exact⟨y,hy,h.im hi⟩
  ·obtain⟨g,m,cap,y,ys,q1,q2,q3,q4,q5,q6,q7⟩:=(e4 hne).2 k el hk j e' nQ l' hj
   exact⟨g,m,cap,y,ys,by rw[h.θ i hi];exact q1,by rw[h.w];exact q2,by rw[h.w];exact q3,q4,q5,fun q oo hq j' x hx=>by
    obtain⟨z,hz,hi⟩:=q6 q oo hq j' x hx
    exact⟨z,hz,h.im hi⟩,fun b hb=>by rw[h.N i hi];exact q7 b hb⟩
 |map m =>
  obtain⟨r,es,clock,e1,e2,e3,e4⟩:=o
  exact⟨r,es,clock,by rw[h.θ i hi];exact e1,by rw[h.w];exact e2,e3,fun j q e hj he=>⟨(e4 j q e hj he).1,h.im (e4 j q e hj he).2⟩⟩
 |it t p =>
  obtain⟨r,e1,e2⟩:=o
  exact⟨r,by rw[h.θ i hi];exact e1,by rw[h.w];exact e2⟩
theorem QY{c c':Cx}{ρ s:Nat→Nat}(hθ:∀i,i<c.nx→c'.θ (ρ i)=c.θ i)(hw:c'.w=c.w)(hU:∀k,c.U k→c'.U k)
  (oK:∀i,i<c.nx→∀e sz v l,A5 c.hp i=some (.row e sz v l)→A5 c'.hp (ρ i)=some (.row e sz (v+s i) l)):∀{a:AV} {x:Value},X4 c.nx a=true→E0 c' (O2 ρ s a) x→E0 c a x:=by
 have uX:∀{a:AV} {x:Value},Im c'.U c'.w a x→Im c.U c.w a x:=fun hi=>hi.mono (fun k _ _=>by rw[hw]) fun k _ hu=>hU k hu
 intro a
 refine AV.rec (motive_1:=fun a=>∀{x:Value},X4 c.nx a=true→E0 c' (O2 ρ s a) x→E0 c a x)
  (motive_2:=fun l=>V3 c.nx l=true→∀(j:Nat) u x,l[j]?=some u→E0 c' (O2 ρ s u) x→E0 c u x)
  (motive_3:=fun _=>True) ?_ ?_ ?_ ?_ ?_ ?_ ?_ ?_ ?_ ?_ ?_ ?_ ?_ ?_ ?_ ?_ ?_ ?_ ?_ ?_ a
 ·intro x _ _;exact .any x
 ·intro v x _ r;cases r with|im hi=>exact .im (uX hi)
 ·intro l x _ r;cases r with|im hi=>exact .im (uX hi)
 ·intro l ih x nN r
  simp only[X4]at nN
  simp only[O2,Q9]at r
  obtain⟨cs,rfl,hl,hr⟩:=Fe r
  refine .agg l cs (by simpa using hl) fun j u z hu hz=>ih nN j u z hu ?_
  exact hr j _ z (by simp[hu]) hz
 ·intro l ih x nN r
  simp only[X4]at nN
  simp only[O2,Q9]at r
  have:∃cs:List Value,x=.tuple cs.toArray∧(l.map (O2 ρ s)).length=cs.length∧∀(j:Nat) u z,(l.map (O2 ρ s))[j]?=some u→cs[j]?=some z→E0 c' u z:=by
   generalize l.map (O2 ρ s)=l' at r
   cases r with
   |im hi=>cases hi with|tup l cs hl hc=>exact⟨cs,rfl,hl,fun j u z hu hz=>.im (hc j u z hu hz)⟩
   |tup l cs hl hc=>exact⟨cs,rfl,hl,hc⟩
  obtain⟨cs,rfl,hl,hr⟩:=this
  refine .tup l cs (by simpa using hl) fun j u z hu hz=>ih nN j u z hu ?_
  exact hr j _ z (by simp[hu]) hz
 ·intro i off x nN r
  simp only[X4,Nat.blt_eq]at nN
  simp only[O2]at r
  obtain⟨b,h1,rfl,_⟩:=o9 r
  exact .ref i off b nN (by rw[←hθ i nN];exact h1)
 ·intro l _ x _ r;cases r with|im hi=>exact .im (uX hi)
 ·intro sz l _ x _ r;cases r with|im hi=>exact .im (uX hi)
 ·intro i ver len x nN r
  simp only[X4,Nat.blt_eq]at nN
  simp only[O2]at r
  refine .row i ver len x nN fun e sz v l hl=>?_
  cases r with
  |im hi=>cases hi
  |row _ _ _ _ hi h =>
   obtain⟨h1,h2⟩:=h e sz _ l (oK i nN e sz v l hl)
   exact⟨by omega,fun e=>by rw[←hθ i nN];exact h2 (by omega)⟩
 ·intro i x nN r
  simp only[X4,Nat.blt_eq]at nN
  simp only[O2]at r
  cases r with
  |im hi=>cases hi
  |mp _ r hi h=>exact .mp i r nN (by rw[←hθ i nN];exact h)
 ·intro i ver k off x nN r
  simp only[X4,Nat.blt_eq]at nN
  simp only[O2]at r
  refine .elt i ver k off x nN fun e sz v l hl=>?_
  cases r with
  |im hi=>cases hi
  |elt _ _ _ _ _ hi h =>
   obtain⟨h1,h2⟩:=h e sz _ l (oK i nN e sz v l hl)
   exact⟨by omega,fun e=>by rw[←hθ i nN];exact h2 (by omega)⟩
 ·intro f l _ x _ r;cases r with|im hi=>exact .im (uX hi)
 ·intro x _ r;cases r with|im hi=>exact .im (uX hi)
 ·intro f l ih x nN r
  simp only[X4]at nN
  simp only[O2,Q9]at r
  have:∃cs:List Value,x=SO f cs.toArray∧(l.map (O2 ρ s)).length=cs.length∧∀(j:Nat) u z,(l.map (O2 ρ s))[j]?=some u→cs[j]?=some z→E0 c' u z:=by
   generalize l.map (O2 ρ s)=l' at r
   cases r with
   |im hi=>cases hi
   |fo f l cs hl hc=>exact⟨cs,rfl,hl,hc⟩
  obtain⟨cs,rfl,hl,hr⟩:=this
  refine .fo f l cs (by simpa using hl) fun j u z hu hz=>ih nN j u z hu ?_
  exact hr j _ z (by simp[hu]) hz
 ·intro e sz l _ x _ _;exact .im (.own e sz l x)
 ·intro i ver lo len x nN r
  simp only[X4,Nat.blt_eq]at nN
  simp only[O2]at r
  refine .sub i ver lo len x nN fun e sz v l hl=>?_
  cases r with
  |im hi=>cases hi
  |sub _ _ _ _ _ hi h =>
   obtain⟨h1,h2⟩:=h e sz _ l (oK i nN e sz v l hl)
   exact⟨by omega,fun e=>by rw[←hθ i nN];exact h2 (by omega)⟩
 ·intro _ j u x hu;simp at hu
 ·intro a l iha su nN j u x hu r
  simp only[V3,Bool.and_eq_true]at nN
  cases j with
  |zero=>simp at hu;subst hu;exact iha nN.1 r
  |succ j=>exact su nN.2 j u x (by simpa using hu) r
 ·trivial
 ·intros;trivial
structure JJ(X:Nat→Prop)(θ:Th)(nx:Nat)(hp:Hp)(w:World):Prop where
 owns:∀i b,A5 hp i=some b→i<nx∧L8 ⟨θ,nx,hp,X,w⟩ i b
 apart:∀i j b b' k,A5 hp i=some b→A5 hp j=some b'→FP θ i b k→FP θ j b' k→i=j
 fresh:∀i b k,A5 hp i=some b→FP θ i b k→¬X k
def owned(θ:Th)(hp:Hp)(k:Nat):Prop:=∃i b,A5 hp i=some b∧FP θ i b k
theorem JJ.nodf{X:Nat→Prop}{θ:Th}{nx:Nat}{hp:Hp}{w:World}(h:JJ X θ nx hp w){k:Nat}(ho:owned θ hp k){d:Option (List Deferred)}:w.heap[k]?≠some (Obj.deferred d):=by
 obtain⟨i,b,hi,hk⟩:=ho
 exact(h.owns i b hi).2.nodf hk
theorem QZ(ρ s:Nat→Nat)(i:Nat)(b:C4):V9 (o5 ρ s i b)=V9 b:=by cases b<;>rfl
theorem FP.ren{θ θ':Th}{ρ s:Nat→Nat}{i k:Nat}{b:C4}(h1:θ' (ρ i)=θ i)(h2:θ'.N (ρ i)=θ.N i):FP θ' (ρ i) (o5 ρ s i b) k↔FP θ i b k:=by
 unfold FP
 rw[QZ,h1,h2]
structure FM(X:Nat→Prop)(θ:Th)(w:World)(m0:Nat)(hp0:Hp)(m1:Nat)(hp1:Hp)(r:AV)(e:Ending)(w':World):Prop where
 out:∃v θ',e=.returned v∧E0 ⟨θ',m1,hp1,X,w'⟩ r v∧JJ X θ' m1 hp1 w'∧(∀i b k,A5 hp1 i=some b→FP θ' i b k→owned θ hp0 k∨w.heap.size≤k)∧(∀i,i<m0→θ' i=θ i∨(∃x n k,θ i=.slice x n k)∧¬Kept hp1 i)
 os:w'.os=w.os
 tape:w'.tape=w.tape
 output:w'.output=w.output
 size:w.heap.size≤w'.heap.size
 block:∀k,k<w.heap.size→¬owned θ hp0 k→w'.heap[k]?=w.heap[k]?
def B8(P:Program)(f m0:Nat)(hp0:Hp)(args:List AV)(m1:Nat)(hp1:Hp)(r:AV):Prop:=PG P f ∧
 ∀(X:Nat→Prop) (θ:Th) (w:World) (vs:List Value),(∀k,X k→k<w.heap.size)→S7 (fun k=>X k∨owned θ hp0 k) w→JJ X θ m0 hp0 w→args.length=vs.length→(∀(j:Nat) a v,args[j]?=some a→vs[j]?=some v→E0 ⟨θ,m0,hp0,X,w⟩ a v) →
  Calls P f vs.toArray w fun e w'=>FM X θ w m0 hp0 m1 hp1 r e w'
def W0:ResultVar→Nat
 |.tmp t=>t
 |.cell t _=>t
def GW(σ:St):List ResultVar→St
 |[]=>σ
 |.tmp _::r=>GW σ r
 |.cell t _::r=>match look σ.sl t with
  |some (.ref i 0)=>match A5 σ.hp i with
   |some (.bx _ l)=>GW (σ.put t (.agg l)) r
   |_=>σ
  |_=>σ
def TE(P:Program)(n:Nat)(σ:St):List ResultVar→Prop
 |[]=>True
 |.tmp _::r=>TE P n σ r
 |.cell t T::r=>∃i l sz,look σ.sl t=some (.ref i 0)∧A5 σ.hp i=some (.box l)∧G7 P T true sz∧l.length=sz∧Nat.blt t n=true∧TE P n (σ.put t (.agg l)) r
def TF:List ResultVar→List AV→List (Nat×AV)
 |v::r,a::s=>(W0 v,a)::TF r s
 |_,_=>[]
def gE:List AV→AV
 |[a]=>a
 |l=>.tup l
def DB:List ResultVar→Bool
 |[]=>true
 |v::r=>(r.all fun u=>!(Nat.beq (W0 u) (W0 v))) && DB r
theorem TG{tmps tmps':Array Value}{rv:ResultVar}(h:tmps.getD (W0 rv) undef=tmps'.getD (W0 rv) undef):X5 tmps rv=X5 tmps' rv:=by
 cases rv with
 |tmp t=>simp only[X5];rw[show tmps.getD t undef=tmps'.getD t undef from h]
 |cell t T=>simp only[X5];rw[show tmps.getD t undef=tmps'.getD t undef from h]
theorem Lc{a:Act}{d s:Nat}{v:Value}(h:d≠s):(a.put (some d) v).tmps.getD s undef=a.tmps.getD s undef:=by
 simp[Act.put,Array.getD_eq_getD_getElem?,Array.getElem?_setIfInBounds_ne h]
theorem Vd{a:Act}{d:Nat}{v:Value}(h:d<a.tmps.size):(a.put (some d) v).tmps.getD d undef=v:=by
 simp[Act.put,Array.getD,h]
theorem Jl{P:Program}{E:Env}{n:Nat}{θ:Th}{w:World}:∀{rvs:List ResultVar} {σ:St} {a:Act},J5 E n θ σ a w→TE P n σ rvs→DB rvs=true →
  ∃a',J5 E n θ (GW σ rvs) a' w∧(∀rv∈rvs,(X5 a.tmps rv).run P w=.ok (a'.tmps.getD (W0 rv) undef) w)∧∀s,(∀rv∈rvs,W0 rv≠s)→a'.tmps.getD s undef=a.tmps.getD s undef
 |[],σ,a,hs,_,_=>⟨a,hs,(fun rv h=>by (cases h)),fun s _=>rfl⟩
 |.tmp t::r,σ,a,hs,ol,qj=>by
  simp only[DB,Bool.and_eq_true,List.all_eq_true,Bool.not_eq_true']at qj
  obtain⟨a',h1,h2,h3⟩:=Jl (rvs:=r) hs ol qj.2
  refine⟨a',h1,fun rv uO=>?_,fun s oX=>h3 s fun rv h=>oX rv (by simp[h])⟩
  rcases List.mem_cons.1 uO with rfl|uO
  ·have:=h3 t (fun rv h e=>by
    have h4:=qj.1 rv h
    have e':W0 rv=W0 (.tmp t):=e
    rw[e']at h4
    simp at h4)
   simp[X5,W0,Sem.run_pure,this]
  ·exact h2 rv uO
 |.cell t T::r,σ,a,hs,ol,qj=>by
  simp only[DB,Bool.and_eq_true,List.all_eq_true,Bool.not_eq_true']at qj
  obtain⟨i,l,sz,h1,h2,tv,sv,hn,ol⟩:=ol
  have yb:=Nat.blt_eq▸hn
  obtain⟨b1,hθ,hv,_⟩:=o9 (hs.slots t _ h1)
  obtain⟨b',nw,T',oh,hh,hsz,hr⟩:=(hs.owns i _ h2).2
  have pw:θ i=.pointer (some ⟨b1,0,none⟩):=hθ
  have qR:θ i=.pointer (some ⟨b',0,none⟩):=oh
  rw[pw]at qR
  cases qR
  have vp:w.heap[b1]?=some (.cells nw T' (0,0)):=hh
  have pG:E0 (cx E θ σ w) (.agg l) (.agg nw):=by
   have:=E0.agg (c:=cx E θ σ w) l nw.toList (by simp[hsz]) (fun j x y hx hy=>hr j x y hx (by simpa using hy))
   simpa using this
  have vC:=hs.put yb pG
  have qc:=S9 (P:=P) (T:=T) (sz:=sz) (w:=w) (a:=⟨b1,0,none⟩) (cs:=nw.toList) (by rw[Array.length_toList,hsz,sv]) (fun j v hj=>by rw[H3,K1 vp];simpa using hj)
  obtain⟨a',h3,h4,h5⟩:=Jl (rvs:=r) vC ol qj.2
  have hne:∀rv∈r,W0 rv≠t:=fun rv h e=>by
   have h6:=qj.1 rv h
   have e':W0 rv=W0 (.cell t T):=e
   rw[e']at h6
   simp at h6
  have rF:GW σ (.cell t T::r)=GW (σ.put t (.agg l)) r:=by simp only[GW,h1,h2]
  refine⟨a',rF▸h3,fun rv uO=>?_,fun s oX=>?_⟩
  ·rcases List.mem_cons.1 uO with rfl|uO
   ·have h6:=h5 t hne
    rw[Vd (by rw[hs.size];exact yb)]at h6
    show _=Result.ok (a'.tmps.getD t undef) w
    rw[h6]
    simp[X5,hv,Sem.run_bind,Sem.run_pure,asAddr,qc]
   ·rw[←h4 rv uO]
    rw[TG (tmps:=a.tmps) (tmps':=(a.put (some t) (.agg nw)).tmps)]
    exact(Lc (Ne.symm (hne rv uO))).symm
  ·rw[h5 s fun rv h=>oX rv (by simp[h]),Lc]
   exact oX (.cell t T) (by simp)
theorem Qa:∀{rvs:List ResultVar} {as:List AV},rvs.length=as.length→DB rvs=true→∀(j:Nat) rv a,rvs[j]?=some rv→as[j]?=some a→look (TF rvs as) (W0 rv)=some a
 |[],_,_,_,j,rv,a,h,_=>by simp at h
 |v::r,[],hl,_,_,_,_,_,_=>by simp at hl
 |v::r,b::s,hl,qj,j,rv,a,hj,ha=>by
  simp only[DB,Bool.and_eq_true,List.all_eq_true,Bool.not_eq_true']at qj
  simp only[TF,E8]
  cases j with
  |zero=>simp at hj ha;subst hj ha;simp
  |succ j =>
   have nk:r[j]?=some rv:=by simpa using hj
   have hne:W0 v≠W0 rv:=fun e=>by
    have h6:=qj.1 rv (List.mem_of_getElem? nk)
    rw[←e]at h6
    simp at h6
   rw[if_neg hne]
   exact Qa (by simpa using hl) qj.2 j rv a nk (by simpa using ha)
def dP(P:Program)(E:Env)(n:Nat)(rs:Array ResultVar)(m1:Nat)(hp1:Hp)(r:AV)(σ:St):Prop :=
 (∃rvs as,rs=rvs.toArray∧TE P n σ rvs∧DB rvs=true∧rvs.length=as.length∧St.le E n (GW σ rvs) ⟨TF rvs as,m1,hp1⟩∧r=gE as) ∨
 (∃t,rs=#[.tmp t]∧St.le E n σ ⟨[(t,r)],m1,hp1⟩) ∨
 (∃t u a b,rs=#[.tmp t,.tmp u]∧St.le E n σ ⟨[(t,a),(u,b)],m1,hp1⟩∧t≠u∧r=.tup [a,b]) ∨
 (∃t T i τ l sz,rs=#[.cell t T]∧G7 P T true sz∧l.length=sz∧St.le E n σ ⟨[(t,.ref i 0)],m1,hp1⟩∧A5 hp1 i=some (.bx τ l)∧r=.agg l)
def C7(P:Program)(E:Env)(n:Nat)(rs:Array ResultVar)(m1:Nat)(hp1:Hp)(r:AV):Exit→St→Prop
 |.ret,σ=>dP P E n rs m1 hp1 r σ
 |.normal,σ=>dP P E n rs m1 hp1 r σ
 |_,_=>False
section rules
variable {P:Program} {E:Env} {n:Nat} {ops:Array Oper} {rest:List Oper} {σ:St} {K:St→Prop} {Q:Exit→St→Prop}
variable {d:Nat} {ty:TypeId} {pos:String} {after:Array Edge} {x y:Operand}
theorem H6{t m1:Nat}{hp1:Hp}{r:AV}(h:St.le E n σ ⟨[(t,r)],m1,hp1⟩):C7 P E n #[.tmp t] m1 hp1 r .ret σ:=.inr (.inl ⟨t,rfl,h⟩)
theorem M0{rvs:List ResultVar}{vs:List AV}{m1:Nat}{hp1:Hp}{r:AV}(ol:TE P n σ rvs)(qj:DB rvs=true)(hl:rvs.length=vs.length)(h:St.le E n (GW σ rvs) ⟨TF rvs vs,m1,hp1⟩)(hr:gE vs=r):C7 P E n rvs.toArray m1 hp1 r .ret σ:=.inl ⟨rvs,vs,rfl,ol,qj,hl,h,hr.symm⟩
theorem Qb{t T i m1 sz τ:Nat}{hp1:Hp}{l:List AV}[tv:G7 P T true sz](hl:l.length=sz)(h:St.le E n σ ⟨[(t,.ref i 0)],m1,hp1⟩)(hb:A5 hp1 i=some (.bx τ l)):C7 P E n #[.cell t T] m1 hp1 (.agg l) .ret σ :=
 .inr (.inr (.inr ⟨t,T,i,τ,l,sz,rfl,tv,hl,h,hb,rfl⟩))
theorem TH{f:Nat}{fn:Func}{code:Code}{args:List AV}{r:AV}{rs:Array ResultVar}{m0 m1:Nat}{hp0 hp1:Hp}(hf:P.funcs[f]?=some fn)(hb:fn.body=some code)(hn:fn.ntmps=n)(ss:fn.results=rs)
  (nq:Nat.ble args.length n=true) {X:Nat→Prop} {θ:Th} {w:World} {vs:List Value} (hX:∀k,X k→k<w.heap.size) (oP:S7 (fun k=>X k∨owned θ hp0 k) w) (qt:JJ X θ m0 hp0 w) (hl:args.length=vs.length) (qh:∀(j:Nat) a v,args[j]?=some a→vs[j]?=some v→E0 ⟨θ,m0,hp0,X,w⟩ a v)
  (h:C9 P ⟨w,X,owned θ hp0,θ.v,m0,oP,false⟩ n code ⟨Bv args 0,m0,hp0⟩ (C7 P ⟨w,X,owned θ hp0,θ.v,m0,oP,false⟩ n rs m1 hp1 r)):Calls P f vs.toArray w fun e w'=>FM X θ w m0 hp0 m1 hp1 r e w':=by
 subst hn ss
 refine calls_of_wp hf hb ?_
 have oW:args.length≤fn.ntmps:=Nat.ble_eq▸nq
 have start:o3 ⟨w,X,owned θ hp0,θ.v,m0,oP,false⟩ fn.ntmps ⟨Bv args 0,m0,hp0⟩ { tmps:=vs.toArray++Array.replicate (fn.ntmps-vs.toArray.size) undef,defers:=[] } w:=by
  refine⟨θ,?_,.nil,⟨rfl,rfl,rfl,Nat.le_refl _,fun _ _ _=>rfl⟩,fun s x hs=>?_,qt.owns,qt.apart,fun i b k hi hk=>⟨qt.fresh i b k hi hk,.inl ⟨i,b,hi,hk⟩⟩,hX,⟨Nat.le_refl _,fun i hi=>.inl rfl⟩⟩
  ·simp;omega
  ·obtain⟨_,hx⟩:=FH args 0 s x hs
   rw[Nat.sub_zero]at hx
   have nN:s<vs.length:=by rw[←hl];exact(List.getElem?_eq_some_iff.1 hx).1
   have hv:vs[s]?=some vs[s]:=List.getElem?_eq_getElem nN
   have e:(vs.toArray++Array.replicate (fn.ntmps-vs.toArray.size) undef).getD s undef=vs[s]:=by
    rw[Array.getD_eq_getD_getElem?,Array.getElem?_append]
    simp[nN]
   rw[e]
   exact qh s x _ hx hv
 refine wp_mono (h _ w start) ?_
 rintro e a w' ⟨σ',hq,qy⟩
 have fin:dP P ⟨w,X,owned θ hp0,θ.v,m0,oP,false⟩ fn.ntmps fn.results m1 hp1 r σ'→bodyPost P fn (fun e rJ=>FM X θ w m0 hp0 m1 hp1 r e rJ) .ret a w':=by
  intro tX
  have post:∀{sl:List (Nat×AV)} {v:Value} {θ':Th},J5 ⟨w,X,owned θ hp0,θ.v,m0,oP,false⟩ fn.ntmps θ' ⟨sl,m1,hp1⟩ a w'→E0 ⟨θ',m1,hp1,X,w'⟩ r v→FM X θ w m0 hp0 m1 hp1 r (.returned v) w':=by
   intro sl v θ' hs hv
   exact⟨⟨v,θ',rfl,hv,⟨hs.owns,hs.apart,fun i b k hi hk=>(hs.mine i b k hi hk).1⟩,fun i b k hi hk=>(hs.mine i b k hi hk).2,hs.base.2⟩,hs.fr.os,hs.fr.tape,hs.fr.output,hs.fr.size,hs.fr.block⟩
  rcases tX with ⟨rvs,as,h1,ol,qj,nM,h2,hr⟩|⟨t,h1,h2⟩|⟨t,u,a1,b1,h1,h2,hne,rfl⟩|⟨t,T,i,τ,l,sz,h1,tv,nM,h2,h3,rfl⟩
  ·obtain⟨θ0,uZ⟩:=qy
   obtain⟨a',vC,nz,_⟩:=Jl uZ ol qj
   obtain⟨θ',hs⟩:=h2 a' w' ⟨θ0,vC⟩
   have pG:∀(j:Nat) rv b,rvs[j]?=some rv→as[j]?=some b→E0 ⟨θ',m1,hp1,X,w'⟩ b (a'.tmps.getD (W0 rv) undef):=fun j rv b hj hb=>hs.slots _ b (Qa nM qj j rv b hj hb)
   have vM:∀{v:Value},E0 ⟨θ',m1,hp1,X,w'⟩ r v→FM X θ w m0 hp0 m1 hp1 r (.returned v) w':=fun hv =>
    ⟨⟨_,θ',rfl,hv,⟨hs.owns,hs.apart,fun i b k hi hk=>(hs.mine i b k hi hk).1⟩,fun i b k hi hk=>(hs.mine i b k hi hk).2,hs.base.2⟩,hs.fr.os,hs.fr.tape,hs.fr.output,hs.fr.size,hs.fr.block⟩
   have tup:rvs.length≠1→r=.tup as→∃v,(results fn a.tmps).run P w'=.ok v w'∧FM X θ w m0 hp0 m1 hp1 r (.returned v) w':=by
    intro hne hr
    refine⟨_,La (vs:=rvs.map fun rv=>a'.tmps.getD (W0 rv) undef) h1 hne (by simp) (fun j rv v hj hv=>?_),vM ?_⟩
    ·simp only[List.getElem?_map,hj,Option.map_some,Option.some.injEq]at hv
     subst hv
     exact nz rv (List.mem_of_getElem? hj)
    ·rw[hr]
     refine .tup as _ (by simp[nM]) fun j b v hb hv=>?_
     simp only[List.getElem?_map,Option.map_eq_some_iff]at hv
     obtain⟨rv,hj,rfl⟩:=hv
     exact pG j rv b hj hb
   match rvs,as,nM,hr,h1,nz,pG,tup with
   |[rv],[b],_,hr,h1,nz,pG,_ =>
    have hr:r=b:=hr
    subst hr
    exact⟨uZ.defers.1 rfl,_,Sx h1 (nz rv (by simp)),vM (pG 0 rv _ rfl rfl)⟩
   |[],[],_,hr,_,_,_,tup=>obtain⟨v,uy,qq⟩:=tup (by simp) hr;exact⟨uZ.defers.1 rfl,v,uy,qq⟩
   |_::_::_,_::_::_,_,hr,_,_,_,tup=>obtain⟨v,uy,qq⟩:=tup (by simp) hr;exact⟨uZ.defers.1 rfl,v,uy,qq⟩
  ·obtain⟨θ',hs⟩:=h2 a w' qy
   exact⟨hs.defers.1 rfl,_,results_tmp h1 _ _ _,post hs (hs.slots t r (by simp[look]))⟩
  ·obtain⟨θ',hs⟩:=h2 a w' qy
   refine⟨hs.defers.1 rfl,_,results_tmp2 h1 _ _ _,post hs (.tup [a1,b1] [_,_] rfl fun j x y hx hy=>?_)⟩
   match j,hx,hy with
   |0,hx,hy=>cases hx;cases hy;exact hs.slots t _ (by simp[look])
   |1,hx,hy=>cases hx;cases hy;exact hs.slots u _ (by rw[E8,if_neg hne,E8,if_pos rfl])
  ·obtain⟨θ',hs⟩:=h2 a w' qy
   obtain⟨b,hθ,hv,_⟩:=o9 (hs.slots t (.ref i 0) (by simp[look]))
   obtain⟨b',nw,T',oh,hh,hsz,hr⟩:=(hs.owns i _ h3).2
   have pw:θ' i=.pointer (some ⟨b,0,none⟩):=hθ
   have qR:θ' i=.pointer (some ⟨b',0,none⟩):=oh
   rw[pw]at qR
   cases qR
   have vp:w'.heap[b]?=some (.cells nw T' (0,0)):=hh
   refine⟨hs.defers.1 rfl,.agg nw,?_,post hs ?_⟩
   ·have qc:=S9 (P:=P) (T:=T) (sz:=sz) (w:=w') (a:=⟨b,0,none⟩) (cs:=nw.toList) (by rw[Array.length_toList,hsz,nM]) (fun j v hj=>by rw[H3,K1 vp];simpa using hj)
    rw[Array.getD_eq_getD_getElem?]at hv
    simp[results,h1,hv,Sem.run_bind,Sem.run_pure,asAddr,qc]
   ·have:=E0.agg (c:=⟨θ',m1,hp1,X,w'⟩) l nw.toList (by simp[hsz]) (fun j x y hx hy=>hr j x y hx (by simpa using hy))
    simpa using this
 cases e with
 |normal=>exact fin hq
 |ret=>exact fin hq
 |exit id=>exact hq.elim
 |goto l=>exact hq.elim
 |panic c=>exact hq.elim
 |outgrown=>exact hq.elim
theorem Ve {f : Nat} {fn : Func} {code : Code} {args : List AV} {r : AV} {rs : Array ResultVar} {m0 m1 : Nat} {hp0 hp1 : Hp} (hf : P.funcs[f]? = some fn) (pH : (fn.name == "runtime.NumGoroutine") = false) (hb : fn.body = some code) (hn : fn.ntmps = n) (ss : fn.results = rs)
  (nq:Nat.ble args.length n=true) (h:∀E,E.n0=m0→C9 P E n code ⟨Bv args 0,m0,hp0⟩ (C7 P E n rs m1 hp1 r)):B8 P f m0 hp0 args m1 hp1 r :=
 ⟨⟨fn,hf,pH,by rw[hb];rfl⟩,fun X θ w vs hX oP qt hl qh=>TH hf hb hn ss nq hX oP qt hl qh (h _ rfl)⟩
def V6(ρ s:Nat→Nat):Hp→Hp
 |[]=>[]
 |(k,b)::r=>(ρ k,b.map (o5 ρ s k))::V6 ρ s r
theorem IH{ρ s:Nat→Nat}{m:Nat}(ur:∀i j,i<m→j<m→ρ i=ρ j→i=j):∀(hp h:Hp),L1 m hp=true→∀j,j<m→look (V6 ρ s hp++h) (ρ j)=match look hp j with
  |some b=>some (b.map (o5 ρ s j))
  |none=>look h (ρ j)
 |[],h,_,j,hj=>rfl
 |(k,b)::r,h,nN,j,hj=>by
  have hk:k<m∧L1 m r=true:=by
   match b,nN with
   |none,nN=>simp only[L1,Bool.and_eq_true,Nat.blt_eq]at nN;exact nN
   |some (.bx τ l),nN=>simp only[L1,Bool.and_eq_true,Nat.blt_eq]at nN;exact⟨nN.1.1,nN.2⟩
   |some (.row ..),nN=>simp only[L1,Bool.and_eq_true,Nat.blt_eq]at nN;exact nN
   |some (.map ..),nN=>simp only[L1,Bool.and_eq_true,Nat.blt_eq]at nN;exact nN
   |some (.it ..),nN=>simp only[L1,Bool.and_eq_true,Nat.blt_eq]at nN;exact nN
  simp only[V6,List.cons_append,E8]
  by_cases e:k=j
  ·subst e;simp
  ·have:ρ k≠ρ j:=fun h2=>e (ur k j hk.1 hj h2)
   simp only[if_neg this,if_neg e]
   exact IH ur r h hk.2 j hj
theorem Cj{ρ s:Nat→Nat}{m:Nat}:∀(hp h:Hp),L1 m hp=true→∀i,(∀j,j<m→ρ j≠i)→look (V6 ρ s hp++h) i=look h i
 |[],h,_,i,_=>rfl
 |(k,b)::r,h,nN,i,hi=>by
  have hk:k<m∧L1 m r=true:=by
   match b,nN with
   |none,nN=>simp only[L1,Bool.and_eq_true,Nat.blt_eq]at nN;exact nN
   |some (.bx τ l),nN=>simp only[L1,Bool.and_eq_true,Nat.blt_eq]at nN;exact⟨nN.1.1,nN.2⟩
   |some (.row ..),nN=>simp only[L1,Bool.and_eq_true,Nat.blt_eq]at nN;exact nN
   |some (.map ..),nN=>simp only[L1,Bool.and_eq_true,Nat.blt_eq]at nN;exact nN
   |some (.it ..),nN=>simp only[L1,Bool.and_eq_true,Nat.blt_eq]at nN;exact nN
  simp only[V6,List.cons_append,E8,if_neg (hi k hk.1)]
  exact Cj r h hk.2 i hi
def K5(ι:List Nat)(i:Nat):Nat:=ι.getD i 0
def YA(h:Hp)(i:Nat):Nat:=match A5 h i with
 |some (.row e _ v _)=>cond (e9 e) v (v+1)
 |_=>0
def ER(h hp0:Hp)(ι off:List Nat):Nat→Prop
 |0=>True
 |m+1=>A5 h (K5 ι m)=(A5 hp0 m).map (o5 (K5 ι) (K5 off) m)∧ER h hp0 ι off m
theorem Ns{h hp0:Hp}{ι off:List Nat}:∀{m:Nat},ER h hp0 ι off m→∀i,i<m→A5 h (K5 ι i)=(A5 hp0 i).map (o5 (K5 ι) (K5 off) i)
 |0,_,i,hi=>absurd hi (Nat.not_lt_zero _)
 |m+1,hb,i,hi=>by
  by_cases e:i=m
  ·subst e;exact hb.1
  ·exact Ns hb.2 i (by omega)
def Be(hp0 hp1:Hp):Nat→Bool
 |0=>true
 |m+1=>(look hp1 m).isSome && (match A5 hp1 m,A5 hp0 m with
  |some (.row e sz _ _),some (.row e' nQ _ _)=>Nat.beq sz nQ && (e9 e == e9 e')
  |some (.row ..),_=>false
  |_,_=>true) && Be hp0 hp1 m
theorem Ld{hp0 hp1:Hp}:∀{m:Nat},Be hp0 hp1 m=true→∀i,i<m→(look hp1 i).isSome=true∧∀e sz v l,A5 hp1 i=some (.row e sz v l)→∃e' v' l',A5 hp0 i=some (.row e' sz v' l')∧e9 e=e9 e'
 |0,_,i,hi=>absurd hi (Nat.not_lt_zero _)
 |m+1,hb,i,hi=>by
  simp only[Be,Bool.and_eq_true]at hb
  by_cases e:i=m
  ·subst e
   refine⟨hb.1.1,fun e sz v l hl=>?_⟩
   have h2:=hb.1.2
   rw[hl]at h2
   split at h2
   ·rename_i h3 h4
    cases h3
    rw[Bool.and_eq_true]at h2
    refine⟨_,_,_,by rw[h4,Nat.eq_of_beq_eq_true h2.1],?_⟩
    exact eq_of_beq h2.2
   ·cases h2
   ·rename_i h4 h3
    first|exact absurd rfl (h3 e sz v l)|exact absurd rfl (h4 e sz v l)|exact(h3 e sz v l rfl).elim|exact(h4 e sz v l rfl).elim
  ·exact Ld hb.2 i (by omega)
def DX(ι:List Nat)(nx:Nat):Bool:=match ι with
 |[]=>true
 |i::r=>Nat.blt i nx && !(r.contains i) && DX r nx
theorem Nt:∀{ι:List Nat} {nx:Nat},DX ι nx=true→(∀i,i<ι.length→K5 ι i<nx)∧∀i j,i<ι.length→j<ι.length→K5 ι i=K5 ι j→i=j
 |[],nx,_=>⟨fun i hi=>absurd hi (Nat.not_lt_zero _),fun i j hi=>absurd hi (Nat.not_lt_zero _)⟩
 |a::r,nx,h=>by
  simp only[DX,Bool.and_eq_true,Nat.blt_eq,Bool.not_eq_true']at h
  obtain⟨h1,h2⟩:=Nt h.2
  have oH:∀i,i<r.length→K5 r i∈r:=fun i hi=>by simp[K5,List.getD,hi]
  have yv:a∉r:=by simpa using h.1.2
  refine⟨fun i hi=>?_,fun i j hi hj he=>?_⟩
  ·cases i with
   |zero=>exact h.1.1
   |succ i=>exact h1 i (by simpa using hi)
  ·cases i with
   |zero =>
    cases j with
    |zero=>rfl
    |succ j=>exact absurd (show a∈r from (show a=K5 r j from he)▸oH j (by simpa using hj)) yv
   |succ i =>
    cases j with
    |zero=>exact absurd (show a∈r from (show K5 r i=a from he)▸oH i (by simpa using hi)) yv
    |succ j=>exact congrArg (·+1) (h2 i j (by simpa using hi) (by simpa using hj) he)
def gρ(ι:List Nat)(m0 nx:Nat)(i:Nat):Nat:=cond (Nat.blt i m0) (K5 ι i) (nx+(i-m0))
def gs(ι:List Nat)(m0:Nat)(h:Hp)(i:Nat):Nat:=cond (Nat.blt i m0) (YA h (K5 ι i)) 0
theorem Kn{ι:List Nat}{m0 nx i:Nat}(h:i<m0):gρ ι m0 nx i=K5 ι i:=by
 have:Nat.blt i m0=true:=Nat.blt_eq▸h
 simp[gρ,this]
theorem II{ι:List Nat}{m0 nx i:Nat}(h:¬i<m0):gρ ι m0 nx i=nx+(i-m0):=by
 have:Nat.blt i m0=false:=by
  cases hb:Nat.blt i m0
  ·rfl
  ·exact absurd (Nat.blt_eq▸hb) h
 simp[gρ,this]
theorem aS{c c':Cx}{ρ s:Nat→Nat}(hθ:∀i,i<c.nx→c'.θ (ρ i)=c.θ i)(hN:∀i,i<c.nx→c'.θ.N (ρ i)=c.θ.N i)(hw:c'.w=c.w)(hU:∀k,c.U k→c'.U k)
  (oK:∀i,i<c.nx→∀e sz v l,A5 c.hp i=some (.row e sz v l)→A5 c'.hp (ρ i)=some (.row e sz (v+s i) l))
  {i:Nat} {b:C4} (hi:i<c.nx) (zx:∀τ l,b=.bx τ l→V3 c.nx l=true) (o:L8 c' (ρ i) (o5 ρ s i b)):L8 c i b:=by
 have uX:∀{a:AV} {x:Value},Im c'.U c'.w a x→Im c.U c.w a x:=fun hi=>hi.mono (fun k _ _=>by rw[hw]) fun k _ hu=>hU k hu
 cases b with
 |bx τ l =>
  obtain⟨b',nw,T,e1,e2,e3,e4⟩:=o
  refine⟨b',nw,T,by rw[←hθ i hi];exact e1,by rw[←hw];exact e2,by rw[Q9,List.length_map]at e3;exact e3,fun j u z hu hz=>?_⟩
  refine QY hθ hw hU oK (Ba (zx τ l rfl) u (List.mem_of_getElem? hu)) (e4 j _ z ?_ hz)
  rw[Q9];simp[hu]
 |row e sz v l =>
  obtain⟨xs,e1,e2,e3,e4⟩:=o
  refine⟨xs,by rw[←hθ i hi,←hw];exact e1,e2,fun k el hk j x hx=>?_,fun hne=>⟨fun k p hk=>by rw[←hw];exact(e4 hne).1 k p (by rw[hN i hi];exact hk),fun k el hk j e' nQ l' hj=>?_⟩⟩
  ·obtain⟨y,hy,hi⟩:=e3 k el hk j x hx
   exact⟨y,hy,uX hi⟩
  ·obtain⟨g,m,cap,y,ys,q1,q2,q3,q4,q5,q6,q7⟩:=(e4 hne).2 k el hk j e' nQ l' hj
   exact⟨g,m,cap,y,ys,by rw[←hθ i hi];exact q1,by rw[←hw];exact q2,by rw[←hw];exact q3,q4,q5,fun q oo hq j' x hx=>by
    obtain⟨z,hz,hi⟩:=q6 q oo hq j' x hx
    exact⟨z,hz,uX hi⟩,fun b hb=>by rw[←hN i hi];exact q7 b hb⟩
 |map m =>
  obtain⟨r,es,clock,e1,e2,e3,e4⟩:=o
  exact⟨r,es,clock,by rw[←hθ i hi];exact e1,by rw[←hw];exact e2,e3,fun j q e hj he=>⟨(e4 j q e hj he).1,uX (e4 j q e hj he).2⟩⟩
 |it t p =>
  obtain⟨r,e1,e2⟩:=o
  exact⟨r,by rw[←hθ i hi];exact e1,by rw[←hw];exact e2⟩
theorem aT{C:Cx}{A B:List AV}{x y:List Value}(h1:A.length=x.length)(ha:∀(j:Nat) u v,A[j]?=some u→x[j]?=some v→E0 C u v)(hb:∀(j:Nat) u v,B[j]?=some u→y[j]?=some v→E0 C u v):∀(j:Nat) u v,(A++B)[j]?=some u→(x++y)[j]?=some v→E0 C u v:=fun j u v hu hv=>by
 by_cases hj:j<A.length
 ·rw[List.getElem?_append_left hj]at hu
  rw[List.getElem?_append_left (by omega)]at hv
  exact ha j u v hu hv
 ·rw[List.getElem?_append_right (by omega)]at hu
  rw[List.getElem?_append_right (by omega),←h1]at hv
  exact hb _ u v hu hv
theorem IJ{Cl:List Value→World→(Ending→World→Prop)→Prop}(xJ:∀{vs:List Value} {w:World} {R R':Ending→World→Prop},Cl vs w R→(∀e w',R e w'→R' e w')→Cl vs w R')
  {A args:List AV} {r:AV} {m0 m1:Nat} {hp0 hp1:Hp} (ι off:List Nat) {θ:Th} {a:Act} {w:World} (hs:J5 E n θ σ a w) {vs:List Value} (hAl:A.length=vs.length) (hr:∀(j:Nat) x v,A[j]?=some x→vs[j]?=some v→E0 (cx E θ σ w) x v)
  (hL:Bd (K5 ι) (K5 off) args=A) (nq:V3 m0 args=true) (hι:Nat.beq ι.length m0=true) (ui:DX ι σ.nx=true) (oJ:ER σ.hp hp0 ι off m0) (ns:Be hp0 hp1 m0=true)
  (sT:L1 m0 hp0=true) (pL:L1 m1 hp1=true) (hm:Nat.ble m0 m1=true)
  (hc:∀(X:Nat→Prop) (θc:Th),(∀k,X k→k<w.heap.size)→S7 (fun k=>X k∨owned θc hp0 k) w→JJ X θc m0 hp0 w→(∀k,owned θc hp0 k→(cx E θ σ w).own k)→(∀k,E.X k→X k)→(∀k,X k→(cx E θ σ w).U k)→args.length=vs.length→(∀(j:Nat) a v,args[j]?=some a→vs[j]?=some v→E0 ⟨θc,m0,hp0,X,w⟩ a v) →
   Cl vs w (FM X θc w m0 hp0 m1 hp1 r)) :
  Cl vs w fun e w'=>∃v Θ,e=.returned v∧J5 E n Θ ⟨σ.sl,σ.nx+(m1-m0),V6 (gρ ι m0 σ.nx) (gs ι m0 σ.hp) hp1++σ.hp⟩ a w' ∧
   E0 (cx E Θ ⟨σ.sl,σ.nx+(m1-m0),V6 (gρ ι m0 σ.nx) (gs ι m0 σ.hp) hp1++σ.hp⟩ w') (O2 (gρ ι m0 σ.nx) (gs ι m0 σ.hp) r) v∧w.heap.size≤w'.heap.size∧∀k,k<w.heap.size→¬(cx E θ σ w).own k→w'.heap[k]?=w.heap[k]?:=by
 have hι:=Nat.eq_of_beq_eq_true hι
 have hm:=Nat.ble_eq▸hm
 obtain⟨uf,uM⟩:=Nt ui
 rw[hι]at uf uM
 have oJ:=Ns oJ
 have ns:=Ld ns
 let C:=cx E θ σ w
 let θc:Th:=⟨fun i=>θ (K5 ι i),fun i=>θ.N (K5 ι i)⟩
 let Xc:Nat→Prop:=fun k=>C.U k∧¬owned θc hp0 k
 let c0:Cx:=⟨θc,m0,hp0,Xc,w⟩
 have px:∀k,owned θc hp0 k→∃i b0,i<m0∧A5 hp0 i=some b0∧A5 σ.hp (K5 ι i)=some (o5 (K5 ι) (K5 off) i b0)∧FP θ (K5 ι i) (o5 (K5 ι) (K5 off) i b0) k:=by
  rintro k ⟨i,b,hi,hk⟩
  have nN:=(Cz sT hi).1
  exact⟨i,b,nN,hi,by rw[oJ i nN,hi];rfl,(FP.ren (θ:=θc) rfl rfl).2 hk⟩
 have hU0:∀k,c0.U k→C.U k:=by
  rintro k (hk|hk)
  ·exact hk.1
  ·obtain⟨i,b0,_,_,h1,h2⟩:=px k hk
   exact .inr ⟨_,_,h1,h2⟩
 have rD:∀i,i<c0.nx→∀e sz v l,A5 c0.hp i=some (.row e sz v l)→A5 C.hp (K5 ι i)=some (.row e sz (v+K5 off i) l):=by
  intro i hi e sz v l hl
  have:=oJ i hi
  have oG:A5 hp0 i=some (.row e sz v l):=hl
  rw[oG]at this
  exact this
 have nM:args.length=vs.length:=by
  have:=congrArg List.length hL
  rw[Q9,List.length_map]at this
  rw[this,hAl]
 have yD:JJ Xc θc m0 hp0 w:=by
  refine⟨fun i b hi=>?_,fun i j b b' k hi hj uS xD=>?_,fun i b k hi hk hX=>hX.2 ⟨i,b,hi,hk⟩⟩
  ·obtain⟨nN,za⟩:=Cz sT hi
   have h1:A5 σ.hp (K5 ι i)=some (o5 (K5 ι) (K5 off) i b):=by rw[oJ i nN,hi];rfl
   exact⟨nN,aS (c:=c0) (c':=C) (fun i _=>rfl) (fun i _=>rfl) rfl hU0 rD nN za (hs.owns _ _ h1).2⟩
  ·have h1:=(Cz sT hi).1
   have h2:=(Cz sT hj).1
   refine uM i j h1 h2 (hs.apart _ _ (o5 (K5 ι) (K5 off) i b) (o5 (K5 ι) (K5 off) j b') k (by rw[oJ i h1,hi];rfl) (by rw[oJ j h2,hj];rfl) ((FP.ren (θ:=θc) rfl rfl).2 uS) ((FP.ren (θ:=θc) rfl rfl).2 xD))
 have xC:∀k,owned θc hp0 k→C.own k:=fun k hk=>by
  obtain⟨i,b0,_,_,h1,h2⟩:=px k hk
  exact⟨_,_,h1,h2⟩
 have rS:=hc Xc θc (fun k hk=>hs.evT.Ult k hk.1) (hs.evT.tab.mono (fun k _ hk=>hk.elim (fun h=>h.1) (fun h=>hU0 k (.inr h))) fun _ _ _=>rfl) yD xC (fun k hk=>⟨.inl hk,fun ho=>by
  obtain⟨i,b0,_,_,h1,h2⟩:=px k ho
  exact(hs.mine _ _ k h1 h2).1 hk⟩) (fun _ hk=>hk.1) nM fun j av v hj hv=>by
  refine QY (c:=c0) (c':=C) (ρ:=K5 ι) (s:=K5 off) (fun i _=>rfl) rfl hU0 rD (Ba nq av (List.mem_of_getElem? hj)) (hr j _ v ?_ hv)
  rw[←hL,Q9];simp[hj]
 refine xJ rS ?_
 rintro e w' ⟨⟨v,θ',rfl,hv,rX,oA,oh⟩,si,qd,rj,nd,ot⟩
 let ρ:=gρ ι m0 σ.nx
 let s:=gs ι m0 σ.hp
 have uK:∀i j,i<m1→j<m1→ρ i=ρ j→i=j:=by
  intro i j hi hj he
  by_cases h1:i<m0<;>by_cases h2:j<m0
  ·exact uM i j h1 h2 (by simpa only[ρ,Kn h1,Kn h2]using he)
  ·have:=uf i h1
   simp only[ρ,Kn h1,II h2]at he
   omega
  ·have:=uf j h2
   simp only[ρ,II h1,Kn h2]at he
   omega
  ·simp only[ρ,II h1,II h2]at he
   omega
 have yQ:∀j,j<m1→ρ j<σ.nx+(m1-m0):=by
  intro j hj
  by_cases h1:j<m0
  ·have:=uf j h1;simp only[ρ,Kn h1];omega
  ·simp only[ρ,II h1];omega
 have tr:∀j,j<m1→ρ j<σ.nx→j<m0:=by
  intro j hj nN
  by_cases h1:j<m0
  ·exact h1
  ·simp only[ρ,II h1]at nN;omega
 let Θ:Th:=⟨fun i=>open Classical in if h:∃j,j<m1∧ρ j=i then θ' (Classical.choose h)else θ i,fun i=>open Classical in if h:∃j,j<m1∧ρ j=i then θ'.N (Classical.choose h)else θ.N i⟩
 have xt:∀j,j<m1→Θ (ρ j)=θ' j:=by
  intro j hj
  have hex:∃j',j'<m1∧ρ j'=ρ j:=⟨j,hj,rfl⟩
  have:Classical.choose hex=j:=uK _ _ (Classical.choose_spec hex).1 hj (Classical.choose_spec hex).2
  simp only[Θ,dif_pos hex,this]
 have wg:∀j,j<m1→Θ.N (ρ j)=θ'.N j:=by
  intro j hj
  have hex:∃j',j'<m1∧ρ j'=ρ j:=⟨j,hj,rfl⟩
  have:Classical.choose hex=j:=uK _ _ (Classical.choose_spec hex).1 hj (Classical.choose_spec hex).2
  simp only[Θ,dif_pos hex,this]
 have wQ:∀i,(∀j,j<m1→ρ j≠i)→Θ.N i=θ.N i:=by
  intro i hi
  have:¬∃j,j<m1∧ρ j=i:=fun ⟨j,hj,he⟩=>hi j hj he
  simp only[Θ,dif_neg this]
 have yZ:∀i,(∀j,j<m1→ρ j≠i)→Θ i=θ i:=by
  intro i hi
  have:¬∃j,j<m1∧ρ j=i:=fun ⟨j,hj,he⟩=>hi j hj he
  simp only[Θ,dif_neg this]
 have wT:∀{j:Nat} {b:C4} {k:Nat},j<m1→FP Θ (ρ j) (o5 ρ s j b) k→FP θ' j b k:=fun hj h=>(FP.ren (xt _ hj) (wg _ hj)).1 h
 have wH:∀{i:Nat} {b:C4} {k:Nat},(∀j,j<m1→ρ j≠i)→FP Θ i b k→FP θ i b k:=fun hi h=>by
  unfold FP at h ⊢
  rwa[yZ _ hi,wQ _ hi]at h
 let HP:=V6 ρ s hp1++σ.hp
 let σ':St:=⟨σ.sl,σ.nx+(m1-m0),HP⟩
 have qW:∀i,σ.nx≤i→A5 σ.hp i=none:=by
  intro i hi
  cases hx:A5 σ.hp i with
  |none=>rfl
  |some b=>have:=(hs.owns i b hx).1;omega
 have qX:∀j,j<m1→A5 HP (ρ j)=(A5 hp1 j).map (o5 ρ s j):=by
  intro j hj
  have:=IH (ρ:=ρ) (s:=s) uK hp1 σ.hp pL j hj
  unfold A5
  rw[this]
  cases hx:look hp1 j with
  |some b=>cases b<;>rfl
  |none =>
   simp only[Option.map_none]
   have qN:¬j<m0:=fun h=>by have:=(ns j h).1;rw[hx]at this;cases this
   have h2:=qW (ρ j) (by simp only[ρ,II qN];omega)
   exact h2
 have pg:∀i,(∀j,j<m1→ρ j≠i)→A5 HP i=A5 σ.hp i:=by
  intro i hi
  unfold A5
  rw[Cj (ρ:=ρ) (s:=s) hp1 σ.hp pL i hi]
 have qw:∀j,j<m0→ρ j=K5 ι j:=fun j hj=>Kn hj
 have vV:∀k,owned θc hp0 k→C.own k:=fun k hk=>by
  obtain⟨i,b0,_,_,h1,h2⟩:=px k hk
  exact⟨_,_,h1,h2⟩
 have tx:∀k,owned θc hp0 k→¬E.X k∧(E.O k∨E.w0.heap.size≤k):=fun k hk=>by
  obtain⟨i,b0,_,_,h1,h2⟩:=px k hk
  exact hs.mine _ _ k h1 h2
 have rC:∀i b k,A5 σ.hp i=some b→(∀j,j<m1→ρ j≠i)→FP θ i b k→¬owned θc hp0 k:=fun i b k hi nf hk ho=>by
  obtain⟨j,b0,hj,_,h1,h2⟩:=px k ho
  have:=hs.apart _ _ _ _ k hi h1 hk h2
  exact nf j (by omega) (by rw[qw j hj];exact this.symm)
 let C':=cx E Θ σ' w'
 have le:C.le C':=by
  refine⟨Nat.le_add_right _ _,fun i hi=>?_,fun i hi e' nQ v' l' hl=>?_,nd,fun k hk hu=>ot k hk fun ho=>hu (.inr (vV k ho)),fun k hk hu=>?_⟩
  ·by_cases hex:∃j,j<m1∧ρ j=i
   ·obtain⟨j,hj,rfl⟩:=hex
    have po:=tr j hj hi
    have h1:=oh j po
    have h2:θc j=θ (ρ j):=by rw[qw j po]
    rw[h2]at h1
    show Θ (ρ j)=θ (ρ j)∨_
    rw[xt j hj]
    exact h1.imp id (·.1)
   ·exact .inl (yZ i fun j hj he=>hex ⟨j,hj,he⟩)
  ·by_cases hex:∃j,j<m1∧ρ j=i
   ·obtain⟨j,hj,rfl⟩:=hex
    have po:=tr j hj hi
    have h1:A5 HP (ρ j)=some (.row e' nQ v' l'):=hl
    rw[qX j hj,Option.map_eq_some_iff]at h1
    obtain⟨b,hb,pc⟩:=h1
    cases b with
    |bx τ l=>cases pc
    |map m=>cases pc
    |it _ _=>cases pc
    |row e1 sz1 v1 l1 =>
     simp only[o5]at pc
     cases pc
     obtain⟨e0,v0,l0,h0,pB⟩:=(ns j po).2 _ _ _ _ hb
     have h3:=rD j po e0 nQ v0 l0 h0
     refine⟨e0,v0+K5 off j,l0,by rw[qw j po];exact h3,?_⟩
     have qu:A5 σ.hp (K5 ι j)=some (.row e0 nQ (v0+K5 off j) l0):=h3
     have nl:Nat.blt j m0=true:=Nat.blt_eq▸po
     by_cases hk:e9 e0=true
     ·have hsj:s j=v0+K5 off j:=by
       simp only[s,gs,nl,YA,qu,hk,cond]
      by_cases hv0:v1=0
      ·have zK:θ' j=θ (K5 ι j):=(oh j po).resolve_right fun h=>h.2 ⟨_,_,_,_,hb,pB.trans hk⟩
       obtain⟨x1,o1,_⟩:=(rX.owns j _ hb).2
       obtain⟨x2,o2,_⟩:=(hs.owns _ _ qu).2
       have o1':S6 w' e' nQ (θ' j) l'.length x1:=o1
       have o2':S6 w e0 nQ (θ (K5 ι j)) l0.length x2:=o2
       rw[zK]at o1'
       refine .inr ⟨by rw[hsj];omega,o2'.len o1',?_⟩
       show Θ (ρ j)=θ (ρ j)
       rw[xt j hj,zK,qw j po]
      ·exact .inl (by rw[hsj];omega)
     ·have:s j=v0+K5 off j+1:=by
       have nX:e9 e0=false:=by
        cases hx:e9 e0 with
        |false=>rfl
        |true=>exact absurd hx hk
       simp only[s,gs,nl,YA,qu,nX,cond]
      exact .inl (by omega)
   ·have h1:A5 HP i=some (.row e' nQ v' l'):=hl
    have nf:∀j,j<m1→ρ j≠i:=fun j hj he=>hex ⟨j,hj,he⟩
    rw[pg i nf]at h1
    exact⟨e',v',l',h1,.inr ⟨rfl,rfl,yZ i nf⟩⟩
  ·rcases hu with hu|⟨i,b,hi,oL⟩
   ·exact .inl hu
   ·have oe:A5 HP i=some b:=hi
    have nX:FP Θ i b k:=oL
    by_cases hex:∃j,j<m1∧ρ j=i
    ·obtain⟨j,hj,rfl⟩:=hex
     rw[qX j hj,Option.map_eq_some_iff]at oe
     obtain⟨b1,ou,rfl⟩:=oe
     rcases oA j b1 k ou (wT hj nX)with h|h
     ·exact .inr (vV k h)
     ·have qI:k<w.heap.size:=hk
      omega
    ·have nf:∀j,j<m1→ρ j≠i:=fun j hj he=>hex ⟨j,hj,he⟩
     rw[pg i nf]at oe
     exact .inr ⟨i,b,oe,wH nf nX⟩
 have ren:Ren ⟨θ',m1,hp1,Xc,w'⟩ C' ρ s:=by
  refine⟨yQ,xt,wg,rfl,fun k hu=>?_,fun j hj e sz v' l hl=>?_⟩
  ·rcases hu with hu|⟨i,b,hi,hk⟩
   ·exact .inl ⟨.inl hu,fun ho=>(tx k ho).1 hu⟩
   ·have oe:A5 HP i=some b:=hi
    have nX:FP Θ i b k:=hk
    by_cases hex:∃j,j<m1∧ρ j=i
    ·obtain⟨j,hj,rfl⟩:=hex
     rw[qX j hj,Option.map_eq_some_iff]at oe
     obtain⟨b1,ou,rfl⟩:=oe
     exact .inr ⟨j,b1,ou,wT hj nX⟩
    ·have nf:∀j,j<m1→ρ j≠i:=fun j hj he=>hex ⟨j,hj,he⟩
     rw[pg i nf]at oe
     have nX:=wH nf nX
     exact .inl ⟨.inr ⟨i,b,oe,nX⟩,rC i b k oe nf nX⟩
  ·have h1:A5 HP (ρ j)=some (.row e sz v' l):=hl
   rw[qX j hj,Option.map_eq_some_iff]at h1
   obtain⟨b,hb,pc⟩:=h1
   cases b with
   |bx τ l=>cases pc
   |map m=>cases pc
   |it _ _=>cases pc
   |row e1 sz1 v1 l1 =>
    simp only[o5]at pc
    cases pc
    exact⟨v1,hb,rfl⟩
 have rH:J5 E n Θ σ' a w':=by
  refine⟨hs.size,hs.defers.mono fun k hd=>ot k (Hs hd) fun ho=>(yD.nodf ho) hd,⟨si.trans hs.fr.os,qd.trans hs.fr.tape,rj.trans hs.fr.output,Nat.le_trans hs.fr.size nd,fun k hk hO=>?_⟩,fun t x hx=>(hs.slots t x hx).mono le,fun i b hi=>?_,fun i1 i2 b1 b2 k h1 h2 pd nX=>?_,fun i b k hi hk=>?_,hs.X,⟨by have:=hs.base.1;show E.n0≤σ.nx+_;omega,fun i hi=>?_⟩⟩
  ·have h1:=hs.fr.size
   rw[ot k (by omega) fun ho=>?_]
   ·exact hs.fr.block k hk hO
   ·rcases(tx k ho).2 with h2|h2
    ·exact hO h2
    ·omega
  ·have oe:A5 HP i=some b:=hi
   by_cases hex:∃j,j<m1∧ρ j=i
   ·obtain⟨j,hj,rfl⟩:=hex
    rw[qX j hj,Option.map_eq_some_iff]at oe
    obtain⟨b1,ou,rfl⟩:=oe
    exact⟨yQ j hj,We ren hj (rX.owns j b1 ou).2⟩
   ·have nf:∀j,j<m1→ρ j≠i:=fun j hj he=>hex ⟨j,hj,he⟩
    rw[pg i nf]at oe
    obtain⟨h1,h2⟩:=hs.owns i b oe
    refine⟨by show i<σ.nx+_;omega,h2.mono le (yZ i nf) (fun k=>congrFun (wQ i nf) k) fun k hk=>ot k (h2.lt hk) (rC i b k oe nf hk)⟩
  ·have oB:A5 HP i1=some b1:=h1
   have oM:A5 HP i2=some b2:=h2
   by_cases e1:∃j,j<m1∧ρ j=i1<;>by_cases e2:∃j,j<m1∧ρ j=i2
   ·obtain⟨j1,vg,rfl⟩:=e1
    obtain⟨j2,qQ,rfl⟩:=e2
    rw[qX j1 vg,Option.map_eq_some_iff]at oB
    rw[qX j2 qQ,Option.map_eq_some_iff]at oM
    obtain⟨c1,pn,rfl⟩:=oB
    obtain⟨c2,ow,rfl⟩:=oM
    rw[rX.apart j1 j2 c1 c2 k pn ow (wT vg pd) (wT qQ nX)]
   ·obtain⟨j1,vg,rfl⟩:=e1
    have nf:∀j,j<m1→ρ j≠i2:=fun j hj he=>e2 ⟨j,hj,he⟩
    rw[qX j1 vg,Option.map_eq_some_iff]at oB
    obtain⟨c1,pn,rfl⟩:=oB
    have pd:=wT vg pd
    rw[pg i2 nf]at oM
    have nX:=wH nf nX
    rcases oA j1 c1 k pn pd with h|h
    ·exact absurd h (rC i2 b2 k oM nf nX)
    ·have:=(hs.owns i2 b2 oM).2.lt nX
     have h3:k<w.heap.size:=this
     omega
   ·obtain⟨j2,qQ,rfl⟩:=e2
    have nf:∀j,j<m1→ρ j≠i1:=fun j hj he=>e1 ⟨j,hj,he⟩
    rw[qX j2 qQ,Option.map_eq_some_iff]at oM
    obtain⟨c2,ow,rfl⟩:=oM
    have nX:=wT qQ nX
    rw[pg i1 nf]at oB
    have pd:=wH nf pd
    rcases oA j2 c2 k ow nX with h|h
    ·exact absurd h (rC i1 b1 k oB nf pd)
    ·have:=(hs.owns i1 b1 oB).2.lt pd
     have h3:k<w.heap.size:=this
     omega
   ·have tZ:∀j,j<m1→ρ j≠i1:=fun j hj he=>e1 ⟨j,hj,he⟩
    have xB:∀j,j<m1→ρ j≠i2:=fun j hj he=>e2 ⟨j,hj,he⟩
    rw[pg i1 tZ]at oB
    rw[pg i2 xB]at oM
    exact hs.apart i1 i2 b1 b2 k oB oM (wH tZ pd) (wH xB nX)
  ·have oe:A5 HP i=some b:=hi
   by_cases hex:∃j,j<m1∧ρ j=i
   ·obtain⟨j,hj,rfl⟩:=hex
    rw[qX j hj,Option.map_eq_some_iff]at oe
    obtain⟨c1,pn,rfl⟩:=oe
    rcases oA j c1 k pn (wT hj hk)with h|h
    ·exact tx k h
    ·have h1:=hs.fr.size
     exact⟨fun hx=>by have:=hs.X k hx;omega,.inr (by omega)⟩
   ·have nf:∀j,j<m1→ρ j≠i:=fun j hj he=>hex ⟨j,hj,he⟩
    rw[pg i nf]at oe
    exact hs.mine i b k oe (wH nf hk)
  ·have nt:i<σ.nx:=by have:=hs.base.1;omega
   show Θ i=_∨_∧¬Kept HP i
   by_cases hex:∃j,j<m1∧ρ j=i
   ·obtain⟨j,hj,rfl⟩:=hex
    have po:=tr j hj nt
    have h1:=oh j po
    have h2:θc j=θ (ρ j):=by rw[qw j po]
    rw[h2]at h1
    rw[xt j hj]
    by_cases hkp:Kept HP (ρ j)
    ·obtain⟨e,sz,v,l,hl,hk⟩:=hkp
     have nv:=hl
     rw[qX j hj,Option.map_eq_some_iff]at nv
     obtain⟨b,hb,pc⟩:=nv
     cases b with
     |bx _ _=>cases pc
     |map _=>cases pc
     |it _ _=>cases pc
     |row e1 sz1 v1 l1 =>
      simp only[o5]at pc
      cases pc
      have zK:=h1.resolve_right fun h=>h.2 ⟨_,_,_,_,hb,hk⟩
      obtain⟨e0,v0,l0,h0,pB⟩:=(ns j po).2 _ _ _ _ hb
      have h3:=rD j po _ _ _ _ h0
      rw[zK]
      rcases hs.base.2 (ρ j) hi with h4|⟨_,h4⟩
      ·exact .inl h4
      ·exact absurd ⟨_,_,_,_,(by rw[qw j po];exact h3),pB.symm.trans hk⟩ h4
    ·rcases h1 with h1|⟨⟨x,m,k,h1⟩,_⟩
     ·rw[h1]
      exact(hs.base.2 _ hi).imp id fun h=>⟨h.1,hkp⟩
     ·rcases hs.base.2 _ hi with h4|⟨h4,_⟩
      ·exact .inr ⟨⟨x,m,k,by rw[←h4,h1]⟩,hkp⟩
      ·exact .inr ⟨h4,hkp⟩
   ·have nf:∀j,j<m1→ρ j≠i:=fun j hj he=>hex ⟨j,hj,he⟩
    rw[yZ i nf]
    refine(hs.base.2 i hi).imp id fun ⟨h1,h2⟩=>⟨h1,fun ⟨e,sz,v,l,hl,hk⟩=>h2 ⟨e,sz,v,l,?_,hk⟩⟩
    rw[←pg i nf];exact hl
 exact⟨v,Θ,rfl,rH,PT ren hv,nd,fun k hk nf=>ot k hk fun ho=>nf (xC k ho)⟩
theorem Qc{f:Nat}{g:Operand}{xs:List Operand}{ts:Array TypeId}{L args caps capF:List AV}{r:AV}{m0 m1:Nat}{hp0 hp1:Hp}(ι off:List Nat)(hc:B8 P f m0 hp0 args m1 hp1 r)
  (hg:(capF=[]∧caps=[]∧g=.func f)∨(capF=[]∧f<Hn∧F4 σ g=some (.fo f caps))∨(caps=[]∧F4 σ g=some (.fo (Hn+f) capF))) (pm:r9 (F4 σ) xs=some L) (hL:Bd (K5 ι) (K5 off) args=capF++L++caps) (nq:V3 m0 args=true) (hι:Nat.beq ι.length m0=true) (ui:DX ι σ.nx=true) (oJ:ER σ.hp hp0 ι off m0) (ns:Be hp0 hp1 m0=true)
  (sT:L1 m0 hp0=true) (pL:L1 m1 hp1=true) (hm:Nat.ble m0 m1=true) (hd:Nat.blt d n=true)
  (k:B3 P E n ops rest (St.put ⟨σ.sl,σ.nx+(m1-m0),V6 (gρ ι m0 σ.nx) (gs ι m0 σ.hp) hp1++σ.hp⟩ d (O2 (gρ ι m0 σ.nx) (gs ι m0 σ.hp) r)) K) :
  B3 P E n ops (⟨some d,.call ⟨.value g,⟨xs⟩,ts⟩,ty,pos,after,none⟩::rest) σ K:=by
 intro a w ⟨θ,hs⟩
 obtain⟨hl,om⟩:=Cg hs.evT xs L pm
 let C:=cx E θ σ w
 obtain⟨cf,cs,qN,oY,wv,ni,ov⟩:∃cf cs:List Value,a.eval g=.func (.func f) cf.toArray cs.toArray∧capF.length=cf.length∧(∀(j:Nat) x c,capF[j]?=some x→cf[j]?=some c→E0 C x c)∧caps.length=cs.length∧∀(j:Nat) x c,caps[j]?=some x→cs[j]?=some c→E0 C x c:=by
  rcases hg with ⟨rfl,rfl,rfl⟩|⟨rfl,hf,hg⟩|⟨rfl,hg⟩
  ·exact⟨[],[],rfl,rfl,fun j x c hx=>by simp at hx,rfl,fun j x c hx=>by simp at hx⟩
  ·have:=hs.ev hg
   generalize a.eval g=v at this
   cases this with
   |im hi=>cases hi
   |fo f l cs hl hc=>exact⟨[],cs,by unfold SO;rw[if_pos hf],rfl,fun j x c hx=>by simp at hx,hl,hc⟩
  ·have:=hs.ev hg
   generalize a.eval g=v at this
   generalize hF:Hn+f=F at this
   cases this with
   |im hi=>cases hi
   |fo F l cs hl hc=>exact⟨cs,[],by unfold SO;rw[if_neg (by omega),←hF,Nat.add_sub_cancel_left],hl,hc,rfl,fun j x c hx=>by simp at hx⟩
 have ve:L.length=(xs.map a.eval).length:=by rw[List.length_map,←hl]
 have hr:∀(j:Nat) x v,(capF++L++caps)[j]?=some x→(cf++xs.map a.eval++cs)[j]?=some v→E0 C x v :=
  aT (by rw[List.length_append,List.length_append,oY,ve]) (aT oY wv om) ov
 unfold wpList
 rw[if_pos (by simp[Region.wanted])]
 left
 simp only[Oper.wp]
 rw[Zw hc.1 qN]
 simp only[Oper.upon]
 rw[show cf.toArray++(xs.map a.eval).toArray++cs.toArray=(cf++xs.map a.eval++cs).toArray by simp]
 refine Calls.mono (IJ (Cl:=fun vs w R=>Calls P f vs.toArray w R) (fun h hr=>Calls.mono h hr) (args:=args) (r:=r) (hp1:=hp1) ι off hs (by rw[List.length_append,List.length_append,List.length_append,List.length_append,ve,oY,ni]) hr hL nq hι ui oJ ns sT pL hm fun X θc hX ht hb _ _ _ hl hv=>hc.2 X θc w _ hX ht hb hl hv) ?_
 rintro e w' ⟨v,Θ,rfl,rH,pG,_⟩
 exact k _ _ ⟨Θ,rH.put (Nat.blt_eq▸hd) pG⟩
theorem l4{f:Nat}{xs:List Operand}{ts:Array TypeId}{L args:List AV}{r:AV}{m0 m1:Nat}{hp0 hp1:Hp}(ι off:List Nat)(hc:B8 P f m0 hp0 args m1 hp1 r)
  (pm:r9 (F4 σ) xs=some L) (hL:Bd (K5 ι) (K5 off) args=L) (nq:V3 m0 args=true) (hι:Nat.beq ι.length m0=true) (ui:DX ι σ.nx=true) (oJ:ER σ.hp hp0 ι off m0) (ns:Be hp0 hp1 m0=true)
  (sT:L1 m0 hp0=true) (pL:L1 m1 hp1=true) (hm:Nat.ble m0 m1=true) (hd:Nat.blt d n=true)
  (k:B3 P E n ops rest (St.put ⟨σ.sl,σ.nx+(m1-m0),V6 (gρ ι m0 σ.nx) (gs ι m0 σ.hp) hp1++σ.hp⟩ d (O2 (gρ ι m0 σ.nx) (gs ι m0 σ.hp) r)) K) :
  B3 P E n ops (⟨some d,.call ⟨.value (.func f),⟨xs⟩,ts⟩,ty,pos,after,none⟩::rest) σ K :=
 Qc (caps:=[]) (capF:=[]) ι off hc (.inl ⟨rfl,rfl,rfl⟩) pm (by rw[List.append_nil,List.nil_append];exact hL) nq hι ui oJ ns sT pL hm hd k
theorem G3{f:Nat}{xs:List Operand}{ts:Array TypeId}{L args:List AV}{r:AV}{m0 m1:Nat}{hp0 hp1:Hp}(ι off:List Nat)(hc:B8 P f m0 hp0 args m1 hp1 r)
  (pm:r9 (F4 σ) xs=some L) (hL:Bd (K5 ι) (K5 off) args=L) (nq:V3 m0 args=true) (hι:Nat.beq ι.length m0=true) (ui:DX ι σ.nx=true) (oJ:ER σ.hp hp0 ι off m0) (ns:Be hp0 hp1 m0=true)
  (sT:L1 m0 hp0=true) (pL:L1 m1 hp1=true) (hm:Nat.ble m0 m1=true) (hd:Nat.blt d n=true)
  (k:V4 (O2 (gρ ι m0 σ.nx) (gs ι m0 σ.hp) r) fun r2=>V5 (V6 (gρ ι m0 σ.nx) (gs ι m0 σ.hp) hp1++σ.hp) fun hp2=>H0 (σ.nx+(m1-m0)) fun tB=>B3 P E n ops rest (St.put ⟨σ.sl,tB,hp2⟩ d r2) K) :
  B3 P E n ops (⟨some d,.call ⟨.value (.func f),⟨xs⟩,ts⟩,ty,pos,after,none⟩::rest) σ K :=
 l4 ι off hc pm hL nq hι ui oJ ns sT pL hm hd (E3 (T7 (FJ k)))
theorem Wf{f:Nat}{g:Operand}{xs:List Operand}{ts:Array TypeId}{L args caps:List AV}{r:AV}{m0 m1:Nat}{hp0 hp1:Hp}(ι off:List Nat)(hc:B8 P f m0 hp0 args m1 hp1 r)
  (hg:F4 σ g=some (.fo f caps)) (pm:r9 (F4 σ) xs=some L) (hL:Bd (K5 ι) (K5 off) args=L++caps) (nq:V3 m0 args=true) (hι:Nat.beq ι.length m0=true) (ui:DX ι σ.nx=true) (oJ:ER σ.hp hp0 ι off m0) (ns:Be hp0 hp1 m0=true)
  (sT:L1 m0 hp0=true) (pL:L1 m1 hp1=true) (hm:Nat.ble m0 m1=true) (hd:Nat.blt d n=true)
  (k:V4 (O2 (gρ ι m0 σ.nx) (gs ι m0 σ.hp) r) fun r2=>V5 (V6 (gρ ι m0 σ.nx) (gs ι m0 σ.hp) hp1++σ.hp) fun hp2=>H0 (σ.nx+(m1-m0)) fun tB=>B3 P E n ops rest (St.put ⟨σ.sl,tB,hp2⟩ d r2) K) (hf:Nat.blt f Hn=true:=by rfl) :
  B3 P E n ops (⟨some d,.call ⟨.value g,⟨xs⟩,ts⟩,ty,pos,after,none⟩::rest) σ K :=
 Qc (capF:=[]) ι off hc (.inr (.inl ⟨rfl,by simpa using hf,hg⟩)) pm (by rw[List.nil_append];exact hL) nq hι ui oJ ns sT pL hm hd (E3 (T7 (FJ k)))
theorem MS{f:Nat}{xs:List Operand}{caps l:List AV}(ha:r9 (F4 σ) xs=some caps)(hd:Nat.blt d n=true)(k:B3 P E n ops rest (σ.put d (.fo f caps)) K)(hf:Nat.blt f Hn=true:=by rfl):
  l6 P E n ops ⟨some d,.makeFunc (.func f) ⟨[]⟩ ⟨xs⟩,ty,pos,after,none⟩ rest l σ K :=
 ⟨JR (Sn ha (by simpa using hf)) hd k⟩
end rules
section pure
variable {P:Program} {E:Env} {nx:Nat} {hp:Hp} {ev:Operand→Option AV} {ty:TypeId} {x y:Operand} {F:AV→Prop} {T T2:TypeId}
theorem kM{av:AV}(hx:ev x=some av):Ec P E nx hp ev (.move x) ty av:=fun _ _ _ _ _ _ h=>⟨_,fun _=>rfl,h.rel hx⟩
theorem dQ{av:AV}(hx:ev x=some av):Ec P E nx hp ev (.assign x) ty av:=fun _ _ _ _ _ _ h=>⟨_,fun _=>rfl,h.rel hx⟩
theorem TI{op:BinOp}{k:IntKind}{a b:Int}{r:Value}(hx:ev x=some (.v (.int k a)))(hy:ev y=some (.v (.int k b)))(hr:DN op k a b=some r):
  Ec P E nx hp ev (.binOp op T x y T2) ty (.v r) :=
 fun _ _ _ _ _ _ h=>⟨r,fun w=>K3 (by rw[(h.rel hx).val,(h.rel hy).val];exact Aw ..) (by rw[(h.rel hx).val,(h.rel hy).val];exact SW hr T w),.im (.v _)⟩
theorem kN{a b:List UInt8}(hx:ev x=some (.str a))(hy:ev y=some (.str b))(hr:a.length+b.length≤9223372036854775807):
  Ec P E nx hp ev (.binOp .add T x y T2) ty (.str (a++b)) :=
 fun _ _ _ _ _ _ h=>⟨_,fun w=>K3 (by rw[(h.rel hx).sval,(h.rel hy).sval];exact Gq ..) (by rw[(h.rel hx).sval,(h.rel hy).sval];exact SX hr T w),.im (.str _)⟩
theorem Vf{S f off sz:Nat}[tf:D8 P S f off sz]{i o:Nat}(hx:ev x=some (.ref i o))(hz:Nat.blt 0 sz=true):Ec P E nx hp ev (.fieldAddr S x f) ty (.ref i (o+off)) :=
 fun _ _ _ θ a w h=>by
  obtain⟨b,hθ,hv,nt⟩:=o9 (h.rel hx)
  refine⟨.pointer (some ⟨b,o+off,none⟩),fun w=>?_,.ref i _ b nt hθ⟩
  simp only[execOp,hv,Sem.run_bind,Ax (P:=P) (S:=S) (f:=f) (off:=off) (sz:=sz) (Nat.blt_eq▸hz),Result.andThen_ok,H3]
  rfl
theorem TJ{S f off sz:Nat}[tf:D8 P S f off sz]{l:List AV}(hx:ev x=some (.iptr l))(hz:Nat.blt 0 sz=true):Ec P E nx hp ev (.fieldAddr S x f) ty (.iptr (l.drop off)) :=
 fun _ _ _ θ a w h=>by
  obtain⟨p,g,hv,hu,hc,hr⟩:=Fi (h.rel hx)
  refine⟨.pointer (some (p.add off)),fun w=>?_,.im (.iptr _ _ (fun j=>g (off+j)) (fun hne=>?_) (fun j hj=>?_) fun j u qv=>?_)⟩
  ·simp only[execOp,hv,Sem.run_bind,Ax (P:=P) (S:=S) (f:=f) (off:=off) (sz:=sz) (Nat.blt_eq▸hz),Result.andThen_ok]
   rfl
  ·rw[r8];exact hu (by rintro rfl;simp at hne)
  ·rw[Dw];exact hc _ (by simp at hj;omega)
  ·rw[List.getElem?_drop]at qv;exact hr _ _ qv
theorem Vg{S f off sz:Nat}[tf:D8 P S f off sz]{i ver k o e xE:Nat}{l:List (List AV)}(hx:ev x=some (.elt i ver k o))(hb:A5 hp i=some (.row e xE ver l))(hz:Nat.blt 0 sz=true):Ec P E nx hp ev (.fieldAddr S x f) ty (.elt i ver k (o+off)) :=
 fun _ _ _ θ a w h=>by
  obtain⟨g,m,cap,hθ,hv,nt⟩:=Cv (h.rel hx) hb
  refine⟨.pointer (some ⟨g,k*xE+o+off,none⟩),fun w=>?_,.elt i ver k _ _ nt fun e' nQ v' l' oG=>?_⟩
  ·simp only[execOp,hv,Sem.run_bind,Ax (P:=P) (S:=S) (f:=f) (off:=off) (sz:=sz) (Nat.blt_eq▸hz),Result.andThen_ok,H3]
   rfl
  ·have:A5 hp i=some (.row e' nQ v' l'):=oG
   rw[hb]at this
   cases this
   exact⟨Nat.le_refl _,fun _=>⟨g,m,cap,hθ,by rw[Nat.add_assoc]⟩⟩
theorem mH{b:Bool}(hx:ev x=some (.v (.bool b))):Ec P E nx hp ev (.unOp .not T x) ty (.v (.bool (!b))) :=
 fun _ _ _ _ _ _ h=>⟨_,fun w=>by simp[execOp,Op.unary,(h.rel hx).val,Sem.run_bind,Sem.run_pure],.im (.v _)⟩
theorem aU[ts:o4 P T]{l:List UInt8}(hx:ev x=some (.str l)):Ec P E nx hp ev (.call ⟨.builtin .len,#[x],#[T]⟩) ty (.i l.length) :=
 fun _ _ _ _ _ _ h=>⟨_,fun w=>by rw[T0,(h.rel hx).sval];simp[builtin,run_len_string w T ty _ ts.out,Sem.run_bind,Sem.run_pure,goInt,ByteArray.size],.im (.v _)⟩
theorem dR{e sz:Nat}[ts:L5 P T e sz]{nQ:Nat}{l:List (List AV)}(hx:ev x=some (.sl nQ l)):Ec P E nx hp ev (.call ⟨.builtin .len,#[x],#[T]⟩) ty (.i l.length) :=
 fun _ _ _ _ _ _ h=>by
  obtain⟨_,p,cap,hv⟩:=Zr (h.rel hx)
  exact⟨_,fun w=>by rw[T0,hv];simp[builtin,run_len_slice ts.out.1,Sem.run_bind,Sem.run_pure],.im (.v _)⟩
theorem aV{e sz:Nat}[ts:L5 P T e sz]{i ver len e' nQ:Nat}{l:List (List AV)}(hx:ev x=some (.row i ver len))(hb:A5 hp i=some (.row e' nQ ver l)):Ec P E nx hp ev (.call ⟨.builtin .len,#[x],#[T]⟩) ty (.i len) :=
 fun _ _ _ θ a w h=>by
  obtain⟨hl,hv,_⟩:=AB (h.rel hx) hb
  obtain⟨xs,nP,_⟩:=h.row hb
  obtain⟨p,cap,hs,_⟩:=p0 nP
  have ob:a.eval x=.slice p l.length cap:=by rw[hv];exact hs
  exact⟨_,fun w=>by rw[T0,ob,hl];simp[builtin,run_len_slice ts.out.1,Sem.run_bind,Sem.run_pure],.im (.v _)⟩
theorem Vh{e sz:Nat}[ts:L5 P T e sz]{i ver len e':Nat}{l:List (List AV)}{k:IntKind}{j:Int}(hx:ev x=some (.row i ver len))(hb:A5 hp i=some (.row e' sz ver l))(hy:ev y=some (.v (.int k j)))(h0:0≤j)(h1:j<len):
  Ec P E nx hp ev (.indexAddr T x y) ty (.elt i ver j.toNat 0) :=
 fun _ _ _ θ a w h=>by
  obtain⟨hl,hv,nt⟩:=AB (h.rel hx) hb
  obtain⟨xs,nP,hsz,_⟩:=h.row hb
  have hj:=(h.rel hy).val
  rcases nP.2 with ⟨hθ,hn⟩|⟨g,cap,nR,hθ,_,hg,_⟩
  ·omega
  ·have ob:a.eval x=.slice (some ⟨g,0,none⟩) l.length cap:=by rw[hv];exact hθ
   refine⟨.pointer (some ⟨g,j.toNat*sz,none⟩),fun w=>?_,.elt i ver _ 0 _ nt fun e2 pD v2 l2 nv=>?_⟩
   ·simp only[execOp,ob,hj,Sem.run_bind]
    rw[EN (P:=P) (T:=T) (e:=e) (sz:=sz) h0 (by omega),H3,Nat.zero_add]
    rfl
   ·have:A5 hp i=some (.row e2 pD v2 l2):=nv
    rw[hb]at this
    cases this
    exact⟨Nat.le_refl _,fun _=>⟨g,l.length,cap,hθ,by simp⟩⟩
theorem YB{e sz:Nat}[ts:L5 P T e sz]{l:List (List AV)}{k:IntKind}{i:Int}{el:List AV}(hx:ev x=some (.sl sz l))(hy:ev y=some (.v (.int k i)))(h0:0≤i)(nJ:l[i.toNat]?=some el):Ec P E nx hp ev (.indexAddr T x y) ty (.iptr el) :=
 fun _ _ _ θ a w h=>by
  have nN:i.toNat<l.length:=(List.getElem?_eq_some_iff.1 nJ).1
  have hi:=(h.rel hy).val
  rcases Fj (h.rel hx)with ⟨_,e⟩|⟨p,cap,f,hv,h3,h4,h5,h6,h7,h8⟩
  ·subst e;simp at nN
  ·have hsz:=h6 _ (List.mem_of_getElem? nJ)
   refine⟨.pointer (some (p.add (i.toNat*sz))),fun w=>?_,.im (.iptr _ _ (f i.toNat) (fun hne=>?_) (fun j hj=>?_) fun j u hu=>h8 _ _ nJ j u hu)⟩
   ·simp only[execOp,hv,hi,Sem.run_bind]
    rw[EN (P:=P) (T:=T) (e:=e) (sz:=sz) h0 (by omega)]
    rfl
   ·rw[r8]
    refine h5 (by intro e;simp[e]at nN) ?_
    have h9:=List.length_pos_iff.2 hne
    omega
   ·rw[Dw]
    exact h7 _ nN _ (by omega)
def dS:Op→Bool
 |.move _|.assign _|.fieldAddr ..|.build ..=>true
 |.binOp .quo ..|.binOp .rem ..|.binOp .shl ..|.binOp .shr ..=>false
 |.binOp ..=>true
 |_=>false
def aW(ev:Operand→Option AV):Op→Bool
 |.indexAddr _ x _=>match ev x with
  |some (.row ..)=>true
  |some (.sl ..)=>true
  |_=>false
 |.call ⟨.builtin .len,⟨[x]⟩,_⟩=>match ev x with
  |some (.row ..)=>true
  |some (.sl ..)=>true
  |some (.str ..)=>true
  |_=>false
 |.unOp .not _ x=>match ev x with
  |some (.v (.bool _))=>true
  |_=>false
 |op=>dS op
def PV(P:Program)(op:Op)(ev:Operand→Option AV)(hp:Hp)(F:AV→Prop):Prop :=
 match op with
 |.move x=>Y7 (ev x) F
 |.assign x=>Y7 (ev x) F
 |.binOp op _ x y _=>match op,ev x,ev y with
  |.add,some (.v (.int .i64 a)),some (.v (.int .i64 b))=>G6 (-9223372036854775808≤a+b∧a+b≤9223372036854775807) (F (.v (.int .i64 (a+b))))
  |.sub,some (.v (.int .i64 a)),some (.v (.int .i64 b))=>G6 (-9223372036854775808≤a-b∧a-b≤9223372036854775807) (F (.v (.int .i64 (a-b))))
  |.add,some (.str a),some (.str b)=>G6 (a.length+b.length≤9223372036854775807) (F (.str (a++b)))
  |op,some (.v (.int k a)),some (.v (.int k' b))=>cond (decide (k=k')) (match DN op k a b with
   |some r=>F (.v r)
   |none=>False) False
  |_,_,_=>False
 |.fieldAddr S x f=>PN P S f fun off sz=>cond (Nat.blt 0 sz) (match ev x with
  |some (.ref i o)=>F (.ref i (o+off))
  |some (.iptr l)=>F (.iptr (l.drop off))
  |some (.elt i ver k o)=>(match A5 hp i with
   |some (.row _ _ oC _)=>G6 (ver=oC) (F (.elt i ver k (o+off)))
   |_=>False)
  |_=>False) False
 |.build T ⟨parts⟩=>match CM ev parts with
  |some ps=>Jb P T fun zs pl=>Ee hp ps (Y7 ((Ca pl zs ps).map AV.agg) F)
  |none=>False
 |.indexAddr T x y=>(match ev x,ev y with
  |some (.sl sz l),some (.v (.int _ i))=>JI P T fun _ nQ=>cond (Nat.beq sz nQ) (Q3 l i fun el=>F (.iptr el)) False
  |some (.row r ver len),some (.v (.int _ i))=>(match A5 hp r with
   |some (.row _ sz oC _)=>G6 (ver=oC) (JI P T fun _ nQ=>cond (Nat.beq sz nQ) (G6 (0≤i∧i<len) (F (.elt r ver i.toNat 0))) False)
   |_=>False)
  |_,_=>False)
 |.call ⟨.builtin .len,⟨[x]⟩,⟨[T]⟩⟩=>(match ev x with
  |some (.sl _ l)=>JI P T fun _ _=>PM l fun m=>F (.i m)
  |some (.str s)=>EQ P T (F (.i s.length))
  |some (.row r ver len)=>(match A5 hp r with
   |some (.row _ _ oC _)=>G6 (ver=oC) (JI P T fun _ _=>F (.i len))
   |_=>False)
  |_=>False)
 |.unOp .not _ x=>(match ev x with
  |some (.v (.bool b))=>F (.v (.bool (!b)))
  |_=>False)
 |_=>False
theorem kO{op:Op}(h:PV P op ev hp F):∃av,Ec P E nx hp ev op ty av∧F av:=by
 unfold PV at h
 split at h
 ·obtain⟨a,hx,h⟩:=J7 h;exact⟨a,kM hx,h⟩
 ·obtain⟨a,hx,h⟩:=J7 h;exact⟨a,dQ hx,h⟩
 ·split at h
  ·rename_i hx hy;exact⟨_,TI hx hy (by simp only[DN,Q2 h.h]),h.k⟩
  ·rename_i hx hy;exact⟨_,TI hx hy (by simp only[DN,Q2 h.h]),h.k⟩
  ·rename_i hx hy;exact⟨_,kN hx hy h.h,h.k⟩
  ·rename_i hx hy
   obtain⟨hk,hq⟩:=cond_false h
   have hk:=of_decide_eq_true hk
   subst hk
   split at hq
   ·rename_i hr;exact⟨_,TI hx hy hr,hq⟩
   ·exact hq.elim
  ·exact h.elim
 ·obtain⟨⟨off,sz,tf,h⟩⟩:=h
  obtain⟨hz,h⟩:=cond_false h
  split at h
  ·rename_i hx;exact⟨_,Vf (off:=off) (sz:=sz) hx hz,h⟩
  ·rename_i hx;exact⟨_,TJ (off:=off) (sz:=sz) hx hz,h⟩
  ·rename_i hx
   split at h
   ·rename_i hb
    obtain⟨rfl,h⟩:=h
    exact⟨_,Vg (off:=off) (sz:=sz) hx hb hz,h⟩
   ·exact h.elim
  ·exact h.elim
 ·split at h
  ·rename_i ps sr
   obtain⟨⟨zs,pl,tz,tp,h⟩⟩:=h
   obtain⟨hf,h⟩:=w7 h
   obtain⟨a,ha,h⟩:=J7 h
   rw[Option.map_eq_some_iff]at ha
   obtain⟨l,hl,rfl⟩:=ha
   exact⟨_,WV (T:=_) sr hf hl,h⟩
  ·exact h.elim
 ·split at h
  ·rename_i hx hy
   obtain⟨⟨e,nQ,ts,h⟩⟩:=h
   obtain⟨hc,hq⟩:=cond_false h
   have hc:=Nat.eq_of_beq_eq_true hc
   subst hc
   obtain⟨h0,h1,hk⟩:=hq
   rename_i sz l kk i
   have nN:i.toNat<l.length:=by omega
   have nJ:l[i.toNat]?=some l[i.toNat]:=List.getElem?_eq_getElem nN
   exact⟨_,YB (e:=e) hx hy h0 nJ,hk _ nJ⟩
  ·rename_i hx hy
   split at h
   ·rename_i hb
    obtain⟨rfl,h⟩:=h
    obtain⟨⟨e,nQ,ts,h⟩⟩:=h
    obtain⟨hc,hq⟩:=cond_false h
    have hc:=Nat.eq_of_beq_eq_true hc
    subst hc
    exact⟨_,Vh (e:=e) hx hb hy hq.h.1 hq.h.2,hq.k⟩
   ·exact h.elim
  ·exact h.elim
 ·split at h
  ·rename_i hx
   obtain⟨⟨e,nQ,ts,h⟩⟩:=h
   exact⟨_,dR (e:=e) (sz:=nQ) hx,h.k⟩
  ·rename_i hx
   obtain⟨ts,h⟩:=h
   exact⟨_,aU hx,h⟩
  ·rename_i hx
   split at h
   ·rename_i hb
    obtain⟨rfl,h⟩:=h
    obtain⟨⟨e,nQ,ts,h⟩⟩:=h
    exact⟨_,aV (e:=e) (sz:=nQ) hx hb,h⟩
   ·exact h.elim
  ·exact h.elim
 ·split at h
  ·rename_i hx;exact⟨_,mH hx,h⟩
  ·exact h.elim
 ·exact h.elim
end pure
def p9(ops:Array Oper):List (List Nat):=ops.toList.map fun o=>(o.after.toList.filter fun e=>Region.binds .any e).map (·.on)
def l7(all:List Bool):Nat→List (List Nat)→List Bool→List Nat
 |k,e::es,b::bs=>cond b (l7 all (k+1) es bs) (cond (e.all fun j=>all.getD j false) (k::l7 all (k+1) es bs) (l7 all (k+1) es bs))
 |_,_,_=>[]
theorem DY{all:List Bool}:∀(es:List (List Nat)) (bs:List Bool) (k i:Nat),i∈l7 all k es bs↔∃j e,i=k+j∧es[j]?=some e∧bs[j]?=some false∧(∀x∈e,all.getD x false=true)
 |[],bs,k,i=>by simp[l7]
 |e::es,[],k,i=>by simp[l7]
 |e::es,b::bs,k,i=>by
  have ih:=DY (all:=all) es bs (k+1) i
  have key:(∃j e',i=k+j∧(e::es)[j]?=some e'∧(b::bs)[j]?=some false∧(∀x∈e',all.getD x false=true))↔(i=k∧b=false∧∀x∈e,all.getD x false=true)∨i∈l7 all (k+1) es bs:=by
   rw[ih]
   constructor
   ·rintro ⟨j,e',h1,h2,h3,h4⟩
    cases j with
    |zero=>simp at h2 h3;subst h2;exact .inl ⟨by omega,h3,h4⟩
    |succ j=>exact .inr ⟨j,e',by omega,by simpa using h2,by simpa using h3,h4⟩
   ·rintro (⟨h1,h2,h3⟩|⟨j,e',h1,h2,h3,h4⟩)
    ·exact⟨0,e,by omega,rfl,by simp[h2],h3⟩
    ·exact⟨j+1,e',by omega,by simpa using h2,by simpa using h3,h4⟩
  rw[key]
  have np:(e.all fun j=>all.getD j false)=true↔∀x∈e,all.getD x false=true:=by rw[List.all_eq_true]
  cases b with
  |true=>simp[l7]
  |false =>
   simp only[l7,Bool.cond_false]
   cases ha:e.all fun j=>all.getD j false with
   |true =>
    rw[ha]at np
    simp only[true_iff]at np
    simp only[Bool.cond_true,List.mem_cons]
    constructor
    ·intro h
     rcases h with h|h
     ·exact Or.inl ⟨h,by first|trivial|rfl,by first|exact np|trivial⟩
     ·exact Or.inr h
    ·intro h
     rcases h with h|h
     ·exact Or.inl h.1
     ·exact Or.inr h
   |false =>
    rw[ha]at np
    simp only[Bool.false_eq_true,false_iff]at np
    simp only[Bool.cond_false]
    constructor
    ·exact Or.inr
    ·intro h
     rcases h with h|h
     ·exact absurd h.2.2 np
     ·exact h
theorem X6{ops:Array Oper}{l:List Bool}(hl:l.length=ops.size)(i:Nat):i∈Region.ready .any ops l.toArray↔i∈l7 l 0 (p9 ops) l:=by
 rw[mem_ready,DY]
 constructor
 ·rintro ⟨h1,o,ho,h2⟩
  have nN:i<ops.size:=(Array.getElem?_eq_some_iff.1 ho).1
  refine⟨i,_,by omega,by simp[p9,ho];rfl,?_,?_⟩
  ·have qT:i<l.length:=by omega
   simp[qT]at h1 ⊢
   exact h1
  ·intro x hx
   simp only[List.mem_map,List.mem_filter,Array.mem_toList_iff]at hx
   obtain⟨e,⟨he,hb⟩,rfl⟩:=hx
   have:=h2 e he hb
   simpa using this
 ·rintro ⟨j,e,h0,h1,h2,h3⟩
  have:j=i:=by omega
  subst this
  simp only[p9,List.getElem?_map,Option.map_eq_some_iff,Array.getElem?_toList]at h1
  obtain⟨o,ho,rfl⟩:=h1
  refine⟨by simp[h2],o,ho,fun e he hb=>?_⟩
  have:=h3 e.on (List.mem_map.2 ⟨e,List.mem_filter.2 ⟨by simpa using he,hb⟩,rfl⟩)
  simpa using this
theorem MT{P:Program}{o:Oper}{a:Act}{w:World}{K K':Act→World→Prop}{Q Q':Exit→Act→World→Prop}(hQ:∀e a w,Q e a w→e=.normal)(h:∀a w,K a w→K' a w)(hh:o.wp P a w K Q):o.wp P a w K' Q':=by
 unfold Oper.wp at *
 generalize (execOp a.eval o).run P w=r at *
 cases r with
 |ok n w' =>
  cases n<;>simp only[Oper.upon]at hh ⊢ <;>
   first
    |exact h _ _ hh
    |exact Calls.mono hh (fun e rJ he=>by
      cases e with
      |returned v=>exact h _ _ he
      |panicked c=>exact absurd (hQ _ _ _ he) (by simp)
      |outgrown=>obtain⟨a,w,hx⟩:=he;exact absurd (hQ _ _ _ hx) (by simp))
    |exact Rows.mono hh (fun _ _ he=>h _ _ he)
 |halt x w' =>
  cases x<;>simp only[Oper.upon]at hh ⊢
  exact absurd (hQ _ _ _ hh) (by simp)
theorem PU{P:Program}{ops:Array Oper}{Q Q':Exit→Act→World→Prop}(hQ:∀e a w,Q e a w→e=.normal)(h:∀a w,Q .normal a w→Q' .normal a w):∀(nO:Nat) (listed:Array Bool) (a:Act) (w:World),wpAny P .any ops Q nO listed a w→wpAny P .any ops Q' nO listed a w:=by
 intro nO
 induction nO with
 |zero=>intro l a w hx;exact⟨hx.1,h a w hx.2⟩
 |succ nO ih =>
  intro l a w hx
  refine⟨fun hr=>h a w (hx.1 hr),fun i hi=>?_⟩
  have h1:=hx.2 i hi
  unfold wpOp at h1 ⊢
  split at h1
  ·exact ih _ _ _ h1
  ·split at h1
   ·rename_i hw
    rw[if_pos hw]
    rcases h1 with h1|⟨_,a1,w1,hx⟩
    ·exact .inl (MT hQ (fun a' w' hn=>ih _ _ _ hn) h1)
    ·exact absurd (hQ _ _ _ hx) (by simp)
   ·rename_i hw
    rw[if_neg hw]
    exact ih _ _ _ h1
section rules
variable {P:Program} {E:Env} {n:Nat} {ops:Array Oper} {σ:St} {K:St→Prop} {Q:Exit→St→Prop}
def C8(P:Program)(E:Env)(n:Nat)(ops:Array Oper)(nO:Nat)(l:List Bool)(σ:St)(K:St→Prop):Prop :=
 ∀a w,o3 E n σ a w→wpAny P .any ops (fun e a' w'=>e=.normal∧∃σ',K σ'∧o3 E n σ' a' w') nO l.toArray a w
def dT(P:Program)(E:Env)(n:Nat)(ops:Array Oper)(nO:Nat)(l:List Bool)(σ:St)(K:St→Prop):List Nat→Prop
 |[]=>True
 |i::r=>(match ops[i]? with
  |some o=>B3 P E n ops [o] σ fun σ'=>C8 P E n ops nO (l.set i true) σ' K
  |none=>False)∧dT P E n ops nO l σ K r
theorem TK{nO:Nat}{l:List Bool}:∀{r:List Nat},dT P E n ops nO l σ K r→∀i∈r,∃o,ops[i]?=some o∧B3 P E n ops [o] σ fun σ'=>C8 P E n ops nO (l.set i true) σ' K
 |[],_,i,hi=>by cases hi
 |j::r,h,i,hi=>by
  rcases List.mem_cons.1 hi with rfl|hi
  ·have:=h.1
   split at this
   ·rename_i o ho;exact⟨o,ho,this⟩
   ·exact this.elim
  ·exact TK h.2 i hi
structure YC(P:Program)(E:Env)(n:Nat)(ops:Array Oper)(nO:Nat)(l:List Bool)(σ:St)(K:St→Prop)(r:List Nat):Prop where
 h:dT P E n ops nO l σ K r
def Jm(ev:Operand→Option AV)(ops:Array Oper)(l:List Bool):List Nat→Option Nat
 |[]=>none
 |i::r=>match ops[i]? with
  |some ⟨some _,op,_,_,_,none⟩=>cond (aW ev op) (some i) (Jm ev ops l r)
  |_=>Jm ev ops l r
structure YD(p:Prop)(A:Prop):Prop where
 h:p
 k:A
def kP(P:Program)(E:Env)(n:Nat)(ops:Array Oper)(nO:Nat)(l:List Bool)(σ:St)(K:St→Prop):Prop :=
 match l7 l 0 (p9 ops) l with
 |[]=>K σ
 |i::r=>match nO with
  |0=>False
  |nO+1=>match Jm (F4 σ) ops l (i::r)with
   |some i=>match ops[i]? with
    |some ⟨some d,op,_,_,_,none⟩=>YD (Region.free .any ops l.toArray i=true∧i∈l7 l 0 (p9 ops) l) (cond (Nat.blt d n) (PV P op (F4 σ) σ.hp fun av=>C8 P E n ops nO (l.set i true) (σ.put d av) K) False)
    |_=>False
   |none=>YC P E n ops nO l σ K (i::r)
theorem X0(l:List Bool)(i:Nat):l.toArray.setIfInBounds i true=(l.set i true).toArray:=by simp
theorem gp{nO:Nat}{l:List Bool}(zX:Region.noSelect ops=true)(hl:Nat.beq l.length ops.size=true)(h:kP P E n ops nO l σ K):C8 P E n ops nO l σ K:=by
 have hl:=Nat.eq_of_beq_eq_true hl
 unfold kP at h
 split at h
 ·rename_i hr
  intro a w hs
  have pV:Region.ready .any ops l.toArray=[]:=by
   cases hx:Region.ready .any ops l.toArray with
   |nil=>rfl
   |cons i r=>have:=(X6 hl i).1 (by rw[hx];simp);rw[hr]at this;cases this
  exact wpAny_done pV ⟨rfl,σ,h,hs⟩ _
 ·rename_i i r hr
  split at h
  ·exact h.elim
  ·rename_i nO
   split at h
   ·rename_i i' ud
    split at h
    ·rename_i d op ty pos after qK
     obtain⟨⟨hf,zb⟩,h⟩:=h
     obtain⟨hd,h⟩:=cond_false h
     obtain⟨av,hp,h⟩:=kO (E:=E) (nx:=σ.nx) (ty:=ty) h
     rintro a w ⟨θ,hs⟩
     obtain⟨v,uy,qq⟩:=hp (some d) pos after θ a w hs.evT
     refine wpAny_take qK zX hf (by simpa using (X6 hl i').2 zb) (fun c a w hc=>by cases hc.1) (v:=v) (.inl ⟨by simp[Region.wanted],uy⟩) ?_
     rw[X0]
     exact h _ _ ⟨θ,hs.put (Nat.blt_eq▸hd) qq⟩
    ·exact h.elim
   ·intro a w hs
    refine⟨fun pV=>?_,fun j hj=>?_⟩
    ·have:=(X6 hl i).2 (by rw[hr];simp)
     rw[pV]at this
     cases this
    ·have nk:=(X6 hl j).1 hj
     rw[hr]at nk
     obtain⟨o,ho,hA⟩:=TK h.h j nk
     have hw:=hA a w hs
     unfold wpOp
     simp only[ho]
     unfold wpList at hw
     split
     ·rename_i pK
      rw[if_pos pK]at hw
      rcases hw with hw|⟨_,a1,w1,hx⟩
      ·refine .inl (MT (fun e a w h=>h.1) (fun a' w' hn=>?_) hw)
       obtain⟨_,σ',hk,oX⟩:=hn
       rw[X0]
       exact hk a' w' oX
      ·exact absurd hx.1 (by simp)
     ·rename_i pK
      rw[if_neg pK]at hw
      obtain⟨_,σ',hk,oX⟩:=hw
      rw[X0]
      exact hk _ _ oX
def Q0(ops:Array Oper):List Bool:=ops.toList.map fun _=>false
theorem HU{id:Nat}[hm:Jh P](S:St)(h:C8 P E n ops ops.size (Q0 ops) σ fun σ'=>St.le E n σ' S)(k:Q .normal S):DU P E n id ops σ Q:=by
 refine⟨fun a w ⟨θ,hs⟩=>wp_region_any hm.out ?_⟩
 have hb:Below w.heap.size w { w with drawn:=w.drawn+1 }:=Below.drew (Below.refl _ _)
 have h1:=h a { w with drawn:=w.drawn+1 } ⟨θ,hs.below hb⟩
 have e:(Q0 ops).toArray=Array.replicate ops.size false:=by
  apply Array.ext'
  simp[Q0,List.map_const']
 rw[e]at h1
 exact PU (fun e a w hx=>hx.1) (fun a w hx=>by
  obtain⟨_,σ',oW,oX⟩:=hx
  exact⟨S,k,oW a w oX⟩) _ _ _ _ h1
theorem C0{σ1 σ2 σ3:St}(h:St.le E n σ1 σ2)(h':St.le E n σ2 σ3):St.le E n σ1 σ3:=fun a w hs=>h' a w (h a w hs)
theorem B2{σ1:St}:St.le E n σ1 σ1:=fun a w hs=>hs
def swp(i j k:Nat):Nat:=cond (Nat.beq k i) j (cond (Nat.beq k j) i k)
theorem HV(i j k:Nat):swp i j k=if k=i then j else if k=j then i else k:=by
 unfold swp
 cases h1:Nat.beq k i with
 |true=>rw[if_pos (Nat.eq_of_beq_eq_true h1)];rfl
 |false =>
  have:k≠i:=by intro e;subst e;simp at h1
  rw[if_neg this]
  cases h2:Nat.beq k j with
  |true=>rw[if_pos (Nat.eq_of_beq_eq_true h2)];rfl
  |false =>
   have:k≠j:=by intro e;subst e;simp at h2
   rw[if_neg this];rfl
theorem Dz(i j k:Nat):swp i j (swp i j k)=k:=by
 rw[HV i j k]
 split
 ·rename_i h;subst h
  rw[HV]
  split
  ·rename_i h;exact h
  ·rw[if_pos rfl]
 ·split
  ·rename_i h;subst h;rw[HV,if_pos rfl]
  ·rename_i h1 h2;rw[HV,if_neg h1,if_neg h2]
theorem CP(i j:Nat){m:Nat}(h0:E.n0=m)(hb:(Nat.ble m i && Nat.ble m j && Nat.blt i σ.nx && Nat.blt j σ.nx)=true)(nN:L1 σ.nx σ.hp=true):
  St.le E n σ ⟨BQ (O2 (swp i j) fun _=>0) σ.sl,σ.nx,V6 (swp i j) (fun _=>0) σ.hp⟩:=by
 simp only[Bool.and_eq_true,Nat.ble_eq,Nat.blt_eq]at hb
 obtain⟨⟨⟨hi0,po⟩,hi⟩,hj⟩:=hb
 have yX:∀k,k<σ.nx→swp i j k<σ.nx:=fun k hk=>by
  rw[HV]
  split
  ·exact hj
  ·split
   ·exact hi
   ·exact hk
 have ur:∀a b,a<σ.nx→b<σ.nx→swp i j a=swp i j b→a=b:=fun a b _ _ h=>by rw[←Dz i j a,h,Dz]
 have up:∀q,q<σ.nx→A5 (V6 (swp i j) (fun _=>0) σ.hp) (swp i j q)=(A5 σ.hp q).map (o5 (swp i j) (fun _=>0) q):=by
  intro q hq
  have:=IH (ρ:=swp i j) (s:=fun _=>0) ur σ.hp [] nN q hq
  rw[List.append_nil]at this
  unfold A5
  rw[this]
  cases look σ.hp q with
  |none=>rfl
  |some b=>cases b<;>rfl
 have nf:∀k,σ.nx≤k→A5 (V6 (swp i j) (fun _=>0) σ.hp) k=none:=by
  intro k hk
  have:=Cj (ρ:=swp i j) (s:=fun _=>0) (m:=σ.nx) σ.hp [] nN k (fun q hq he=>by have:=yX q hq;omega)
  rw[List.append_nil]at this
  unfold A5
  rw[this]
  rfl
 rintro a w ⟨θ,hs⟩
 let σ':St:=⟨BQ (O2 (swp i j) fun _=>0) σ.sl,σ.nx,V6 (swp i j) (fun _=>0) σ.hp⟩
 let θ':Th:=⟨fun k=>θ (swp i j k),fun k=>θ.N (swp i j k)⟩
 have back:∀k b,A5 σ'.hp k=some b→∃q b0,k=swp i j q∧q<σ.nx∧A5 σ.hp q=some b0∧b=o5 (swp i j) (fun _=>0) q b0∧∀z,FP θ' k b z→FP θ q b0 z:=by
  intro k b hb
  by_cases hk:k<σ.nx
  ·have pa:A5 (V6 (swp i j) (fun _=>0) σ.hp) (swp i j (swp i j k))=some b:=by rw[Dz];exact hb
   rw[up _ (yX k hk),Option.map_eq_some_iff]at pa
   obtain⟨b0,h1,h2⟩:=pa
   refine⟨swp i j k,b0,(Dz i j k).symm,yX k hk,h1,h2.symm,fun z hz=>?_⟩
   subst h2
   unfold FP at hz ⊢
   rwa[QZ]at hz
  ·rw[nf k (by omega)]at hb;cases hb
 have ren:Ren (cx E θ σ w) (cx E θ' σ' w) (swp i j) (fun _=>0):=by
  refine⟨yX,fun k hk=>by show θ (swp i j (swp i j k))=_;rw[Dz];rfl,fun k hk=>by show θ.N (swp i j (swp i j k))=_;rw[Dz];rfl,rfl,fun k hu=>?_,fun q hq e sz v' l hl=>?_⟩
  ·rcases hu with hu|⟨q,b,hb,hk⟩
   ·exact .inl hu
   ·obtain⟨q',b0,rfl,hq,h1,h2,h3⟩:=back q b hb
    exact .inr ⟨q',b0,h1,h3 k hk⟩
  ·have h1:A5 (V6 (swp i j) (fun _=>0) σ.hp) (swp i j q)=some (.row e sz v' l):=hl
   rw[up q hq,Option.map_eq_some_iff]at h1
   obtain⟨b,hb,pc⟩:=h1
   cases b with
   |bx τ l=>cases pc
   |map m=>cases pc
   |it _ _=>cases pc
   |row e1 sz1 v1 l1 =>
    simp only[o5]at pc
    cases pc
    exact⟨v1,hb,rfl⟩
 refine⟨θ',hs.size,hs.defers,hs.fr,fun s x hx=>?_,fun k b hb=>?_,fun k1 k2 b1 b2 k h1 h2 pd nX=>?_,fun k b q hb hk=>?_,hs.X,⟨hs.base.1,fun k hk=>?_⟩⟩
 ·have qA:look (BQ (O2 (swp i j) fun _=>0) σ.sl) s=some x:=hx
  rw[DR,Option.map_eq_some_iff]at qA
  obtain⟨x0,h1,rfl⟩:=qA
  exact PT ren (hs.slots s x0 h1)
 ·obtain⟨q,b0,rfl,hq,h1,rfl,h3⟩:=back k b hb
  exact⟨yX q hq,We ren hq (hs.owns q b0 h1).2⟩
 ·obtain⟨q1,c1,rfl,_,g1,_,g2⟩:=back k1 b1 h1
  obtain⟨q2,c2,rfl,_,g3,_,g4⟩:=back k2 b2 h2
  rw[hs.apart q1 q2 c1 c2 k g1 g3 (g2 k pd) (g4 k nX)]
 ·obtain⟨q1,c1,rfl,_,g1,_,g2⟩:=back k b hb
  exact hs.mine q1 c1 q g1 (g2 q hk)
 ·have:swp i j k=k:=by rw[HV,if_neg (by omega),if_neg (by omega)]
  show θ (swp i j k)=_∨_
  rw[this]
  refine(hs.base.2 k hk).imp id fun ⟨h1,h2⟩=>⟨h1,fun ⟨e,sz,v,l,hl,oS⟩=>h2 ?_⟩
  obtain⟨q,b0,hq,_,ox,pw,_⟩:=back k _ hl
  have hqk:q=k:=(Dz i j q).symm.trans ((congrArg (swp i j) hq.symm).trans this)
  subst hqk
  cases b0 with
  |bx τ l=>cases pw
  |map m=>cases pw
  |it _ _=>cases pw
  |row e1 sz1 v1 l1 =>
   simp only[o5]at pw
   cases pw
   exact⟨_,_,_,_,ox,oS⟩
theorem kQ{nO:Nat}{l:List Bool}:YC P E n ops nO l σ K []:=⟨trivial⟩
theorem kR{nO:Nat}{l:List Bool}{i:Nat}{r:List Nat}(h1:match ops[i]? with
  |some o=>B3 P E n ops [o] σ fun σ'=>C8 P E n ops nO (l.set i true) σ' K
  |none=>False) (h2:YC P E n ops nO l σ K r):YC P E n ops nO l σ K (i::r):=⟨⟨h1,h2.h⟩⟩
theorem kS{p A:Prop}(h:p)(k:A):YD p A:=⟨h,k⟩
end rules
def MV(P:Program)(op:Op)(ev:Operand→Option AV)(F:AV→Prop):Prop :=
 match op with
 |.move x=>Y7 (ev x) F
 |.assign x=>Y7 (ev x) F
 |.binOp op T x y _=>Sv P T op (ev x) (ev y) F
 |.load T x=>match ev x with
  |some (.iptr l)=>Nk P T [] (some (.iptr l)) F
  |_=>False
 |.fieldAddr S x f=>match ev x with
  |some (.iptr l)=>PN P S f fun off sz=>cond (Nat.blt 0 sz) (F (.iptr (l.drop off))) False
  |some (.ref i o)=>PN P S f fun off sz=>cond (Nat.blt 0 sz) (F (.ref i (o+off))) False
  |_=>False
 |.indexAddr T x y=>match ev x with
  |some (.sl sz l)=>Jf P T [] (some (.sl sz l)) (ev y) F
  |_=>False
 |.call ⟨.builtin .len,⟨[x]⟩,⟨[T]⟩⟩=>match ev x with
  |some (.sl sz l)=>ID P T [] (some (.sl sz l)) F
  |some (.str s)=>ID P T [] (some (.str s)) F
  |some (.v (.slice none 0 0))=>ID P T [] (some (.v (.slice none 0 0))) F
  |_=>False
 |.call ⟨.value (.func f),⟨args⟩,_⟩=>match r9 ev args with
  |some l=>cond (I8 l) (Ry P f (l++[]) F) False
  |none=>False
 |.build T ⟨parts⟩=>match CM ev parts with
  |some ps=>Jb P T fun zs pl=>Ee [] ps (Y7 ((Ca pl zs ps).map AV.agg) F)
  |none=>False
 |.buildSlice T len ⟨parts⟩=>match CM ev parts with
  |some ps=>Fs P T fun _ sz _ _=>cond (DO 0 ps && AC sz (L6 ps) && Nat.beq ps.length len && Nat.blt 0 sz) (G6 (len*sz≤16777216) (Ee [] ps (Ni (L6 ps) (F (.sl sz (L6 ps)))))) False
  |none=>False
 |.convert S T x=>Y7 (ev x) fun a=>Bu P S T a F
 |.extract x k=>match ev x with
  |some (.tup l)=>Y7 (l[k]?) F
  |_=>False
 |.slice T x lo hi none=>match ev x with
  |some (.str s)=>EQ P T (match BP ev 0 lo,BP ev s.length hi with
   |some l,some h=>G6 (0≤l∧l≤h∧h≤s.length) (F (.str ((s.take h.toNat).drop l.toNat)))
   |_,_=>False)
  |_=>False
 |.unOp .not _ x=>match ev x with
  |some (.v (.bool b))=>F (.v (.bool (!b)))
  |_=>False
 |.index T x y=>match ev x,ev y with
  |some (.str s),some (.v (.int _ i))=>EQ P T (Q3 s i fun b=>F (.v (.int .u8 b.toNat)))
  |_,_=>False
 |_=>False
theorem gq{hp:Hp}{a:AV}(h:One [] a):One hp a:=by
 cases h with
 |row hl=>cases hl
 |v h=>exact .v h
 |str l=>exact .str l
 |sl s l=>exact .sl s l
 |iptr l=>exact .iptr l
 |ref i o=>exact .ref i o
 |mp i=>exact .mp i
 |fn f l=>exact .fn f l
 |fo f l=>exact .fo f l
theorem dU{hp:Hp}{a:AV}(h:Fits [] a):Fits hp a:=by
 cases a<;>first|exact trivial|exact gq h
theorem Jn{hp:Hp}:∀{ps:List (Nat×AV)},EO [] ps→EO hp ps
 |[],_=>trivial
 |(_,a)::r,h=>⟨dU h.1,Jn h.2⟩
theorem mf{P:Program}{op:Op}{ev:Operand→Option AV}{F:AV→Prop}(h:MV P op ev F):∃av,(∀(E:Env) (nx:Nat) (hp:Hp) (ty:TypeId),G8 P E nx hp ev op ty av)∧F av:=by
 unfold MV at h
 split at h
 ·obtain⟨a,hx,h⟩:=J7 h;exact⟨a,fun _ _ _ _=>Zo hx,h⟩
 ·obtain⟨a,hx,h⟩:=J7 h;exact⟨a,fun _ _ _ _=>SV hx,h⟩
 ·rename_i op T x y T2
  unfold Sv at h
  split at h
  ·rename_i hx hy;exact⟨_,fun _ _ _ _=>fu hx hy h.h,h.k⟩
  ·rename_i hx hy;exact⟨_,fun _ _ _ _=>fv hx hy h.h,h.k⟩
  ·rename_i hx hy
   obtain⟨hk,hq⟩:=cond_false h
   clear h
   have hk:=of_decide_eq_true hk
   subst hk
   unfold Ss at hq
   split at hq
   ·exact⟨_,fun _ _ _ _=>Ed hx hy (by simp only[DN,Q2 hq.h]),hq.k⟩
   ·exact⟨_,fun _ _ _ _=>Ed hx hy (by simp only[DN,Q2 hq.h]),hq.k⟩
   ·exact⟨_,fun _ _ _ _=>Ed hx hy (by simp only[DN,Q2 hq.h]),hq.k⟩
   ·refine⟨_,fun E nx hp ty=>?_,hq.k⟩
    have oy:=Rv (P:=P) (E:=E) (nx:=nx) (hp:=hp) (ty:=ty) (T:=T) (T2:=T2) hx hy hq.h.1
    rw[Q2 hq.h.2]at oy
    exact oy
   ·exact⟨_,fun _ _ _ _=>Rv hx hy hq.h,hq.k⟩
   ·exact⟨_,fun _ _ _ _=>ft hx hy hq.h,hq.k⟩
   ·split at hq
    ·rename_i hr;exact⟨_,fun _ _ _ _=>Ed hx hy hr,hq⟩
    ·exact hq.elim
  ·rename_i s t hx hy
   unfold cr at h
   split at h
   ·exact⟨_,fun _ _ _ _=>Zq hx hy h.h,h.k⟩
   ·split at h
    ·rename_i hr;exact⟨_,fun _ _ _ _=>Zp hx hy hr,h⟩
    ·exact h.elim
  ·rename_i a b hx hy
   unfold Xt at h
   split at h
   ·have:=h.h;exact⟨_,fun _ _ _ _=>Rw (T:=T) false hx hy,h.k⟩
   ·have:=h.h;exact⟨_,fun _ _ _ _=>Rw (T:=T) true hx hy,h.k⟩
   ·exact h.elim
  ·rename_i l m hx hy
   unfold P4 at h
   split at h
   ·obtain⟨hk,hq⟩:=cond_false h
    obtain⟨rfl,rfl⟩:=of_decide_eq_true hk
    have:=hq.h;exact⟨_,fun _ _ _ _=>Hw (T:=T) false hx hy,hq.k⟩
   ·obtain⟨hk,hq⟩:=cond_false h
    obtain⟨rfl,rfl⟩:=of_decide_eq_true hk
    have:=hq.h;exact⟨_,fun _ _ _ _=>Hw (T:=T) true hx hy,hq.k⟩
   ·obtain⟨hk,hq⟩:=cond_false h
    obtain⟨rfl,rfl,rfl⟩:=of_decide_eq_true hk
    have:=hq.h;exact⟨_,fun _ _ _ _=>Hy (T:=T) false hx hy,hq.k⟩
   ·obtain⟨hk,hq⟩:=cond_false h
    obtain⟨rfl,rfl,rfl⟩:=of_decide_eq_true hk
    have:=hq.h;exact⟨_,fun _ _ _ _=>Hy (T:=T) true hx hy,hq.k⟩
   ·obtain⟨hk,hq⟩:=cond_false h
    obtain rfl:=of_decide_eq_true hk
    have:=hq.h;exact⟨_,fun _ _ _ _=>NS (T:=T) false hx hy,hq.k⟩
   ·obtain⟨hk,hq⟩:=cond_false h
    obtain rfl:=of_decide_eq_true hk
    have:=hq.h;exact⟨_,fun _ _ _ _=>NS (T:=T) true hx hy,hq.k⟩
   ·exact h.elim
  ·exact h.elim
 ·rename_i T x
  split at h
  ·rename_i l hx
   unfold Nk at h
   obtain⟨⟨ag,sz,tv,h⟩⟩:=h
   cases ag with
   |true =>
    change cond (Nat.beq l.length sz) _ _ at h
    cases hc:Nat.beq l.length sz with
    |true =>
     rw[hc]at h
     exact⟨_,fun _ _ _ _=>BO (sz:=sz) hx (by rw[←Nat.eq_of_beq_eq_true hc,List.take_length]) (Nat.eq_of_beq_eq_true hc),h⟩
    |false =>
     rw[hc]at h
     exact⟨_,fun _ _ _ _=>BO (sz:=sz) hx rfl h.h,h.k⟩
   |false =>
    cases l with
    |nil=>exact h.elim
    |cons av r=>exact⟨_,fun _ _ _ _=>LP (sz:=sz) hx,h⟩
  ·exact h.elim
 ·split at h
  ·rename_i hx
   obtain⟨⟨off,sz,tf,h⟩⟩:=h
   obtain⟨hz,h⟩:=cond_false h
   exact⟨_,fun _ _ _ _=>JS (off:=off) (sz:=sz) hx hz,h⟩
  ·rename_i hx
   obtain⟨⟨off,sz,tf,h⟩⟩:=h
   obtain⟨hz,h⟩:=cond_false h
   exact⟨_,fun _ _ _ _=>LQ (off:=off) (sz:=sz) hx hz,h⟩
  ·exact h.elim
 ·split at h
  ·rename_i hx
   unfold Jf at h
   split at h
   ·rename_i yM hy
    cases yM
    obtain⟨⟨e,nQ,ts,h⟩⟩:=h
    obtain⟨hz,hq⟩:=cond_false h
    clear h
    have:=Nat.eq_of_beq_eq_true hz
    subst this
    obtain⟨h0,h1,hk⟩:=hq
    exact⟨_,fun _ _ _ _=>NO (e:=e) hx hy h0 (List.getElem?_eq_getElem (by omega)),hk _ (List.getElem?_eq_getElem (by omega))⟩
   ·rename_i yM _;cases yM
   ·rename_i yM _;cases yM
   ·exact h.elim
  ·exact h.elim
 ·split at h
  ·rename_i hx
   unfold ID at h
   obtain⟨⟨e,sz,ts,h⟩⟩:=h
   exact⟨_,fun _ _ _ _=>Sa (e:=e) (sz:=sz) hx,h.k⟩
  ·rename_i hx
   unfold ID at h
   obtain⟨ts,h⟩:=h
   exact⟨_,fun _ _ _ _=>QM hx,h⟩
  ·rename_i hx
   unfold ID at h
   obtain⟨⟨e,sz,ts,h⟩⟩:=h
   exact⟨_,fun _ _ _ _=>QN (e:=e) (sz:=sz) hx,h⟩
  ·exact h.elim
 ·split at h
  ·rename_i l hl
   obtain⟨hc,h⟩:=cond_false h
   obtain⟨⟨r,hr,h⟩⟩:=h
   rw[List.append_nil]at hr
   exact⟨_,fun _ _ _ _=>Sc hr hl hc,h⟩
  ·exact h.elim
 ·split at h
  ·rename_i ps sr
   obtain⟨⟨zs,pl,tz,tp,h⟩⟩:=h
   obtain⟨hf,h⟩:=w7 h
   obtain⟨a,ha,h⟩:=J7 h
   rw[Option.map_eq_some_iff]at ha
   obtain⟨l,hl,rfl⟩:=ha
   exact⟨_,fun _ _ _ _=>WW (T:=_) sr (Jn hf) hl,h⟩
  ·exact h.elim
 ·split at h
  ·rename_i ps sr
   obtain⟨⟨e,sz,bs,z,ts,tz,tb,hz,h⟩⟩:=h
   obtain⟨hc,h⟩:=cond_false h
   simp only[Bool.and_eq_true,Nat.beq_eq,Nat.blt_eq]at hc
   obtain⟨hs,h⟩:=h
   obtain⟨hf,h⟩:=w7 h
   obtain⟨hi,h⟩:=FG h
   exact⟨_,fun _ _ _ _=>JY (e:=e) (z:=z) sr (Jn hf) hc.1.1.1 hc.1.1.2 hc.1.2 hz hs hc.2 hi,h⟩
  ·exact h.elim
 ·obtain⟨a,hx,h⟩:=J7 h
  obtain⟨⟨r,hr,h⟩⟩:=h
  cases hr with
  |bytes l hl=>rename_i e sz _ _ _;exact⟨_,fun _ _ _ _=>LS (e:=e) (sz:=sz) hx hl,h⟩
  |back l=>rename_i e sz _ _ _;exact⟨_,fun _ _ _ _=>LU (e:=e) (sz:=sz) hx,h⟩
  |int m=>exact⟨_,fun _ _ _ _=>NQ hx,h⟩
  |rune m=>exact⟨_,fun _ _ _ _=>LV hx,h⟩
 ·split at h
  ·rename_i hx
   obtain⟨a,ha,h⟩:=J7 h
   exact⟨_,fun _ _ _ _=>QQ hx ha,h⟩
  ·exact h.elim
 ·split at h
  ·rename_i hx
   obtain⟨ts,h⟩:=h
   split at h
   ·rename_i hl hh;exact⟨_,fun _ _ _ _=>LY hx hl hh h.h.1 h.h.2.1 h.h.2.2,h.k⟩
   ·exact h.elim
  ·exact h.elim
 ·split at h
  ·rename_i hx;exact⟨_,fun _ _ _ _=>fw hx,h⟩
  ·exact h.elim
 ·split at h
  ·rename_i s k i hx hy
   obtain⟨ts,h0,h1,hk⟩:=h
   have nN:i.toNat<s.length:=by omega
   have nJ:s[i.toNat]?=some s[i.toNat]:=List.getElem?_eq_getElem nN
   exact⟨_,fun _ _ _ _=>LR hx hy h0 nJ,hk _ nJ⟩
  ·exact h.elim
 ·exact h.elim
structure MB where
 i:Nat
 d:Nat
 av:AV
 rd:List (Nat×AV)
def mg(P:Program)(ops:Array Oper)(m:MB):Prop:=∃op ty pos after,ops[m.i]?=some ⟨some m.d,op,ty,pos,after,none⟩∧∀(E:Env) (nx:Nat) (hp:Hp) (ty:TypeId),G8 P E nx hp (F4 ⟨m.rd,0,[]⟩) op ty m.av
def GX(ops:Array Oper)(i:Nat):List Nat:=(p9 ops).getD i []
def M8:List MB→List (Nat×AV)
 |[]=>[]
 |⟨_,d,av,_⟩::r=>(d,av)::M8 r
def Z8(l:List Bool)(mb:List MB):List MB:=mb.filter fun m=>l.getD m.i false
def nA(ops:Array Oper)(mb:List MB)(sl:List (Nat×AV)):Prop:=∀m∈mb,∀p∈m.rd,look sl p.1=some p.2∨∃m'∈mb,m'.d=p.1∧m'.av=p.2∧m'.i∈GX ops m.i
def ES(n:Nat)(sl:List (Nat×AV)):List MB→Bool
 |[]=>true
 |m::r=>Nat.blt m.d n && (look sl m.d).isNone && (r.all fun u=>!(Nat.beq u.d m.d) && !(Nat.beq u.i m.i)) && ES n sl r
theorem GY{n:Nat}{sl:List (Nat×AV)}:∀{mb:List MB},ES n sl mb=true→(∀m∈mb,m.d<n∧look sl m.d=none)∧(∀m∈mb,∀m'∈mb,m.d=m'.d→m=m')∧∀m∈mb,∀m'∈mb,m.i=m'.i→m=m'
 |[],_=>⟨(fun m hm=>by cases hm),(fun m hm=>by cases hm),fun m hm=>by cases hm⟩
 |a::r,h=>by
  simp only[ES,Bool.and_eq_true,List.all_eq_true,Bool.not_eq_true',Nat.blt_eq,Option.isNone_iff_eq_none]at h
  obtain⟨⟨⟨h1,h2⟩,h3⟩,h4⟩:=h
  obtain⟨i1,i2,i3⟩:=GY h4
  have us:∀u∈r,u.d≠a.d∧u.i≠a.i:=fun u hu=>by
   have h5:=h3 u hu
   refine⟨fun e=>?_,fun e=>?_⟩
   ·have:=h5.1;rw[e]at this;simp at this
   ·have:=h5.2;rw[e]at this;simp at this
  refine⟨fun m hm=>?_,fun m hm m' og e=>?_,fun m hm m' og e=>?_⟩
  ·rcases List.mem_cons.1 hm with rfl|hm
   ·exact⟨h1,h2⟩
   ·exact i1 m hm
  ·rcases List.mem_cons.1 hm with h5|h5<;>rcases List.mem_cons.1 og with h6|h6
   ·rw[h5,h6]
   ·subst h5;exact absurd e.symm (us _ h6).1
   ·subst h6;exact absurd e (us _ h5).1
   ·exact i2 m h5 m' h6 e
  ·rcases List.mem_cons.1 hm with h5|h5<;>rcases List.mem_cons.1 og with h6|h6
   ·rw[h5,h6]
   ·subst h5;exact absurd e.symm (us _ h6).2
   ·subst h6;exact absurd e (us _ h5).2
   ·exact i3 m h5 m' h6 e
theorem S5(l m:List (Nat×AV))(s:Nat):look (l++m) s=match look l s with
  |some x=>some x
  |none=>look m s:=by
 induction l with
 |nil=>rfl
 |cons a r ih =>
  obtain⟨k,x⟩:=a
  simp only[List.cons_append,E8]
  by_cases e:k=s
  ·simp[e]
  ·simp[e,ih]
theorem HW{T:List MB}{s:Nat}(h:∀m∈T,m.d≠s):look (M8 T) s=none:=by
 induction T with
 |nil=>rfl
 |cons a r ih =>
  obtain⟨ai,ad,ya,yF⟩:=a
  have h0:ad≠s:=h ⟨ai,ad,ya,yF⟩ (by simp)
  simp only[M8,E8]
  rw[if_neg h0,ih fun m hm=>h m (by simp[hm])]
theorem Ef{T:List MB}{m:MB}(hu:∀m∈T,∀m'∈T,m.d=m'.d→m=m')(hm:m∈T):look (M8 T) m.d=some m.av:=by
 induction T with
 |nil=>cases hm
 |cons a r ih =>
  obtain⟨ai,ad,ya,yF⟩:=a
  simp only[M8,E8]
  by_cases e:ad=m.d
  ·rw[if_pos e,←hu ⟨ai,ad,ya,yF⟩ (by simp) m hm e]
  ·rw[if_neg e]
   rcases List.mem_cons.1 hm with rfl|hm
   ·exact absurd rfl e
   ·exact ih (fun x hx y hy=>hu x (by simp[hx]) y (by simp[hy])) hm
theorem AE{T:List MB}{s:Nat}{x:AV}(h:look (M8 T) s=some x):∃m∈T,m.d=s∧m.av=x:=by
 induction T with
 |nil=>cases h
 |cons a r ih =>
  obtain⟨ai,ad,ya,yF⟩:=a
  simp only[M8,E8]at h
  by_cases e:ad=s
  ·rw[if_pos e]at h;cases h;exact⟨⟨ai,ad,_,yF⟩,by simp,e,rfl⟩
  ·rw[if_neg e]at h
   obtain⟨m,hm,h1,h2⟩:=ih h
   exact⟨m,by simp[hm],h1,h2⟩
theorem IK{E:Env}{n nx:Nat}{hp:Hp}{sl sl':List (Nat×AV)}{a:Act}{w:World}(e:∀s x,look sl' s=some x→look sl s=some x)(h:o3 E n ⟨sl,nx,hp⟩ a w):o3 E n ⟨sl',nx,hp⟩ a w:=by
 obtain⟨θ,h⟩:=h
 exact⟨θ,h.size,h.defers,h.fr,fun s x hs=>h.slots s x (e s x hs),h.owns,h.apart,h.mine,h.X,h.base⟩
def D1(P:Program)(E:Env)(n:Nat)(ops:Array Oper)(done:List Bool)(mb:List MB)(σ:St)(K:St→Prop):Prop :=
 (∀m∈mb,mg P ops m)→nA ops mb σ.sl→ES n σ.sl mb=true →
 ∀(nO:Nat) (l:List Bool) (a:Act) (w:World),l.length=ops.size→(∀i,done.getD i false=true→l.getD i false=true)→(∀i,l.getD i false=true→done.getD i false=true∨∃m∈mb,m.i=i)→l.count false≤nO →
  o3 E n ⟨M8 (Z8 l mb)++σ.sl,σ.nx,σ.hp⟩ a w→wpAny P .any ops (fun e a' w'=>e=.normal∧∃σ',K σ'∧o3 E n σ' a' w') nO l.toArray a w
def AF(ops:Array Oper)(mb:List MB)(i:Nat):List MB:=mb.filter fun m=>(GX ops i).contains m.i
def s6(ops:Array Oper)(mb:List MB)(i:Nat):List MB:=mb.filter fun m=>!((GX ops i).contains m.i)
def Jo(ops:Array Oper)(done:List Bool)(mb:List MB)(i:Nat):List Bool:=(AF ops mb i).foldl (fun l m=>l.set m.i true) (done.set i true)
def Az:List MB→List Nat
 |[]=>[]
 |m::r=>m.rd.map (·.1)++Az r
structure Nu(P:Program)(E:Env)(n:Nat)(ops:Array Oper)(done:List Bool)(mb:List MB)(K:St→Prop)(base:List (Nat×AV))(k:Nat)(ex:List (Nat×AV))(σ':St):Prop where
 sl:σ'.sl=σ'.sl.take k++ex
 rd:(Az mb).map (look (σ'.sl.take k))=(Az mb).map (look base)
 chk:ES n (σ'.sl.take k) mb=true
 go:D1 P E n ops done mb ⟨σ'.sl.take k,σ'.nx,σ'.hp⟩ K
def Nv(P:Program)(E:Env)(n:Nat)(ops:Array Oper)(done:List Bool)(mb:List MB)(σ:St)(K:St→Prop)(i:Nat):Prop :=
 match ops[i]? with
 |some o=>∀ex:List (Nat×AV),B3 P E n ops [o] ⟨M8 (AF ops mb i)++(σ.sl++ex),σ.nx,σ.hp⟩ fun σ'=>Nu P E n ops (Jo ops done mb i) (s6 ops mb i) K (M8 (AF ops mb i)++σ.sl) (match o.dst,o.guard with
  |some _,some _=>(AF ops mb i).length+σ.sl.length+2
  |some _,none=>(AF ops mb i).length+σ.sl.length+1
  |none,_=>(AF ops mb i).length+σ.sl.length) ex σ'
 |none=>False
def YE(P:Program)(E:Env)(n:Nat)(ops:Array Oper)(done:List Bool)(mb:List MB)(σ:St)(K:St→Prop):List Nat→Prop
 |[]=>True
 |i::r=>Nv P E n ops done mb σ K i∧YE P E n ops done mb σ K r
theorem TL{P:Program}{E:Env}{n:Nat}{ops:Array Oper}{done:List Bool}{mb:List MB}{σ:St}{K:St→Prop}:∀{r:List Nat},YE P E n ops done mb σ K r→∀i∈r,Nv P E n ops done mb σ K i
 |[],_,i,hi=>by cases hi
 |j::r,h,i,hi=>by
  rcases List.mem_cons.1 hi with rfl|hi
  ·exact h.1
  ·exact TL h.2 i hi
def IL(ops:Array Oper)(done:List Bool)(mb:List MB):List Nat :=
 (List.range ops.size).filter fun i=>!(done.getD i false) && !(mb.any fun m=>Nat.beq m.i i) && (GX ops i).all fun j=>done.getD j false || mb.any fun m=>Nat.beq m.i j
def HX(ops:Array Oper):Bool:=(List.range ops.size).all fun i=>(GX ops i).all fun j=>Nat.blt j i
def SB(ops:Array Oper)(done:List Bool)(mb:List MB):Bool:=(List.range ops.size).all fun i=>done.getD i false || mb.any fun m=>Nat.beq m.i i
theorem IM(l:List Bool)(i j:Nat):(l.set i true).getD j false=if i=j∧i<l.length then true else l.getD j false:=by
 simp only[List.getD_eq_getElem?_getD,List.getElem?_set]
 by_cases e:i=j
 ·subst e
  by_cases h:i<l.length
  ·simp[h]
  ·simp[h]
 ·simp[e]
theorem Qd:∀(l:List Bool) (i:Nat),l[i]?=some false→(l.set i true).count false+1=l.count false
 |[],i,h=>by simp at h
 |b::r,0,h=>by simp at h;subst h;simp
 |b::r,i+1,h=>by
  have:=Qd r i (by simpa using h)
  rw[List.set_cons_succ,List.count_cons,List.count_cons]
  omega
theorem HY:∀(T:List MB) (l:List Bool) (j:Nat),(∀m∈T,m.i<l.length)→((T.foldl (fun l m=>l.set m.i true) l).getD j false=true↔l.getD j false=true∨∃m∈T,m.i=j)
 |[],l,j,_=>by simp
 |m::r,l,j,h=>by
  rw[List.foldl_cons,HY r _ j (fun x hx=>by rw[List.length_set];exact h x (by simp[hx])),IM]
  have hm:=h m (by simp)
  by_cases e:m.i=j
  ·subst e
   constructor
   ·intro _;exact .inr ⟨m,by simp,rfl⟩
   ·intro _;left;rw[if_pos ⟨rfl,hm⟩]
  ·rw[if_neg (fun h=>e h.1)]
   constructor
   ·rintro (h1|⟨x,hx,e2⟩)
    ·exact .inl h1
    ·exact .inr ⟨x,by simp[hx],e2⟩
   ·rintro (h1|⟨x,hx,e2⟩)
    ·exact .inl h1
    ·rcases List.mem_cons.1 hx with rfl|hx
     ·exact absurd e2 e
     ·exact .inr ⟨x,hx,e2⟩
theorem Wg{ops:Array Oper}{i:Nat}(h:i<ops.size):(p9 ops)[i]?=some (GX ops i):=by
 have hl:i<(p9 ops).length:=by simp[p9];exact h
 rw[GX,List.getD_eq_getElem?_getD,List.getElem?_eq_getElem hl];rfl
theorem Ko{P:Program}{E:Env}{n:Nat}{ops:Array Oper}{done:List Bool}{mb:List MB}{σ:St}{K:St→Prop}(nM:Nat.beq done.length ops.size=true)(ns:HX ops=true)
  (oz:SB ops done mb=true→K ⟨M8 mb++σ.sl,σ.nx,σ.hp⟩) (np:YE P E n ops done mb σ K (IL ops done mb)):D1 P E n ops done mb σ K:=by
 have nM:=Nat.eq_of_beq_eq_true nM
 intro ol nL oO
 obtain⟨pn,ow,vq⟩:=GY oO
 have tw:∀m∈mb,m.i<ops.size:=fun m hm=>by
  obtain⟨op,ty,pos,after,h,_⟩:=ol m hm
  exact(Array.getElem?_eq_some_iff.1 h).1
 have qn:∀l,∀m∈Z8 l mb,m∈mb∧l.getD m.i false=true:=fun l m hm=>by
  unfold Z8 at hm
  exact List.mem_filter.1 hm
 have oc:∀l,∀m∈mb,l.getD m.i false=true→m∈Z8 l mb:=fun l m hm h=>List.mem_filter.2 ⟨hm,h⟩
 have hu:∀l,∀m∈Z8 l mb,∀m'∈Z8 l mb,m.d=m'.d→m=m':=fun l m hm m' og=>ow m (qn l m hm).1 m' (qn l m' og).1
 -- a slot of the state is none of those that may be filled
 have qW:∀l s x,look σ.sl s=some x→look (M8 (Z8 l mb)) s=none:=fun l s x hs=>HW fun m hm e=>by
  have:=(pn m (qn l m hm).1).2
  rw[e,hs]at this
  cases this
 have fin:∀(l:List Bool) (a:Act) (w:World),(∀i,i<ops.size→l.getD i false=true)→(∀i,l.getD i false=true→done.getD i false=true∨∃m∈mb,m.i=i)→o3 E n ⟨M8 (Z8 l mb)++σ.sl,σ.nx,σ.hp⟩ a w→(Exit.normal=Exit.normal∧∃σ',K σ'∧o3 E n σ' a w):=by
  intro l a w hl h2 hs
  refine⟨rfl,_,oz ?_,IK (fun s x h=>?_) hs⟩
  ·unfold SB
   rw[List.all_eq_true]
   intro i hi
   rcases h2 i (hl i (List.mem_range.1 hi))with h|⟨m,hm,e⟩
   ·rw[h];rfl
   ·have:(mb.any fun m=>Nat.beq m.i i)=true:=List.any_eq_true.2 ⟨m,hm,by simp[e]⟩
    rw[this];simp
  ·have:Z8 l mb=mb:=List.filter_eq_self.2 fun m hm=>hl _ (tw m hm)
   rw[this];exact h
 have uc:∀(l:List Bool),l.length=ops.size→Region.ready .any ops l.toArray=[]→∀i,i<ops.size→l.getD i false=true:=by
  intro l hl hr i
  induction i using Nat.strongRecOn with
  |_ i ih =>
   intro hi
   cases hx:l.getD i false with
   |true=>rfl
   |false =>
    exfalso
    have oH:i∈l7 l 0 (p9 ops) l:=by
     rw[DY]
     refine⟨i,GX ops i,by omega,Wg hi,?_,fun x hxe=>?_⟩
     ·rw[List.getD_eq_getElem?_getD]at hx
      have h1:l[i]?=some (l[i]'(by omega)):=List.getElem?_eq_getElem (by omega)
      rw[h1]at hx ⊢
      simpa using hx
     ·unfold HX at ns
      have h1:=List.all_eq_true.1 ns i (List.mem_range.2 hi)
      have h2:=List.all_eq_true.1 h1 x hxe
      have h3:x<i:=by simpa using h2
      exact ih x h3 (by omega)
    have:=(X6 hl i).2 oH
    rw[hr]at this
    cases this
 intro nO
 induction nO with
 |zero =>
  intro l a w hl h1 h2 vZ hs
  have h0:∀i,i<ops.size→l.getD i false=true:=by
   intro i hi
   have uq:l[i]?=some (l[i]'(by omega)):=List.getElem?_eq_getElem (by omega)
   rw[List.getD_eq_getElem?_getD,uq]
   cases hb:l[i]'(by omega)with
   |true=>rfl
   |false =>
    have:0<l.count false:=List.count_pos_iff.2 (hb▸List.getElem_mem _)
    omega
  refine⟨?_,fin l a w h0 h2 hs⟩
  cases hx:Region.ready .any ops l.toArray with
  |nil=>rfl
  |cons i r =>
   have:=(X6 hl i).1 (by rw[hx];simp)
   rw[DY]at this
   obtain⟨j,e,e1,_,e2,_⟩:=this
   have hj:j<ops.size:=by rw[←hl];exact(List.getElem?_eq_some_iff.1 e2).1
   have:=h0 j hj
   rw[List.getD_eq_getElem?_getD,e2]at this
   cases this
 |succ nO ih =>
  intro l a w hl h1 h2 vZ hs
  refine⟨fun hr=>fin l a w (uc l hl hr) h2 hs,fun i hi=>?_⟩
  have oe:=(X6 hl i).1 hi
  rw[DY]at oe
  obtain⟨i',e,ei,he,hf,wX⟩:=oe
  obtain rfl:i=i':=by omega
  have his:i<ops.size:=by rw[←hl];exact(List.getElem?_eq_some_iff.1 hf).1
  rw[Wg his]at he
  cases he
  have hlf:l.getD i false=false:=by rw[List.getD_eq_getElem?_getD,hf];rfl
  have oG:(l.set i true).length=ops.size:=by rw[List.length_set];exact hl
  have vK:(l.set i true).count false≤nO:=by have:=Qd l i hf;omega
  have oU:∀j,(l.set i true).getD j false=true↔j=i∨l.getD j false=true:=by
   intro j
   rw[IM]
   by_cases e:i=j
   ·subst e;simp;omega
   ·simp[e,Ne.symm e]
  by_cases hm:∃m∈mb,m.i=i
  ·obtain⟨m,hm,wF⟩:=hm
   subst wF
   obtain⟨op,ty,pos,after,ho,hq⟩:=ol m hm
   unfold wpOp
   simp only[ho]
   rw[if_pos (by simp[Region.wanted])]
   left
   obtain⟨θ,hs⟩:=hs
   have pm:AY E θ σ.nx σ.hp (F4 ⟨m.rd,0,[]⟩) a w:=by
    have h0:=hs.evT
    refine⟨h0.fr,h0.owns,h0.X,fun {x av} hx=>h0.rel (x:=x) ?_,h0.apart,h0.fresh,h0.tab⟩
    cases x with
    |tmp t =>
     have qA:look m.rd t=some av:=hx
     show look (M8 (Z8 l mb)++σ.sl) t=some av
     have oH:∀(rd:List (Nat×AV)),look rd t=some av→(t,av)∈rd:=by
      intro rd
      induction rd with
      |nil=>intro h;cases h
      |cons p r ih =>
       obtain⟨k,x⟩:=p
       intro h
       rw[E8]at h
       by_cases e:k=t
       ·subst e;rw[if_pos rfl]at h;cases h;simp
       ·rw[if_neg e]at h;exact List.mem_cons_of_mem _ (ih h)
     rw[S5]
     rcases nL m hm (t,av) (oH _ qA)with h|⟨m',og,e1,e2,e3⟩
     ·rw[qW l t av h];exact h
     ·have h4:m'∈Z8 l mb:=oc l m' og (wX _ e3)
      have h5:=Ef (hu l) h4
      have e1:m'.d=t:=e1
      have e2:m'.av=av:=e2
      rw[e1,e2]at h5
      rw[h5]
    |const c=>exact hx
    |global g=>exact hx
    |func f=>exact hx
   refine SU (hq E σ.nx σ.hp ty (some m.d) pos after θ a w (fun v w'=>Below w.heap.size w w'∧E0 (kx E θ σ.nx σ.hp w') m.av v) pm fun v w' hb hr=>⟨hb,hr⟩) fun v w' yw=>?_
   rw[X0]
   refine ih (l.set m.i true) _ w' oG (fun j hj=>(oU j).2 (.inr (h1 j hj))) (fun j hj=>?_) vK ?_
   ·rcases(oU j).1 hj with e|e
    ·exact .inr ⟨m,hm,e.symm⟩
    ·exact h2 j e
   ·have rF:=(hs.below yw.1).put (d:=m.d) (pn m hm).1 (x:=m.av) (v:=v) yw.2
    refine IK (sl:=(m.d,m.av)::(M8 (Z8 l mb)++σ.sl)) (fun s x h=>?_) ⟨θ,rF⟩
    rw[S5]at h
    rw[E8,S5]
    cases hx:look (M8 (Z8 (l.set m.i true) mb)) s with
    |some y =>
     rw[hx]at h
     cases h
     obtain⟨m',og,e1,e2⟩:=AE hx
     obtain⟨h3,h4⟩:=qn _ m' og
     by_cases e:m.d=s
     ·rw[if_pos e,ow m hm m' h3 (by rw[e,e1]),e2]
     ·rw[if_neg e]
      have h5:l.getD m'.i false=true:=by
       rcases(oU _).1 h4 with h6|h6
       ·have:=vq m' h3 m hm h6
        subst this
        exact absurd e1 e
       ·exact h6
      have:=Ef (hu l) (oc l m' h3 h5)
      rw[e1,e2]at this
      rw[this]
    |none =>
     rw[hx]at h
     have h':look σ.sl s=some x:=h
     have hne:m.d≠s:=fun e=>by have:=(pn m hm).2;rw[e,h']at this;cases this
     rw[if_neg hne,qW l s x h']
     exact h'
  ·have qZ:∀m∈mb,m.i≠i:=fun m og e=>hm ⟨m,og,e⟩
   have wc:done.getD i false=false:=by
    cases hx:done.getD i false with
    |false=>rfl
    |true=>rw[h1 i hx]at hlf;cases hlf
   have xk:(mb.any fun m=>Nat.beq m.i i)=false:=by
    rw[List.any_eq_false]
    intro m og h
    exact qZ m og (Nat.eq_of_beq_eq_true h)
   have zV:i∈IL ops done mb:=by
    unfold IL
    rw[List.mem_filter]
    refine⟨List.mem_range.2 his,?_⟩
    rw[wc,xk]
    simp only[Bool.not_false,Bool.true_and,List.all_eq_true]
    intro j hj
    rcases h2 j (wX j hj)with h|⟨m,og,e⟩
    ·rw[h];rfl
    ·have:(mb.any fun m=>Nat.beq m.i j)=true:=List.any_eq_true.2 ⟨m,og,by simp[e]⟩
     rw[this];simp
   have sj:=TL np i zV
   unfold Nv at sj
   split at sj
   ·rename_i o ho
    have vX:∀m,m∈AF ops mb i↔m∈mb∧m.i∈GX ops i:=fun m=>by simp[AF,List.mem_filter]
    have rO:∀m,m∈s6 ops mb i↔m∈mb∧m.i∉GX ops i:=fun m=>by simp[s6,List.mem_filter]
    have vC:o3 E n ⟨M8 (AF ops mb i)++(σ.sl++M8 (Z8 l (s6 ops mb i))),σ.nx,σ.hp⟩ a w:=by
     refine IK (fun s x h=>?_) hs
     rw[S5]at h ⊢
     cases hx:look (M8 (AF ops mb i)) s with
     |some y =>
      rw[hx]at h
      cases h
      obtain⟨m,og,e1,e2⟩:=AE hx
      obtain⟨h3,h4⟩:=(vX m).1 og
      have:=Ef (hu l) (oc l m h3 (wX _ h4))
      rw[e1,e2]at this
      rw[this]
     |none =>
      rw[hx]at h
      have h:look (σ.sl++M8 (Z8 l (s6 ops mb i))) s=some x:=h
      rw[S5]at h
      cases hy:look σ.sl s with
      |some y =>
       rw[hy]at h
       cases h
       rw[qW l s _ hy]
      |none =>
       rw[hy]at h
       have h:look (M8 (Z8 l (s6 ops mb i))) s=some x:=h
       obtain⟨m,og,e1,e2⟩:=AE h
       obtain⟨h3,h4⟩:=List.mem_filter.1 og
       have:=Ef (hu l) (oc l m ((rO m).1 h3).1 h4)
       rw[e1,e2]at this
       rw[this]
    have hw:=sj (M8 (Z8 l (s6 ops mb i))) a w vC
    have last:∀(kk:Nat) σ' a' w',Nu P E n ops (Jo ops done mb i) (s6 ops mb i) K (M8 (AF ops mb i)++σ.sl) kk (M8 (Z8 l (s6 ops mb i))) σ'→o3 E n σ' a' w'→wpAny P .any ops (fun e a' w'=>e=.normal∧∃σ',K σ'∧o3 E n σ' a' w') nO (l.set i true).toArray a' w':=by
     intro kk σ' a' w' hp oX
     have qC:∀j,(Jo ops done mb i).getD j false=true↔(done.getD j false=true∨j=i)∨∃m∈AF ops mb i,m.i=j:=by
      intro j
      unfold Jo
      rw[HY _ _ _ (fun m og=>by rw[List.length_set,nM];exact tw m ((vX m).1 og).1),IM]
      by_cases e:i=j
      ·subst e;simp;left;omega
      ·simp[e,Ne.symm e]
     have yH:∀m∈AF ops mb i,look (M8 (AF ops mb i)++σ.sl) m.d=some m.av:=fun m og=>by
      rw[S5,Ef (fun m h m' h'=>ow m ((vX m).1 h).1 m' ((vX m').1 h').1) og]
     refine hp.go (fun m og=>ol m ((rO m).1 og).1) (fun m og p hpm=>?_) hp.chk nO (l.set i true) a' w' oG (fun j hj=>?_) (fun j hj=>?_) vK ?_
     ·have vS:look (σ'.sl.take kk) p.1=look (M8 (AF ops mb i)++σ.sl) p.1:=by
       have oH:p.1∈Az (s6 ops mb i):=by
        have:∀(L:List MB),m∈L→p.1∈Az L:=by
         intro L
         induction L with
         |nil=>intro h;cases h
         |cons a r ih =>
          intro h
          simp only[Az,List.mem_append,List.mem_map]
          rcases List.mem_cons.1 h with rfl|h
          ·exact .inl ⟨p,hpm,rfl⟩
          ·exact .inr (ih h)
        exact this _ og
       obtain⟨t,ht,et⟩:=List.getElem_of_mem oH
       have h3:=congrArg (fun L:List (Option AV)=>L[t]?) hp.rd
       simp only[List.getElem?_map,List.getElem?_eq_getElem ht,Option.map_some,Option.some.injEq,et]at h3
       exact h3
      rcases nL m ((rO m).1 og).1 p hpm with h|⟨m',wj,e1,e2,e3⟩
      ·left
       rw[vS,S5,HW (fun u qv e=>by
        have:=(pn u ((vX u).1 qv).1).2
        rw[e,h]at this
        cases this)]
       exact h
      ·by_cases yO:m'.i∈GX ops i
       ·left
        rw[vS,←e1,yH m' ((vX m').2 ⟨wj,yO⟩),e2]
       ·exact .inr ⟨m',(rO m').2 ⟨wj,yO⟩,e1,e2,e3⟩
     ·rw[oU]
      rcases(qC j).1 hj with (h|h)|⟨m,og,e⟩
      ·exact .inr (h1 j h)
      ·exact .inl h
      ·exact .inr (e▸wX _ ((vX m).1 og).2)
     ·rw[qC]
      rcases(oU j).1 hj with h|h
      ·exact .inl (.inl (.inr h))
      ·rcases h2 j h with h|⟨m,og,e⟩
       ·exact .inl (.inl (.inl h))
       ·by_cases yO:m.i∈GX ops i
        ·exact .inl (.inr ⟨m,(vX m).2 ⟨og,yO⟩,e⟩)
        ·exact .inr ⟨m,(rO m).2 ⟨og,yO⟩,e⟩
     ·have rR:=hp.sl
      obtain⟨c1,c2,c3⟩:=GY hp.chk
      have:Z8 (l.set i true) (s6 ops mb i)=Z8 l (s6 ops mb i):=by
       unfold Z8
       refine List.filter_congr fun m og=>?_
       rw[IM,if_neg (fun h=>qZ m ((rO m).1 og).1 h.1.symm)]
      rw[this]
      refine IK (sl:=σ'.sl) (fun s x h=>?_) oX
      rw[S5]at h
      rw[rR,S5]
      cases hx:look (M8 (Z8 l (s6 ops mb i))) s with
      |some y =>
       rw[hx]at h
       cases h
       obtain⟨m,og,e1,e2⟩:=AE hx
       have h3:=(c1 m (List.mem_filter.1 og).1).2
       rw[e1]at h3
       rw[h3]
      |none =>
       rw[hx]at h
       have h:look (σ'.sl.take kk) s=some x:=h
       rw[h]
    unfold wpOp
    simp only[ho]
    unfold wpList at hw
    split
    ·rename_i pK
     rw[if_pos pK]at hw
     rcases hw with hw|⟨_,a1,w1,hx⟩
     ·refine .inl (MT (fun e a w h=>h.1) (fun a' w' hn=>?_) hw)
      obtain⟨_,σ',hk,oX⟩:=hn
      rw[X0]
      exact last _ σ' a' w' hk oX
     ·exact absurd hx.1 (by simp)
    ·rename_i pK
     rw[if_neg pK]at hw
     obtain⟨_,σ',hk,oX⟩:=hw
     rw[X0]
     exact last _ σ' _ _ hk oX
   ·exact sj.elim
def SC:List MB→(List MB→Prop)→Prop
 |[],F=>F []
 |⟨i,d,av,rd⟩::r,F=>DW rd fun rd2=>SC r fun s=>F (⟨i,d,av,rd2⟩::s)
theorem Nw:∀{l:List MB} {F:List MB→Prop},SC l F→F l
 |[],F,h=>h
 |⟨i,d,av,rd⟩::r,F,h=>Nw (l:=r) (F:=fun s=>F (⟨i,d,av,rd⟩::s)) (s5 h)
def MU(op:Op)(sl:List (Nat×AV)):List (Nat×AV):=op.operands.toList.filterMap fun x=>match x with
 |.tmp t=>(look sl t).map fun a=>(t,a)
 |_=>none
def Wh(ops:Array Oper)(mb:List MB)(i:Nat)(op:Op):Bool:=op.operands.toList.all fun x=>match x with
 |.tmp t=>mb.all fun m=>!(Nat.beq m.d t) || (GX ops i).contains m.i
 |_=>true
def TM(ev:Operand→Option AV)(x:Operand):Bool:=match ev x with
 |some a=>J1 a
 |none=>false
def nB(op:Op)(ev:Operand→Option AV):Bool :=
 match op with
 |.move x=>(ev x).isSome
 |.assign x=>(ev x).isSome
 |.binOp _ _ x y _=>TM ev x && TM ev y
 |.load _ x=>match ev x with
  |some (.iptr _)=>true
  |_=>false
 |.fieldAddr _ x _=>match ev x with
  |some (.iptr _)=>true
  |some (.ref _ _)=>true
  |_=>false
 |.indexAddr _ x y=>(match ev x with
  |some (.sl _ _)=>true
  |_=>false) && TM ev y
 |.call ⟨.builtin .len,⟨[x]⟩,⟨[_]⟩⟩=>match ev x with
  |some (.sl _ _)=>true
  |some (.str _)=>true
  |some (.v (.slice none 0 0))=>true
  |_=>false
 |.call ⟨.value (.func f),⟨args⟩,_⟩=>match r9 ev args with
  |some l=>I8 l
  |none=>false
 |.build _ ⟨parts⟩=>match CM ev parts with
  |some ps=>ps.all fun p=>J1 p.2
  |none=>false
 |.buildSlice _ _ ⟨parts⟩=>match CM ev parts with
  |some ps=>ps.all fun p=>J1 p.2
  |none=>false
 |.convert _ _ x=>TM ev x
 |.extract x k=>match ev x with
  |some (.tup l)=>(l[k]?).isSome
  |_=>false
 |.slice _ x lo hi none=>(match ev x with
  |some (.str _)=>true
  |_=>false) && (match lo with
  |some o=>TM ev o
  |none=>true) && (match hi with
  |some o=>TM ev o
  |none=>true)
 |.unOp .not _ x=>match ev x with
  |some (.v (.bool _))=>true
  |_=>false
 |.index _ x y=>(match ev x with
  |some (.str _)=>true
  |_=>false) && TM ev y
 |_=>false
def SD(ops:Array Oper)(n:Nat)(done:List Bool)(mb:List MB)(sl:List (Nat×AV))(i:Nat):Bool :=
 !(done.getD i false) && !(mb.any fun m=>Nat.beq m.i i) && ((GX ops i).all fun j=>done.getD j false || mb.any fun m=>Nat.beq m.i j) && match ops[i]? with
  |some ⟨some d,op,_,_,_,none⟩=>nB op (F4 ⟨M8 mb++sl,0,[]⟩) && ES n sl (⟨i,d,.any,[]⟩::mb) && Wh ops mb i op
  |_=>false
theorem dV{op:Op}{sl:List (Nat×AV)}{p:Nat×AV}(h:p∈MU op sl):look sl p.1=some p.2∧Operand.tmp p.1∈op.operands.toList:=by
 unfold MU at h
 rw[List.mem_filterMap]at h
 obtain⟨x,hx,h⟩:=h
 split at h
 ·rw[Option.map_eq_some_iff]at h
  obtain⟨a,ha,rfl⟩:=h
  exact⟨ha,hx⟩
 ·cases h
theorem TN{P:Program}{E:Env}{n:Nat}{ops:Array Oper}{done:List Bool}{mb:List MB}{σ:St}{K:St→Prop}{i d:Nat}{op:Op}{ty:TypeId}{pos:String}{after:Array Edge}(qK:ops[i]?=some ⟨some d,op,ty,pos,after,none⟩)
  (wX:Wh ops mb i op=true) (sO:ES n σ.sl (⟨i,d,.any,[]⟩::mb)=true) (wc:done.getD i false=false)
  (h:MV P op (F4 ⟨MU op (M8 mb++σ.sl),0,[]⟩) fun av=>D1 P E n ops done (⟨i,d,av,MU op (M8 mb++σ.sl)⟩::mb) σ K):D1 P E n ops done mb σ K:=by
 obtain⟨av,hq,h⟩:=mf h
 intro ol nL oO nO l a w hl h1 h2 vZ hs
 obtain⟨c1,c2,c3⟩:=GY sO
 have uq:l.getD i false=false:=by
  cases hx:l.getD i false with
  |false=>rfl
  |true =>
   exfalso
   rcases h2 i hx with h|⟨m,hm,e⟩
   ·rw[wc]at h;cases h
   ·simp only[ES,Bool.and_eq_true,List.all_eq_true,Bool.not_eq_true']at sO
    have h3:=(sO.1.2 m hm).2
    rw[e]at h3
    simp at h3
 refine h (fun m hm=>?_) (fun m hm p hp=>?_) sO nO l a w hl h1 (fun j hj=>?_) vZ ?_
 ·rcases List.mem_cons.1 hm with rfl|hm
  ·exact⟨op,ty,pos,after,qK,hq⟩
  ·exact ol m hm
 ·rcases List.mem_cons.1 hm with rfl|hm
  ·obtain⟨h3,h4⟩:=dV hp
   rw[S5]at h3
   cases hx:look (M8 mb) p.1 with
   |none=>rw[hx]at h3;exact .inl h3
   |some y =>
    rw[hx]at h3
    cases h3
    obtain⟨m',og,e1,e2⟩:=AE hx
    refine .inr ⟨m',List.mem_cons_of_mem _ og,e1,e2,?_⟩
    have h5:=List.all_eq_true.1 wX _ h4
    have h6:=List.all_eq_true.1 h5 m' og
    rw[e1]at h6
    simpa using h6
  ·rcases nL m hm p hp with h3|⟨m',og,h4⟩
   ·exact .inl h3
   ·exact .inr ⟨m',List.mem_cons_of_mem _ og,h4⟩
 ·rcases h2 j hj with h3|⟨m,hm,e⟩
  ·exact .inl h3
  ·exact .inr ⟨m,List.mem_cons_of_mem _ hm,e⟩
 ·have:Z8 l (⟨i,d,av,MU op (M8 mb++σ.sl)⟩::mb)=Z8 l mb:=by
   unfold Z8
   rw[List.filter_cons,if_neg (by simp only[uq];exact Bool.false_ne_true)]
  rw[this]
  exact hs
structure kT(F:List (Nat×AV)→Prop):Prop where
 h:∀ex,F ex
theorem mh{F:List (Nat×AV)→Prop}(h:∀ex,F ex):kT F:=⟨h⟩
structure Nx(P:Program)(E:Env)(n:Nat)(ops:Array Oper)(done:List Bool)(mb:List MB)(σ:St)(K:St→Prop)(r:List Nat):Prop where
 h:YE P E n ops done mb σ K r
theorem gr{P:Program}{E:Env}{n:Nat}{ops:Array Oper}{done:List Bool}{mb:List MB}{σ:St}{K:St→Prop}:Nx P E n ops done mb σ K []:=⟨trivial⟩
def YF(P:Program)(E:Env)(n:Nat)(ops:Array Oper)(done:List Bool)(mb:List MB)(σ:St)(K:St→Prop)(i:Nat):Prop :=
 match ops[i]? with
 |some o=>DW (M8 (AF ops mb i)++σ.sl) fun xq=>kT fun ex=>B3 P E n ops [o] ⟨xq++ex,σ.nx,σ.hp⟩ fun σ'=>Nu P E n ops (Jo ops done mb i) (s6 ops mb i) K (M8 (AF ops mb i)++σ.sl) (match o.dst,o.guard with
  |some _,some _=>(AF ops mb i).length+σ.sl.length+2
  |some _,none=>(AF ops mb i).length+σ.sl.length+1
  |none,_=>(AF ops mb i).length+σ.sl.length) ex σ'
 |none=>False
theorem YG{P:Program}{E:Env}{n:Nat}{ops:Array Oper}{done:List Bool}{mb:List MB}{σ:St}{K:St→Prop}{i:Nat}(h:YF P E n ops done mb σ K i):Nv P E n ops done mb σ K i:=by
 unfold YF at h
 unfold Nv
 split at h
 ·have h2:=(s5 h).h
  simp only[List.append_assoc]at h2
  exact h2
 ·exact h.elim
theorem gu{P:Program}{E:Env}{n:Nat}{ops:Array Oper}{done:List Bool}{mb:List MB}{σ:St}{K:St→Prop}{i:Nat}{r:List Nat}(h:YF P E n ops done mb σ K i)(k:Nx P E n ops done mb σ K r):Nx P E n ops done mb σ K (i::r):=⟨⟨YG h,k.h⟩⟩
theorem gv{P:Program}{E:Env}{n:Nat}{ops:Array Oper}{done:List Bool}{mb:List MB}{K:St→Prop}{base:List (Nat×AV)}{k:Nat}{ex:List (Nat×AV)}{σ':St}(h1:σ'.sl=σ'.sl.take k++ex)(h2:(Az mb).map (look (σ'.sl.take k))=(Az mb).map (look base))(h3:ES n (σ'.sl.take k) mb=true)
  (h4:DW (σ'.sl.take k) fun xq=>V5 σ'.hp fun hp2=>H0 σ'.nx fun tB=>Km done fun tN=>SC mb fun zY=>D1 P E n ops tN zY ⟨xq,tB,hp2⟩ K):Nu P E n ops done mb K base k ex σ' :=
 ⟨h1,h2,h3,Nw (FL (E3 (T7 (s5 h4))))⟩
def kU(P:Program)(E:Env)(n:Nat)(ops:Array Oper)(done:List Bool)(mb:List MB)(σ:St)(K:St→Prop):Prop :=
 match (List.range ops.size).find? (SD ops n done mb σ.sl)with
 |some i=>match ops[i]? with
  |some ⟨some d,op,_,_,_,none⟩=>DW (MU op (M8 mb++σ.sl)) fun rd=>MV P op (F4 ⟨rd,0,[]⟩) fun av=>D1 P E n ops done (⟨i,d,av,rd⟩::mb) σ K
  |_=>False
 |none=>SA (IL ops done mb) fun L=>match L with
  |[]=>cond (SB ops done mb) (K ⟨M8 mb++σ.sl,σ.nx,σ.hp⟩) False
  |i::r=>Nx P E n ops done mb σ K (i::r)
theorem Qe{P:Program}{E:Env}{n:Nat}{ops:Array Oper}{done:List Bool}{mb:List MB}{σ:St}{K:St→Prop}(nM:Nat.beq done.length ops.size=true)(ns:HX ops=true)(h:kU P E n ops done mb σ K):D1 P E n ops done mb σ K:=by
 unfold kU at h
 split at h
 ·rename_i i hi
  have hc:=List.find?_some hi
  split at h
  ·rename_i d op ty pos after qK
   simp only[SD,qK,Bool.and_eq_true,Bool.not_eq_true']at hc
   exact TN qK hc.2.2 hc.2.1.2 hc.1.1.1 (s5 h)
  ·exact h.elim
 ·have h:=IG h
  split at h
  ·rename_i hr
   obtain⟨ha,h⟩:=cond_false h
   exact Ko nM ns (fun _=>h) (by rw[hr];trivial)
  ·rename_i i r hr
   refine Ko nM ns (fun ha=>?_) (by rw[hr];exact h.h)
   exfalso
   have oH:i∈IL ops done mb:=by rw[hr];simp
   unfold IL at oH
   rw[List.mem_filter]at oH
   have h2:=List.all_eq_true.1 ha i oH.1
   have h3:=oH.2
   simp only[Bool.and_eq_true,Bool.not_eq_true']at h3
   rw[h3.1.1,h3.1.2]at h2
   cases h2
theorem Fu{P:Program}{E:Env}{n:Nat}{ops:Array Oper}{σ:St}{K:St→Prop}(h:D1 P E n ops (Q0 ops) [] σ K):C8 P E n ops ops.size (Q0 ops) σ K:=fun a w hs =>
 h (fun m hm=>by cases hm) (fun m hm=>by cases hm) rfl ops.size (Q0 ops) a w (by simp[Q0]) (fun i h=>h) (fun i h=>.inl h) (by
  have:=List.count_le_length (a:=false) (l:=Q0 ops)
  simpa [Q0]using this) hs
theorem F5{P:Program}{E:Env}{n:Nat}{ops:Array Oper}{σ:St}{Q:Exit→St→Prop}{id:Nat}[hm:Jh P](S:St)(h:Km (Q0 ops) fun d=>DW σ.sl fun sl=>D1 P E n ops d [] ⟨sl,σ.nx,σ.hp⟩ fun σ'=>St.le E n σ' S)(k:Q .normal S):DU P E n id ops σ Q:=HU S (Fu (s5 (FL h))) k
def gF(S:Nat→List AV→Prop):List Nat→List AV→Prop
 |[],l=>l=[]
 |t::r,l=>∃a b,S t a∧gF S r b∧l=a++b
def kV(S:List AV→Prop):Nat→List AV→Prop
 |0,l=>l=[]
 |n+1,l=>∃a b,S a∧kV S n b∧l=a++b
def HZ(P:Program)(tot:Nat):List Field→Nat→Bool
 |[],o=>Nat.beq o tot
 |f::r,o=>Nat.beq f.offset o && HZ P tot r (o+P.cellsOf f.type)
def Sh(P:Program):Nat→TypeId→List AV→Prop
 |0,_,_=>False
 |f+1,t,l=>match P.underlying t with
  |some .bool=>∃b,l=[.v (.bool b)]
  |some (.int k)=>∃n,(Lit.int k n).wf=true∧l=[.v (.int k n)]
  |some .string=>∃s,s.length≤maxLen∧l=[.str s]
  |some (.slice e)=>∃ls,ls.length≤maxLen∧(∀x∈ls,Sh P f e x)∧l=[.sl (P.cellsOf e) ls]
  |some (.struct fs)=>HZ P (P.cellsOf t) fs.toList 0=true→gF (Sh P f) (fs.toList.map (·.type)) l
  |some (.array n e)=>P.cellsOf t=n*P.cellsOf e→kV (Sh P f e) n l
  |_=>True
def Ha:Nat→Prop:=fun _=>False
def Ds(w:World)(l:List AV)(cs:List Value):Prop:=l.length=cs.length∧∀(j:Nat) x y,l[j]?=some x→cs[j]?=some y→Im Ha w x y
theorem Ds.nil{w:World}:Ds w [] []:=⟨rfl,fun j x y h=>by simp at h⟩
theorem Ds.one{w:World}{a:AV}{v:Value}(h:Im Ha w a v):Ds w [a] [v]:=⟨rfl,fun j x y hx hy=>by
 cases j with
 |zero=>simp at hx hy;subst hx hy;exact h
 |succ j=>simp at hx⟩
theorem Ds.app{w:World}{l m:List AV}{cs ds:List Value}(h:Ds w l cs)(h':Ds w m ds):Ds w (l++m) (cs++ds):=by
 refine⟨by rw[List.length_append,List.length_append,h.1,h'.1],fun j x y hx hy=>?_⟩
 by_cases hj:j<l.length
 ·rw[List.getElem?_append_left hj]at hx
  rw[List.getElem?_append_left (by rw[←h.1];exact hj)]at hy
  exact h.2 j x y hx hy
 ·rw[List.getElem?_append_right (by omega)]at hx
  rw[List.getElem?_append_right (by rw[←h.1];omega),←h.1]at hy
  exact h'.2 _ x y hx hy
theorem Ds.raw{w:World}(cs:List Value):Ds w (cs.map .v) cs:=⟨by simp,fun j x y hx hy=>by
 rw[List.getElem?_map,hy]at hx
 simp at hx;subst hx;exact .v _⟩
theorem IP{α β:Type}{f:α→Option β}:∀{l:List α} {r:List β},l.mapM f=some r→r.length=l.length∧∀(i:Nat) x,l[i]?=some x→∃y,r[i]?=some y∧f x=some y
 |[],r,h=>by simp at h;subst h;simp
 |a::l,r,h=>by
  rw[List.mapM_cons]at h
  cases ha:f a with
  |none=>rw[ha]at h;cases h
  |some y =>
   rw[ha]at h
   cases hl:l.mapM f with
   |none=>rw[hl]at h;cases h
   |some r' =>
    rw[hl]at h
    cases h
    obtain⟨h1,h2⟩:=IP hl
    refine⟨by simp[h1],fun i x hi=>?_⟩
    cases i with
    |zero=>simp at hi;subst hi;exact⟨y,rfl,ha⟩
    |succ i=>simp at hi;simpa using h2 i x hi
theorem Vi{w:World}{base:Nat}{a:Addr}{n:Nat}{cs:List Value}(h:w.cells? base a n=some cs):cs.length=n∧∀j,j<n→∃v,cs[j]?=some v∧w.cell? (a.add j)=some v:=by
 unfold World.cells? at h
 split at h
 ·obtain⟨h1,h2⟩:=IP h
  rw[List.length_range]at h1
  refine⟨h1,fun j hj=>?_⟩
  obtain⟨y,hy,hc⟩:=h2 j j (by rw[List.getElem?_range hj])
  exact⟨y,hy,hc⟩
 ·cases h
theorem dW{α:Type}(n:Nat)(f:Nat→α)(i:Nat):((List.range n).map f)[i]?=if i<n then some (f i)else none:=by
 by_cases h:i<n
 ·simp[h]
 ·simp[h]
section
variable {H:Type} {enc:TypeId×Value→H} {P:Program} {w:World} {base:Nat} {spare:Nat→Bool} {held:Bool}
theorem Qf{S:Nat→List AV→Prop}{T:Nat→List Value→Option (DataW H×List MemPlace)}(hT:∀t cs y,T t cs=some y→∃l,S t l∧Ds w l cs){tot:Nat}(cs:List Value)(oN:cs.length=tot):
  ∀(fs:List Field) (o:Nat) {r},HZ P tot fs o=true→(fs.mapM fun f=>T f.type ((cs.drop f.offset).take (P.cellsOf f.type)))=some r→∃l,gF S (fs.map (·.type)) l∧Ds w l (cs.drop o)
 |[],o,r,hc,h=>by
  have:o=tot:=Nat.eq_of_beq_eq_true hc
  exact⟨[],rfl,by rw[List.drop_of_length_le (by omega)];exact .nil⟩
 |f::fs,o,r,hc,h=>by
  simp only[HZ,Bool.and_eq_true]at hc
  have ho:f.offset=o:=Nat.eq_of_beq_eq_true hc.1
  rw[List.mapM_cons]at h
  cases ha:T f.type ((cs.drop f.offset).take (P.cellsOf f.type))with
  |none=>rw[ha]at h;cases h
  |some y =>
   rw[ha]at h
   cases hl:(fs.mapM fun f=>T f.type ((cs.drop f.offset).take (P.cellsOf f.type)))with
   |none=>rw[hl]at h;cases h
   |some r' =>
    obtain⟨a,ha1,vB⟩:=hT _ _ _ ha
    obtain⟨b,ou,nl⟩:=Qf hT cs oN fs _ hc.2 hl
    refine⟨a++b,⟨a,b,ha1,ou,rfl⟩,?_⟩
    have:=vB.app nl
    rw[ho,←List.drop_drop,List.take_append_drop]at this
    exact this
theorem TO{S:List AV→Prop}{c:Nat}{T:List Value→Option (DataW H×List MemPlace)}(hT:∀cs y,T cs=some y→∃l,S l∧Ds w l cs)(cs:List Value):
  ∀(n i:Nat),cs.length=(i+n)*c→(∀k,k<n→∃y,T ((cs.drop ((i+k)*c)).take c)=some y)→∃l,kV S n l∧Ds w l (cs.drop (i*c))
 |0,i,hl,_=>⟨[],rfl,by rw[List.drop_of_length_le (by rw[hl,Nat.add_zero];exact Nat.le_refl _)];exact .nil⟩
 |n+1,i,hl,h=>by
  obtain⟨y,hy⟩:=h 0 (by omega)
  obtain⟨a,ha1,vB⟩:=hT _ _ hy
  obtain⟨b,ou,nl⟩:=TO hT cs n (i+1) (by rw[hl];congr 1;omega) (fun k hk=>by
   obtain⟨z,hz⟩:=h (k+1) (by omega)
   exact⟨z,by rw[show i+1+k=i+(k+1) by omega];exact hz⟩)
  refine⟨a++b,⟨a,b,ha1,ou,rfl⟩,?_⟩
  have:=vB.app nl
  rw[Nat.add_zero,Nat.add_mul,Nat.one_mul,←List.drop_drop,List.take_append_drop]at this
  exact this
theorem gw:∀(nO:Nat) (t:TypeId) (cs:List Value) (y:DataW H×List MemPlace),DataW.trod enc P w base spare held nO t cs=some y→∃l,Sh P nO t l∧Ds w l cs:=by
 intro nO
 induction nO with
 |zero=>intro t cs y h;simp[DataW.trod]at h
 |succ f ih =>
  intro t cs y h
  have raw:(∀l,Sh P (f+1) t l)→∃l,Sh P (f+1) t l∧Ds w l cs:=fun np=>⟨_,np _,.raw cs⟩
  unfold DataW.trod at h
  split at h
  ·rename_i ht
   exact⟨[.v (.bool _)],by simp only[Sh,ht];exact⟨_,rfl⟩,.one (.v _)⟩
  ·rename_i k k' n ht
   split at h
   ·rename_i hk
    obtain⟨rfl,hwf⟩:=hk
    exact⟨[.v (.int k' n)],by simp only[Sh,ht];exact⟨_,hwf,rfl⟩,.one (.v _)⟩
   ·cases h
  ·rename_i ht;exact raw fun l=>by simp only[Sh,ht]
  ·rename_i s ht
   split at h
   ·rename_i hs
    refine⟨[.str s.data.toList],by simp only[Sh,ht];exact⟨_,by rw[Array.length_toList];exact hs,rfl⟩,.one ?_⟩
    have:=Im.str (U:=Ha) (w:=w) s.data.toList
    simpa using this
   ·cases h
  ·rename_i ht;exact raw fun l=>by simp only[Sh,ht]
  ·rename_i ht;exact raw fun l=>by simp only[Sh,ht]
  ·rename_i e ht
   exact⟨[.sl (P.cellsOf e) []],by simp only[Sh,ht];exact⟨[],Nat.zero_le _,(fun x hx=>by cases hx),rfl⟩,.one (.slnil _)⟩
  ·rename_i e a len cap ht
   simp only at h
   split at h
   ·rename_i hb
    obtain⟨ox,vy,qp⟩:=hb
    rw[Option.bind_eq_some_iff]at h
    obtain⟨elems,nJ,_⟩:=h
    obtain⟨_,sP⟩:=IP nJ
    have key:∀i,∃p:List AV×List Value,i<len→Sh P f e p.1∧Ds w p.1 p.2∧p.2.length=P.cellsOf e∧∀j,j<P.cellsOf e→∃v,p.2[j]?=some v∧w.cell? (a.add (i*P.cellsOf e+j))=some v:=by
     intro i
     by_cases hi:i<len
     ·obtain⟨z,_,hz⟩:=sP i i (by rw[List.getElem?_range hi])
      rw[Option.bind_eq_some_iff]at hz
      obtain⟨csi,oN,xW⟩:=hz
      obtain⟨nM,nr⟩:=Vi oN
      obtain⟨l,hsh,hp⟩:=ih _ _ _ xW
      exact⟨(l,csi),fun _=>⟨hsh,hp,nM,fun j hj=>by
       obtain⟨v,hv,hc⟩:=nr j hj
       rw[Dw]at hc
       exact⟨v,hv,hc⟩⟩⟩
     ·exact⟨([],[]),fun h=>absurd h hi⟩
    have tH:=fun i=>Classical.choose_spec (key i)
    generalize hg:(fun i=>Classical.choose (key i))=g at tH
    have gi:∀i,Classical.choose (key i)=g i:=fun i=>congrFun hg i
    simp only[gi]at tH
    refine⟨[.sl (P.cellsOf e) ((List.range len).map fun i=>(g i).1)],?_,.one ?_⟩
    ·simp only[Sh,ht]
     refine⟨_,by simp;omega,fun x hx=>?_,rfl⟩
     obtain⟨i,hi,rfl⟩:=List.mem_map.1 hx
     exact(tH i (List.mem_range.1 hi)).1
    ·have hl:((List.range len).map fun i=>(g i).1).length=len:=by simp
     have:=Im.sl (U:=Ha) (w:=w) (P.cellsOf e) ((List.range len).map fun i=>(g i).1) a cap (fun i j=>(g i).2.getD j undef) (by rw[hl];exact vy) qp (fun _ _ h=>h)
      (fun x hx=>by
       obtain⟨i,hi,rfl⟩:=List.mem_map.1 hx
       obtain⟨_,h1,h2,_⟩:=tH i (List.mem_range.1 hi)
       rw[h1.1,h2])
      (fun i hi j hj=>by
       rw[hl]at hi
       obtain⟨_,_,_,h3⟩:=tH i hi
       obtain⟨v,hv,hc⟩:=h3 j hj
       simp only[List.getD_eq_getElem?_getD,hv]
       exact hc)
      (fun i x hx j u hu=>by
       rw[dW]at hx
       split at hx
       ·rename_i hi
        cases hx
        obtain⟨_,h1,h2,h3⟩:=tH i hi
        have hj:j<P.cellsOf e:=by rw[←h2,←h1.1];exact(List.getElem?_eq_some_iff.1 hu).1
        obtain⟨v,hv,_⟩:=h3 j hj
        simp only[List.getD_eq_getElem?_getD,hv]
        exact h1.2 j u v hu hv
       ·cases hx)
     rw[hl]at this
     exact this
   ·cases h
  ·rename_i fs ht
   split at h
   ·rename_i hl
    rw[Option.map_eq_some_iff]at h
    obtain⟨r,hr,_⟩:=h
    by_cases hc:HZ P (P.cellsOf t) fs.toList 0=true
    ·obtain⟨l,h1,h2⟩:=Qf (S:=Sh P f) (fun t cs y h=>ih t cs y h) _ hl fs.toList 0 hc hr
     exact⟨l,by simp only[Sh,ht];exact fun _=>h1,by simpa using h2⟩
    ·exact raw fun l=>by simp only[Sh,ht];exact fun h=>absurd h hc
   ·cases h
  ·rename_i n e ht
   split at h
   ·rename_i hl
    rw[Option.map_eq_some_iff]at h
    obtain⟨r,hr,_⟩:=h
    by_cases hc:P.cellsOf t=n*P.cellsOf e
    ·obtain⟨_,pM⟩:=IP hr
     obtain⟨l,h1,h2⟩:=TO (S:=Sh P f e) (c:=P.cellsOf e) (T:=fun cs=>DataW.trod enc P w base spare held f e cs) (fun cs y h=>ih e cs y h) _ n 0 (by rw[hl,hc,Nat.zero_add]) (fun k hk=>by
      obtain⟨z,_,hz⟩:=pM k k (by rw[List.getElem?_range hk])
      exact⟨z,by rw[Nat.zero_add];exact hz⟩)
     exact⟨l,by simp only[Sh,ht];exact fun _=>h1,by simpa using h2⟩
    ·exact raw fun l=>by simp only[Sh,ht];exact fun h=>absurd h hc
   ·cases h
  all_goals first
   |cases h;done
   |(rename_i ht;exact raw (by intro l;simp only[Sh,ht]))
   |(rename_i ht;split at h<;>first|(cases h;done)|exact raw (by intro l;simp only[Sh,ht]))
   |(rename_i ht _;exact raw (by intro l;simp only[Sh,ht]))
def s7(P:Program)(t:TypeId)(a:AV):Prop:=match P.underlying t with
 |some (.struct _)|some (.array _ _)=>∃nO l,a=.agg l∧Sh P nO t l
 |_=>∃nO,Sh P nO t [a]
theorem TP{v:Value}(h:∀cs,v≠.agg cs):v.cells=#[v]:=by
 cases v<;>first|rfl|exact absurd rfl (h _)
theorem Vj{r:Reach}{b0:Nat}{t:TypeId}{v:Value}(h:Cell.okWide P w r b0 t v):∀cs,v≠.agg cs:=by
 rintro cs rfl
 simp only[Cell.okWide,Cell.ok]at h
 split at h<;>simp_all
theorem dX{r:Reach}{b0:Nat}{t:TypeId}{v:Value}{d:DataW H}{ps:List MemPlace}(ol:Value.okWide P w r b0 t v)(h:DataW.Trod enc P w base spare held t v d ps):∃a,s7 P t a∧Im Ha w a v:=by
 obtain⟨nO,h⟩:=h
 obtain⟨l,hs,hp⟩:=gw nO t _ _ h
 have one:(∀cs,v≠.agg cs)→∃a,l=[a]∧Im Ha w a v:=by
  intro yv
  rw[TP yv]at hp
  obtain⟨h1,h2⟩:=hp
  match l,h1,h2 with
  |[a],_,h2=>exact⟨a,rfl,h2 0 a v rfl rfl⟩
 have agg:∀cs,v=.agg cs→Im Ha w (.agg l) v:=by
  rintro cs rfl
  have uP:Ds w l cs.toList:=hp
  have:=Im.agg (U:=Ha) (w:=w) l cs.toList uP.1 uP.2
  simpa using this
 unfold s7
 unfold Value.okWide at ol
 split at ol
 ·rename_i ht
  obtain⟨cs,hv,_⟩:=ol
  exact⟨.agg l,(by simp only[ht];exact⟨nO,l,rfl,hs⟩),agg cs hv⟩
 ·rename_i ht
  obtain⟨cs,hv,_⟩:=ol
  exact⟨.agg l,(by simp only[ht];exact⟨nO,l,rfl,hs⟩),agg cs hv⟩
 ·obtain⟨a,rfl,ha⟩:=one (Vj ol)
  refine⟨a,?_,ha⟩
  split
  all_goals first|exact⟨nO,hs⟩|(exfalso;simp_all)
def Kp(P:Program):List TypeId→List AV→Prop
 |[],l=>l=[]
 |t::ts,l=>∃a r,l=a::r∧s7 P t a∧Kp P ts r
theorem Qg{r:Reach}{b0:Nat}:∀{ts:List TypeId} {vs:List Value} {ds:List (DataW H)} {ps:List MemPlace},(∀(j:Nat) t v,ts[j]?=some t→vs[j]?=some v→Value.okWide P w r b0 t v)→DataW.TrodAll enc P w base spare held ts vs ds ps →
  ds.length=ts.length∧∃l,Kp P ts l∧l.length=vs.length∧∀(j:Nat) a v,l[j]?=some a→vs[j]?=some v→Im Ha w a v
 |[],[],[],ps,_,_=>⟨rfl,[],rfl,rfl,fun j a v h=>by simp at h⟩
 |[],[],_::_,ps,_,h=>h.elim
 |[],_::_,_,ps,_,h=>h.elim
 |_::_,[],_,ps,_,h=>h.elim
 |_::_,_::_,[],ps,_,h=>h.elim
 |t::ts,v::vs,d::ds,ps,ol,h=>by
  obtain⟨p,q,h1,h2,_⟩:=h
  obtain⟨a,ha,hi⟩:=dX (ol 0 t v rfl rfl) h1
  obtain⟨hd,l,hl,nM,hr⟩:=Qg (ts:=ts) (vs:=vs) (fun j t v ht hv=>ol (j+1) t v (by simpa using ht) (by simpa using hv)) h2
  refine⟨by simp[hd],a::l,⟨a,l,rfl,ha,hl⟩,by simp[nM],fun j x y hx hy=>?_⟩
  cases j with
  |zero=>simp at hx hy;subst hx hy;exact hi
  |succ j=>exact hr j x y (by simpa using hx) (by simpa using hy)
theorem Qh(hl:laidOutB P=true){w':World}(hb:Below w.heap.size w w'):∀{ts:List TypeId} {vs:List Value} {ds:List (DataW H)} {ps:List MemPlace},(ts.all fun t=>P.readableRec t && decide (t<P.types.size))=true→(∀x∈ps,x.block<w.heap.size) →
  DataW.TrodAll enc P w 0 (fun _=>true) true ts vs ds ps→DataW.TrodAll enc P w' 0 (fun b=>decide (b<w.heap.size)) true ts vs ds ps
 |[],[],[],ps,_,_,h=>h
 |[],[],_::_,ps,_,_,h=>h.elim
 |[],_::_,_,ps,_,_,h=>h.elim
 |_::_,[],_,ps,_,_,h=>h.elim
 |_::_,_::_,[],ps,_,_,h=>h.elim
 |t::ts,v::vs,d::ds,ps,hr,nN,h=>by
  obtain⟨p,q,h1,h2,rfl⟩:=h
  rw[List.all_cons,Bool.and_eq_true,Bool.and_eq_true]at hr
  exact⟨p,q,Below.trod hl hr.1.1 (of_decide_eq_true hr.1.2) h1 hb fun x hx=>nN x (by simp[hx]),Qh hl hb hr.2 (fun x hx=>nN x (by simp[hx])) h2,rfl⟩
theorem dY{f:Nat}{fn:Func}{s:ChangeSpec}{tb:TypeId}{handsOn:Bool}{W:World}{args:Array Value}{ds gs:List (DataW H)}{before:List MemPlace}{b0:Nat}{r:Reach}
  (hl:laidOutB P=true) (hr:(fn.params.toList.all fun t=>P.readableRec t && decide (t<P.types.size))=true) (rN:P.underlying tb=some .bool) (wP:fn.resultTypes=#[tb])
  (vT:s.vars=[]) (hs:∀ds:List (DataW H),ds.length=fn.params.toList.length→s.fn H (ds++[])={ results:=[.lit (.bool true)],args:=ds })
  (rS:∀l,Kp P fn.params.toList l→A3 P f l (.b true))
  (oP:S7 Ha W) (hval:∀(j:Nat) t v,fn.params[j]?=some t→args[j]?=some v→Value.okWide P W r b0 t v)
  (hW:DataW.Whole enc P fn.params.toList s.vars false W args.toList ds gs before) :
  Calls P f args W fun e W'=>∃v,e=.returned v∧s.post enc P fn false true handsOn false W args v W':=by
 have hW0:=hW
 obtain⟨p,q,hA,hV,rfl,hfz,wc⟩:=hW
 obtain⟨qC,l,hsh,ry,oT⟩:=Qg (r:=r) (b0:=b0) (fun j t v ht hv=>hval j t v (by simpa using ht) (by simpa using hv)) hA
 have nN:∀x∈p++q,x.block<W.heap.size:=fun x hx=>hW0.lt x hx
 rw[vT]at hV
 obtain⟨rfl,rfl⟩:gs=[]∧q=[]:=by
  cases gs with
  |nil=>exact⟨rfl,hV⟩
  |cons a b=>exact hV.elim
 have hc:=(rS l hsh).2 Ha W args.toList (fun k hk=>hk.elim) oP ry oT
 have ea:args.toList.toArray=args:=by simp
 rw[ea]at hc
 refine hc.mono fun e W' ⟨v,he,hi,hb⟩=>?_
 subst he
 cases hi
 refine⟨_,rfl,ds,[],p++[],[],p,[],hW0,?_,?_,?_,?_,fun h=>by cases h⟩
 ·rw[wP,hs ds qC]
  exact⟨[],[],shut_bool rN true,rfl,rfl⟩
 ·rw[hs ds qC]
  exact Qh hl hb hr (fun x hx=>nN x (by simp[hx])) hA
 ·rw[vT,hs ds qC]
  rfl
 ·exact Below.frame hb _
end
section
variable {P:Program}
theorem aX{k:IntKind}{n:Int}(h:(Lit.int k n).wf=true):k.min≤n∧n≤k.max:=by
 simpa [Lit.wf]using h
theorem wf_u8{n:Int}(h:(Lit.int .u8 n).wf=true):0≤n∧n<256:=by
 obtain⟨h1,h2⟩:=aX h
 have e1:IntKind.min .u8=0:=rfl
 have e2:IntKind.max .u8=255:=rfl
 omega
theorem wf_i64{n:Int}(h:(Lit.int .i64 n).wf=true):-9223372036854775808≤n∧n≤9223372036854775807:=by
 obtain⟨h1,h2⟩:=aX h
 have e1:IntKind.min .i64=-9223372036854775808:=by decide
 have e2:IntKind.max .i64=9223372036854775807:=by decide
 omega
theorem TQ{f t:Nat}{l:List AV}{k:IntKind}(ht:P.underlying t=some (.int k))(h:Sh P f t l):∃n,(Lit.int k n).wf=true∧l=[.v (.int k n)]:=by
 cases f with
 |zero=>exact h.elim
 |succ f=>simpa only[Sh,ht]using h
theorem IQ{f t e c:Nat}{l:List AV}(ht:P.underlying t=some (.slice e))(hc:P.cellsOf e=c)(h:Sh P f t l):∃f' ls,ls.length≤maxLen∧(∀x∈ls,Sh P f' e x)∧l=[.sl c ls]∧f=f'+1:=by
 cases f with
 |zero=>exact h.elim
 |succ f =>
  simp only[Sh,ht]at h
  obtain⟨ls,h1,h2,h3⟩:=h
  exact⟨f,ls,h1,h2,by rw[h3,hc],rfl⟩
theorem Jp{f t:Nat}{l:List AV}{fs:Array Field}{ts:List Nat}(ht:P.underlying t=some (.struct fs))(hc:(HZ P (P.cellsOf t) fs.toList 0 && decide (fs.toList.map (·.type)=ts))=true)(h:Sh P f t l):∃f',gF (Sh P f') ts l∧f=f'+1:=by
 cases f with
 |zero=>exact h.elim
 |succ f =>
  simp only[Bool.and_eq_true,decide_eq_true_eq]at hc
  simp only[Sh,ht]at h
  exact⟨f,hc.2▸h hc.1,rfl⟩
def PX(P:Program)(t:Nat):Bool:=match P.underlying t with
 |some (.struct _)|some (.array _ _)=>true
 |_=>false
theorem gx{t:Nat}{a:AV}(ht:PX P t=true)(h:s7 P t a):∃nO l,a=.agg l∧Sh P nO t l:=by
 unfold s7 at h
 unfold PX at ht
 split at ht
 ·rename_i h1;simpa only[h1]using h
 ·rename_i h1;simpa only[h1]using h
 ·cases ht
theorem Wi{t:Nat}{a:AV}(ht:PX P t=false)(h:s7 P t a):∃nO,Sh P nO t [a]:=by
 unfold s7 at h
 unfold PX at ht
 split at ht
 ·cases ht
 ·cases ht
 ·split at h
  all_goals first|exact h|(exfalso;simp_all)
theorem gy{t:Nat}{a:AV}(ht:P.underlying t=some (.int .i64))(h:s7 P t a):∃n:Int,(-9223372036854775808≤n∧n≤9223372036854775807)∧a=.i n:=by
 obtain⟨f,h⟩:=Wi (by simp[PX,ht]) h
 obtain⟨n,hw,e⟩:=TQ ht h
 exact⟨n,wf_i64 hw,by simpa using e⟩
theorem Qi{t e c:Nat}{a:AV}(ht:P.underlying t=some (.slice e))(hc:P.cellsOf e=c)(h:s7 P t a):∃f ls,ls.length≤maxLen∧(∀x∈ls,Sh P f e x)∧a=.sl c ls:=by
 obtain⟨f,h⟩:=Wi (by simp[PX,ht]) h
 obtain⟨f',ls,h1,h2,h3,_⟩:=IQ ht hc h
 exact⟨f',ls,h1,h2,by simpa using h3⟩
theorem EA{α:Type}{F:α→List AV}{R:α→Prop}:∀{ls:List (List AV)},(∀x∈ls,∃y,R y∧x=F y)→∃l:List α,ls=l.map F∧∀y∈l,R y
 |[],_=>⟨[],rfl,fun y h=>by cases h⟩
 |x::r,h=>by
  obtain⟨y,hy,e⟩:=h x (by simp)
  obtain⟨l,hl,hr⟩:=EA (ls:=r) fun z hz=>h z (by simp[hz])
  refine⟨y::l,by simp[e,hl],fun z hz=>?_⟩
  rcases List.mem_cons.1 hz with rfl|hz
  ·exact hy
  ·exact hr z hz
abbrev P9(b:UInt8):List AV:=[.v (.int .u8 b.toNat)]
theorem aY{t e:Nat}{a:AV}(ht:P.underlying t=some (.slice e))(he:P.underlying e=some (.int .u8))(hc:P.cellsOf e=1)(h:s7 P t a):∃l:List UInt8,l.length≤maxLen∧a=.sl 1 (l.map P9):=by
 obtain⟨f,ls,h1,h2,h3⟩:=Qi ht hc h
 obtain⟨l,hl,_⟩:=EA (F:=P9) (R:=fun _=>True) (ls:=ls) (fun x hx=>by
  obtain⟨n,hw,e⟩:=TQ he (h2 x hx)
  obtain⟨g1,g2⟩:=wf_u8 hw
  refine⟨UInt8.ofNat n.toNat,trivial,?_⟩
  rw[e,P9,UInt8.toNat_ofNat']
  rw[show ((n.toNat % 2 ^ 8:Nat):Int)=n by omega])
 exact⟨l,by rw[hl,List.length_map]at h1;exact h1,by rw[h3,hl]⟩
end
theorem YH{α:Type}{l:List UInt8}{f:UInt8→α}{k:Nat}{F:α→Prop}(h:k<l.length)(kk:∀x,l[k]?=some x→x.toNat<256→F (f x)):Q3 (l.map f) (k:Int) F:=Bc h fun x hx=>kk x hx x.toNat_lt
theorem aZ{α:Type}{l:List UInt8}{f:UInt8→α}{i:Int}{F:α→Prop}(h0:0≤i)(h:i<l.length)(kk:∀x,l[i.toNat]?=some x→x.toNat<256→F (f x)):Q3 (l.map f) i F:=w6 h0 h fun x hx=>kk x hx x.toNat_lt
theorem gz{l:List UInt8}{i:Int}{F:UInt8→Prop}(h0:0≤i)(h:i<l.length)(kk:∀x,l[i.toNat]?=some x→x.toNat<256→F x):Q3 l i F:=aC h0 h fun x hx=>kk x hx x.toNat_lt
theorem hH{P:Program}{S T:Nat}{k':IntKind}{b:UInt8}{F:AV→Prop}[S8 P T .i64][S8 P S k'](kk:F (.v (.int .i64 b.toNat))):Bu P S T (.v (.int k' b.toNat)) F:=gl (Q2 (by have:=b.toNat_lt;omega)) kk
theorem R5{P:Program}{E:Env}{n:Nat}{ops:Array Oper}{rest:List Oper}{σ:St}{K:St→Prop}{d:Nat}{ty:TypeId}{pos:String}{after:Array Edge}{T len:Nat}{parts:List (Nat×Operand)}(hd:Nat.blt d n=true)
  (h:match CM (F4 σ) parts with
   |some ps=>Fs P T fun e sz _ _=>cond (DO 0 ps && AC sz (L6 ps) && Nat.beq ps.length len && Nat.blt 0 sz && Nat.blt e K8) (G6 (len*sz≤16777216) (Ee σ.hp ps (Ni (L6 ps) (H0 σ.nx fun nx=>B3 P E n ops rest ((σ.new (.row e sz 0 (L6 ps))).put d (.row nx 0 len)) K)))) False
   |none=>False):B3 P E n ops (⟨some d,.buildSlice T len ⟨parts⟩,ty,pos,after,none⟩::rest) σ K:=by
 split at h
 ·rename_i ps he
  obtain⟨⟨e,sz,bs,z,ts,tz,tb,hz,h⟩⟩:=h
  obtain⟨hc,h⟩:=cond_false h
  simp only[Bool.and_eq_true,Nat.beq_eq]at hc
  obtain⟨⟨⟨⟨h1,h2⟩,h3⟩,h4⟩,qg⟩:=hc
  obtain⟨h5,h⟩:=h
  obtain⟨h6,h⟩:=w7 h
  obtain⟨h7,h⟩:=FG h
  exact NY (e:=e) (sz:=sz) (z:=z) he h6 h1 h2 h3 hz h5 (Nat.blt_eq▸h4) h7 (Nat.blt_eq▸qg) hd (E3 h)
 ·exact h.elim
def TR:AV→Bool
 |.v x=>Xr x
 |.str _|.sl _ _|.iptr _|.fn _ _=>true
 |_=>false
theorem Le{x:AV}(h:TR x=true):j3 x:=by
 cases x<;>first|exact Jc h|trivial|cases h
theorem mi{m:List (List AV)}(h:(m.all fun el=>el.all TR)=true):∀el∈m,∀u∈el,j3 u:=fun el nJ u hu =>
 Le (List.all_eq_true.1 (List.all_eq_true.1 h el nJ) u hu)
theorem iB{α:Type}{l:List α}{f:α→List AV}(h:∀x,(f x).all TR=true):∀el∈l.map f,∀u∈el,j3 u:=fun el nJ u hu=>by
 obtain⟨x,_,rfl⟩:=List.mem_map.1 nJ
 exact Le (List.all_eq_true.1 (h x) u hu)
theorem E7(id:Nat){P:Program}{E:Env}{n:Nat}{ops:Array Oper}{σ:St}{Q:Exit→St→Prop}(h:DU P E n id ops σ Q):DU P E n id ops σ Q:=h
def Wj(o:Oper):Bool:=o.dst.isSome && match o.op with
 |.box ..|.alloc ..|.makeSlice ..|.makeMap ..|.mapUpdate ..|.store ..=>false
 |.call ⟨.builtin .append,_,_⟩=>false
 |_=>true
theorem kW{P:Program}{E:Env}{n:Nat}{ops:Array Oper}{σ:St}{id:Nat}{Q:Exit→St→Prop}[hm:Jh P](hq:ops.toList.all Wj=true)(hd:FI ops=true)(h:DQ P E n ops ops.toList σ fun σ'=>Q .normal σ'):DU P E n id ops σ Q :=
 A9 hd h
theorem R6{P:Program}{E:Env}{n:Nat}{ops:Array Oper}{σ σ':St}{id:Nat}{Q:Exit→St→Prop}(h:St.le E n σ σ')(k:DU P E n id ops σ' Q):DU P E n id ops σ Q:=⟨P3 h k.h⟩
def ET(sl:List (Nat×AV)):List Nat→List (Nat×AV)
 |[]=>[]
 |s::r=>match look sl s with
  |some x=>(s,x)::ET sl r
  |none=>ET sl r
def s8(hp:Hp):Nat→Hp
 |0=>[]
 |i+1=>match A5 hp i with
  |some b=>(i,some b)::s8 hp i
  |none=>s8 hp i
theorem IR{sl:List (Nat×AV)}:∀{l:List Nat} {s:Nat} {x:AV},look (ET sl l) s=some x→look sl s=some x
 |[],s,x,h=>by cases h
 |t::r,s,x,h=>by
  unfold ET at h
  cases hx:look sl t with
  |none=>rw[hx]at h;exact IR h
  |some y =>
   rw[hx]at h
   simp only[E8]at h
   by_cases e:t=s
   ·subst e;rw[if_pos rfl]at h;rw[hx];exact h
   ·rw[if_neg e]at h;exact IR h
theorem Gx{hp:Hp}:∀(m i:Nat),A5 (s8 hp m) i=if i<m then A5 hp i else none
 |0,i=>by simp[s8,A5,look]
 |m+1,i=>by
  unfold s8
  cases hx:A5 hp m with
  |none =>
   simp only
   rw[Gx m i]
   by_cases e:i=m
   ·subst e;simp[hx]
   ·by_cases h:i<m
    ·rw[if_pos h,if_pos (by omega)]
    ·rw[if_neg h,if_neg (by omega)]
  |some b =>
   simp only[G5]
   by_cases e:m=i
   ·subst e;simp[hx]
   ·rw[if_neg e,Gx m i]
    by_cases h:i<m
    ·rw[if_pos h,if_pos (by omega)]
    ·rw[if_neg h,if_neg (by omega)]
theorem aa{E:Env}{n:Nat}{σ:St}(oa:List Nat):St.le E n σ ⟨ET σ.sl oa,σ.nx,s8 σ.hp σ.nx⟩:=by
 rintro a w ⟨θ,h⟩
 have e:∀i,A5 (s8 σ.hp σ.nx) i=A5 σ.hp i:=by
  intro i
  rw[Gx]
  by_cases hi:i<σ.nx
  ·rw[if_pos hi]
  ·rw[if_neg hi]
   cases hx:A5 σ.hp i with
   |none=>rfl
   |some b=>exact absurd (h.owns i b hx).1 hi
 have le:(cx E θ σ w).le (cx E θ ⟨ET σ.sl oa,σ.nx,s8 σ.hp σ.nx⟩ w):=by
  refine⟨Nat.le_refl _,fun i hi=>.inl rfl,fun i hi e' nQ v' l' hl=>⟨e',v',l',?_,.inr ⟨rfl,rfl,rfl⟩⟩,Nat.le_refl _,fun k hk _=>rfl,fun k hk hu=>?_⟩
  ·have oG:A5 (s8 σ.hp σ.nx) i=some (.row e' nQ v' l'):=hl
   rw[e i]at oG;exact oG
  ·rcases hu with hu|⟨i,b,hi,oL⟩
   ·exact .inl hu
   ·have oe:A5 (s8 σ.hp σ.nx) i=some b:=hi
    rw[e i]at oe
    exact .inr ⟨i,b,oe,oL⟩
 refine⟨θ,h.size,h.defers,h.fr,fun s x hs=>(h.slots s x (IR hs)).mono le,fun i b hi=>?_,fun i j b b' k hi hj=>?_,fun i b k hi=>?_,h.X,⟨h.base.1,fun i hi=>(h.base.2 i hi).imp id fun ⟨h1,h2⟩=>⟨h1,fun ⟨e',sz,v,l,hl,hk⟩=>h2 ⟨e',sz,v,l,by rw[←e i];exact hl,hk⟩⟩⟩⟩
 ·have oe:A5 (s8 σ.hp σ.nx) i=some b:=hi
  rw[e i]at oe
  exact⟨(h.owns i b oe).1,(h.owns i b oe).2.mono le rfl (fun _=>rfl) fun k _=>rfl⟩
 ·have oe:A5 (s8 σ.hp σ.nx) i=some b:=hi
  have nk:A5 (s8 σ.hp σ.nx) j=some b':=hj
  rw[e i]at oe
  rw[e j]at nk
  exact h.apart i j b b' k oe nk
 ·have oe:A5 (s8 σ.hp σ.nx) i=some b:=hi
  rw[e i]at oe
  exact h.mine i b k oe
def YI(σ:St)(oa:List Nat)(F:St→Prop):Prop:=DW (ET σ.sl oa) fun sl=>H0 σ.nx fun nx=>V5 (s8 σ.hp nx) fun hp=>F ⟨sl,nx,hp⟩
theorem Qj{σ:St}{oa:List Nat}{F:St→Prop}(h:YI σ oa F):F ⟨ET σ.sl oa,σ.nx,s8 σ.hp σ.nx⟩:=T7 (F:=fun hp=>F ⟨ET σ.sl oa,σ.nx,hp⟩) (E3 (F:=fun nx=>V5 (s8 σ.hp nx) fun hp=>F ⟨ET σ.sl oa,nx,hp⟩) (s5 h))
section rules
variable {P:Program} {E:Env} {n:Nat} {ops:Array Oper} {rest:List Oper} {σ:St} {K:St→Prop} {Q:Exit→St→Prop}
theorem Fv{l:List Oper}(oa:List Nat)(h:YI σ oa fun σ'=>B3 P E n ops l σ' K):B3 P E n ops l σ K:=Dx (aa oa) (Qj (F:=fun σ'=>B3 P E n ops l σ' K) h)
theorem dZ{c:Code}(oa:List Nat)(h:YI σ oa fun σ'=>Np P E n c σ' Q):Np P E n c σ Q:=⟨P3 (aa oa) (Qj (F:=fun σ'=>Np P E n c σ' Q) h).h⟩
theorem iC{o:Oper}{l:List AV}(i:Nat)(oa:List Nat)(h:YI (σ.frz i) oa fun σ'=>B3 P E n ops (o::rest) σ' K):l6 P E n ops o rest l σ K:=I6 i (Fv oa h)
end rules
class U5(G:Prop) where
 sub:Prop
 imp:sub→G
theorem nC{G:Prop}[s:U5 G](h:s.sub):G:=s.imp h
section
variable {P:Program} {E:Env} {n:Nat} {ops:Array Oper} {l:List Oper} {σ:St} {K:St→Prop} {Q:Exit→St→Prop} {c:Code} {S T f:Nat}
instance:U5 (B3 P E n ops l σ K):=⟨kJ P E n ops l σ K,Dy⟩
instance:U5 (C9 P E n c σ Q):=⟨Xv P E n c σ Q,aO⟩
instance:U5 (DQ P E n ops l σ K):=⟨dO P E n ops l σ K,mG⟩
instance {ag:Bool}{sz:Nat}{F:Bool→Nat→Prop}[G7 P T ag sz]:U5 (MQ P T F):=⟨F ag sz,lz⟩
instance {z:List Value}{F:List AV→Prop}[H8 P T z]:U5 (Xo P T F):=⟨F (z.map l5),kC⟩
instance {off sz:Nat}{F:Nat→Nat→Prop}[D8 P S f off sz]:U5 (PN P S f F):=⟨F off sz,mA⟩
instance {e sz:Nat}{F:Nat→Nat→Prop}[L5 P T e sz]:U5 (JI P T F):=⟨F e sz,mc⟩
instance {len e sz:Nat}{F:Nat→Nat→Prop}[MM P T len e sz]:U5 (cm P T F):=⟨F len sz,mB (e:=e)⟩
instance {A:Prop}[o4 P T]:U5 (EQ P T A):=⟨A,kD⟩
instance {A:Prop}[Zl P T]:U5 (fx P T A):=⟨A,me⟩
instance {A:Prop}[Ht P T]:U5 (Nf P T A):=⟨A,gj⟩
instance {A:Prop}[Fh P T]:U5 (HT P T A):=⟨A,gf⟩
instance {A:Prop}{k1 k2 k3:IntKind}[Ki P T k1 k2 k3]:U5 (Nd P T k1 k2 k3 A):=⟨A,gg⟩
instance {A:Prop}{k:IntKind}[Fb P T k]:U5 (IC P T k A):=⟨A,mC⟩
instance {A:Prop}{k1 k2:IntKind}[Hu P T k1 k2]:U5 (Nc P T k1 k2 A):=⟨A,gh⟩
instance {zs:List Value}{pl:List (Nat×Nat)}{F:List AV→List (Nat×Nat)→Prop}[H8 P T zs][K9 P T pl]:U5 (Jb P T F):=⟨F (zs.map l5) pl,gk⟩
instance {e sz bs:Nat}{z:List Value}{F:Nat→Nat→Nat→List AV→Prop}[L5 P T e sz][H8 P e z][M6 P e bs]:U5 (Fs P T F):=⟨G6 (z.length=sz) (F e sz bs (z.map l5)),fun h=>mD h.h h.k⟩
instance {k e:Nat}{t:TypeDesc}{z:Value}{F:TypeDesc→AV→Prop}[FB P T k e t z]:U5 (Xp P T F):=⟨F t (l5 z),mE⟩
instance (priority:=low) {α:Type}{l:List α}{F:Nat→Prop}:U5 (PM l F):=⟨F l.length,ly⟩
instance {α β:Type}{l:List β}{f:β→α}{F:Nat→Prop}:U5 (PM (l.map f) F):=⟨F l.length,gZ⟩
instance (priority:=low) {k:IntKind}{m:Int}{F:AV→Prop}[S8 P S k][o4 P T]:U5 (Bu P S T (.v (.int k m)) F):=⟨F (.str (Utf8.encode m).data.toList),aE⟩
instance {k k':IntKind}{m:Int}{F:AV→Prop}[S8 P T k][S8 P S k']:U5 (Bu P S T (.v (.int k' m)) F):=⟨F (.v (.int k (k.wrap m))),cn⟩
instance (priority:=high) {k':IntKind}{b:UInt8}{F:AV→Prop}[S8 P T .i64][S8 P S k']:U5 (Bu P S T (.v (.int k' b.toNat)) F):=⟨F (.v (.int .i64 b.toNat)),hH⟩
variable {A B p:Prop} {b:Bool}
instance (priority:=low):U5 (P8 b true A B):=⟨(b=true→A)∧(b=false→B),fun h=>dI h.1 h.2⟩
instance (priority:=low):U5 (P8 b false A B):=⟨(b=false→A)∧(b=true→B),fun h=>dJ h.1 h.2⟩
instance (priority:=low):U5 (Cb b A B):=⟨(b=true→A)∧(b=false→B),fun h=>kB h.1 h.2⟩
instance:U5 (P8 (!b) true A B):=⟨(b=false→A)∧(b=true→B),fun h=>aM h.1 h.2⟩
instance:U5 (P8 (!b) false A B):=⟨(b=true→A)∧(b=false→B),fun h=>aN h.1 h.2⟩
instance:U5 (Cb (!b) A B):=⟨(b=false→A)∧(b=true→B),fun h=>gb h.1 h.2⟩
instance [Decidable p]:U5 (P8 (decide p) true A B):=⟨(p→A)∧(¬p→B),fun h=>dG h.1 h.2⟩
instance [Decidable p]:U5 (P8 (decide p) false A B):=⟨(¬p→A)∧(p→B),fun h=>dH h.1 h.2⟩
instance [Decidable p]:U5 (Cb (decide p) A B):=⟨(p→A)∧(¬p→B),fun h=>kA h.1 h.2⟩
instance (priority:=high) [Decidable p]:U5 (P8 (!decide p) true A B):=⟨(¬p→A)∧(p→B),fun h=>aK h.1 h.2⟩
instance (priority:=high) [Decidable p]:U5 (P8 (!decide p) false A B):=⟨(p→A)∧(¬p→B),fun h=>aL h.1 h.2⟩
instance (priority:=high) [Decidable p]:U5 (Cb (!decide p) A B):=⟨(¬p→A)∧(p→B),fun h=>ga h.1 h.2⟩
instance {F:List (Nat×AV)→Prop}:U5 (kT F):=⟨∀ex,F ex,mh⟩
variable {α β:Type}
class Qk(G:Prop) where
 side:Prop
 sub:Prop
 imp:side→sub→G
instance (priority:=low) {l:List α}{i:Int}{F:α→Prop}:Qk (Q3 l i F):=⟨0≤i∧i<l.length,∀x,l[i.toNat]?=some x→F x,fun h k=>aC h.1 h.2 k⟩
instance {l:List β}{f:β→α}{i:Int}{F:α→Prop}:Qk (Q3 (l.map f) i F):=⟨0≤i∧i<l.length,∀x,l[i.toNat]?=some x→F (f x),fun h k=>w6 h.1 h.2 k⟩
instance (priority:=1010) {l:List β}{f:β→α}{k:Nat}{F:α→Prop}:Qk (Q3 (l.map f) (k:Int) F):=⟨0≤k∧k<l.length,∀x,l[k]?=some x→F (f x),fun h kk=>Bc h.2 kk⟩
instance (priority:=1020) {l:List UInt8}{i:Int}{F:UInt8→Prop}:Qk (Q3 l i F):=⟨0≤i∧i<l.length,∀x,l[i.toNat]?=some x→x.toNat<256→F x,fun h k=>gz h.1 h.2 k⟩
instance (priority:=1020) {l:List UInt8}{f:UInt8→α}{i:Int}{F:α→Prop}:Qk (Q3 (l.map f) i F):=⟨0≤i∧i<l.length,∀x,l[i.toNat]?=some x→x.toNat<256→F (f x),fun h k=>aZ h.1 h.2 k⟩
instance (priority:=high) {l:List UInt8}{f:UInt8→α}{k:Nat}{F:α→Prop}:Qk (Q3 (l.map f) (k:Int) F):=⟨0≤k∧k<l.length,∀x,l[k]?=some x→x.toNat<256→F (f x),fun h kk=>YH h.2 kk⟩
instance {e sz:Nat}{l:List UInt8}{F:AV→Prop}[L5 P S e sz][S8 P e .u8][o4 P T]:U5 (Bu P S T (.sl 1 (l.map fun b=>[.v (.int .u8 b.toNat)])) F):=⟨F (.str l),aD (e:=e) (sz:=sz)⟩
instance {e sz:Nat}{l:List UInt8}{F:AV→Prop}[o4 P S][L5 P T e sz][S8 P e .u8]:Qk (Bu P S T (.str l) F):=⟨0≤l.length∧l.length≤9223372036854775807,F (.sl 1 (l.map fun b=>[.v (.int .u8 b.toNat)])),fun h k=>Xq (e:=e) (sz:=sz) h.2 k⟩
class kX(G:Prop)(α β:outParam Type)(l:outParam (List β))(f:outParam (β→α))(i:outParam Int)(F:outParam (α→Prop)):Prop where
 eq:G=Q3 (l.map f) i F
instance {l:List β}{f:β→α}{i:Int}{F:α→Prop}:kX (Q3 (l.map f) i F) α β l f i F:=⟨rfl⟩
class da(G:Prop)(α:outParam Type)(l:outParam (List α))(i:outParam Int)(F:outParam (α→Prop)):Prop where
 eq:G=Q3 l i F
instance {l:List α}{i:Int}{F:α→Prop}:da (Q3 l i F) α l i F:=⟨rfl⟩
theorem Z1{G:Prop}{l:List β}{f:β→α}{i:Int}{x:β}{F:α→Prop}[s:kX G α β l f i F](kk:F (f x))(h:l[i.toNat]?=some x:=by assumption)(h0:0≤i:=by omega):G:=s.eq▸A2 h h0 kk
theorem Z2{G:Prop}{l:List α}{i:Int}{x:α}{F:α→Prop}[s:da G α l i F](kk:F x)(h:l[i.toNat]?=some x:=by assumption)(h0:0≤i:=by omega):G:=s.eq▸FF h h0 kk
class kY(G:Prop)(p A:outParam Prop):Prop where
 imp:p→A→G
instance:kY (G6 p A) p A:=⟨J0⟩
theorem Z3{G:Prop}[s:kY G p A](k:A)(h:p:=by first|omega|exact Eq.refl _|exact⟨Eq.refl _,by omega⟩|(simp only[List.length_map];omega)|exact mi rfl|exact iB fun _=>rfl|(constructor<;>(simp only[L6,K4,List.length_cons,List.length_nil,List.length_map];omega))):G:=s.imp h k
theorem Z4{G:Prop}[s:Qk G](k:s.sub)(h:s.side:=by (conv=>whnf);omega):G:=s.imp h k
class Wk(G:Prop) where
 side:Prop
 sub:Prop
 imp:side→sub→G
instance {nO:Nat}{l:List Bool}:Wk (C8 P E n ops nO l σ K):=⟨Nat.beq l.length ops.size=true∧Region.noSelect ops=true,kP P E n ops nO l σ K,fun h k=>gp h.2 h.1 k⟩
instance {done:List Bool}{mb:List MB}:Wk (D1 P E n ops done mb σ K):=⟨Nat.beq done.length ops.size=true∧HX ops=true,kU P E n ops done mb σ K,fun h k=>Qe h.1 h.2 k⟩
instance {done:List Bool}{mb:List MB}{base:List (Nat×AV)}{k:Nat}{ex:List (Nat×AV)}{σ':St}:Wk (Nu P E n ops done mb K base k ex σ') :=
 ⟨(σ'.sl,(Az mb).map (look (σ'.sl.take k)),ES n (σ'.sl.take k) mb)=(σ'.sl.take k++ex,(Az mb).map (look base),true)∧true=true,
  DW (σ'.sl.take k) fun xq=>V5 σ'.hp fun hp2=>H0 σ'.nx fun tB=>Km done fun tN=>SC mb fun zY=>D1 P E n ops tN zY ⟨xq,tB,hp2⟩ K,
  fun h k=>gv (congrArg (·.1) h.1) (congrArg (·.2.1) h.1) (congrArg (·.2.2) h.1) k⟩
instance {id:Nat}[hm:Jh P]:Wk (DU P E n id ops σ Q):=⟨ops.toList.all Wj=true∧FI ops=true,DQ P E n ops ops.toList σ fun σ'=>Q .normal σ',fun h k=>kW h.1 h.2 k⟩
theorem Z5{G:Prop}[s:Wk G](k:s.sub)(h:s.side:=by exact⟨by rfl,by kernel_rfl⟩):G:=s.imp h k
theorem S1{G H:Prop}(k:H)(h:H→G:=by first|exact dC|exact dD|exact dE|exact dF|exact jy|exact jz|exact aO|exact nC):G:=h k
theorem B5{f:Nat}{fn:Func}{code:Code}{args:List AV}{r:AV}{rs:Array ResultVar}(hf:P.funcs[f]?=some fn)(n:Nat)
  (h : (∀ a ∈ args,Rd a) → ∀ E,E.n0 = 0 → C9 P E n code ⟨Bv args 0,0,[]⟩ (D0 P rs r)) (pH : (fn.name == "runtime.NumGoroutine") = false := by kernel_rfl) (hb : fn.body = some code := by rfl) (hn : fn.ntmps = n := by rfl) (ss : fn.results = rs := by rfl)
  (nq:Nat.ble args.length n=true:=by rfl) (ni:J1 r=true:=by rfl) (pT:∀t T,rs=#[.cell t T]→∃sz,G7 P T true sz∧∀l,r=.agg l→l.length=sz:=by intro t T h;cases h):A3 P f args r :=
 Lb hf pH hb hn ss nq ni pT h
theorem c9{f:Nat}{fn:Func}{code:Code}{args:List AV}{r:AV}{rs:Array ResultVar}{m0 m1:Nat}{hp0 hp1:Hp}(hf:P.funcs[f]?=some fn)(n:Nat)
  (h : ∀ E,E.n0 = m0 → C9 P E n code ⟨Bv args 0,m0,hp0⟩ (C7 P E n rs m1 hp1 r)) (pH : (fn.name == "runtime.NumGoroutine") = false := by kernel_rfl) (hb : fn.body = some code := by rfl) (hn : fn.ntmps = n := by rfl) (ss : fn.results = rs := by rfl)
  (nq:Nat.ble args.length n=true:=by rfl):B8 P f m0 hp0 args m1 hp1 r :=
 Ve hf pH hb hn ss nq h
theorem nc{d f:Nat}{xs:List Operand}{ts:Array TypeId}{L args l:List AV}{r:AV}{m0 m1:Nat}{hp0 hp1:Hp}{ty:TypeId}{pos:String}{after:Array Edge}{rest:List Oper}(ι off:List Nat)(hc:B8 P f m0 hp0 args m1 hp1 r)
  (pm:r9 (F4 σ) xs=some L) (hL:Bd (K5 ι) (K5 off) args=L) (hB:(V3 m0 args && Nat.beq ι.length m0 && DX ι σ.nx && Be hp0 hp1 m0 && L1 m0 hp0 && L1 m1 hp1 && Nat.ble m0 m1 && Nat.blt d n)=true) (oJ:ER σ.hp hp0 ι off m0)
  (k:V4 (O2 (gρ ι m0 σ.nx) (gs ι m0 σ.hp) r) fun r2=>V5 (V6 (gρ ι m0 σ.nx) (gs ι m0 σ.hp) hp1++σ.hp) fun hp2=>H0 (σ.nx+(m1-m0)) fun tB=>B3 P E n ops rest (St.put ⟨σ.sl,tB,hp2⟩ d r2) K) :
  l6 P E n ops ⟨some d,.call ⟨.value (.func f),⟨xs⟩,ts⟩,ty,pos,after,none⟩ rest l σ K:=by
 simp only[Bool.and_eq_true]at hB
 obtain⟨⟨⟨⟨⟨⟨⟨h1,h2⟩,h3⟩,h4⟩,h5⟩,h6⟩,h7⟩,h8⟩:=hB
 exact⟨G3 ι off hc pm hL h1 h2 h3 oJ h4 h5 h6 h7 h8 k⟩
end
theorem S2{G H:Prop}(k:H)(h:PLift H→G:=by intro k;(first|refine Dy ?_|refine S1 ?_|refine Z1 ?_|refine Z2 ?_|refine Z3 ?_|refine Z4 ?_|refine Z5 ?_|(refine kS ?_ ?_;exact⟨by kernel_rfl,by decide⟩)|(refine Qe ?_ ?_ ?_;kernel_rfl;kernel_rfl));(try (conv=>whnf));exact k.down):G:=h ⟨k⟩
theorem V1{c A:Prop}(h:c)(f:c→False:=by first|(intro h0;omega)|exact absurd rfl):A:=(f h).elim
theorem T5{G A B:Prop}(a:A)(b:B)(h:A→B→G:=by first|exact kR|exact gu):G:=h a b
theorem T6{a b:Prop}(x:a)(y:b):a∧b:=⟨x,y⟩
theorem T4{G:Prop}(h:G:=by first|exact kQ|exact gr):G:=h
theorem A6{E:Env}{n m:Nat}{σ σ':St}(h0:E.n0=m)(hm:Nat.ble m σ'.nx=true:=by rfl)(hs:IA σ σ'.hp σ'.sl:=by (repeat' (first|exact trivial|exact rfl|refine And.intro ?_ ?_|exact⟨_,rfl⟩));done)(hh:FC σ σ'.hp σ'.hp:=by (repeat' (first|exact trivial|exact rfl|refine And.intro ?_ ?_|exact⟨_,rfl⟩));done)(hn:Nat.ble σ'.nx σ.nx=true:=by rfl)(hl:So σ'.nx σ'.sl=true:=by rfl)(hb:L1 σ'.nx σ'.hp=true:=by rfl):St.le E n σ σ':=A7 h0 hm hs hh hn hl hb
end Go.Av
