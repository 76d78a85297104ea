/- Regions that draw their order, of quiet operations. Blocks under other numbers; calls that are handed memory of one's own. Regions that draw their order and write: every order, pure operations first. Regions that draw their order: what only makes or reads what nobody writes may happen at any time. What came in, read as abstract values; and a law's contract out of a call. One word for many steps of the walk: what a goal asks instead. -/
import Derived.Test.YtkcekccdcpmekaaGreatDoorQE2
import Derived.Orders
import Derived.Carry
import Derived.RowKit
import Derived.OpenShut
import Derived.KernelRfl
set_option linter.unusedSimpArgs false
set_option linter.unusedVariables false
set_option linter.unnecessarySimpa false
set_option maxHeartbeats 64000000
namespace Go.Av
open Go Go.RowKit
class NQ(P:Program):Prop where
 out:P.follows .mixedOrders=true
section congr
variable {P:Program} {hp:Hp} {ev ev':Operand→Option AV} {F:AV→Prop}
theorem GB:∀{l:List Operand},(∀x∈l,ev x=ev' x)→s9 ev l=s9 ev' l
 |[],_=>rfl
 |x::r,h=>by simp only[s9,h x (by simp),GB (l:=r) fun y hy=>h y (by simp[hy])]
theorem Il:∀{l:List (Nat×Operand)},(∀x∈l.map (·.2),ev x=ev' x)→CM ev l=CM ev' l
 |[],_=>rfl
 |(i,x)::r,h=>by simp only[CM,h x (by simp),Il (l:=r) fun y hy=>h y (by simp at hy ⊢;exact .inr hy)]
theorem OO{m:Nat}{o:Option Operand}(h:∀x,o=some x→ev x=ev' x):CF ev m o=CF ev' m o:=by
 cases o with
 |none=>rfl
 |some x=>simp only[CF,h x rfl]
theorem XI{op:Op}(h:∀x∈op.operands.toList,ev x=ev' x)(ho:GA P op ev hp F):GA P op ev' hp F:=by
 unfold GA at ho
 split at ho
 ·rename_i x;rw[h x (by simp[Op.operands])]at ho;exact ho
 ·rename_i x;rw[h x (by simp[Op.operands])]at ho;exact ho
 ·rename_i c a b
  rw[h c (by simp[Op.operands]),h a (by simp[Op.operands]),h b (by simp[Op.operands])]at ho;exact ho
 ·rename_i op T x y T2;rw[h x (by simp[Op.operands]),h y (by simp[Op.operands])]at ho;exact ho
 ·rename_i T x;rw[h x (by simp[Op.operands])]at ho;exact ho
 ·rename_i T x;rw[h x (by simp[Op.operands])]at ho;exact ho
 ·rename_i T x;rw[h x (by simp[Op.operands])]at ho;exact ho
 ·rename_i T x;rw[h x (by simp[Op.operands])]at ho;exact ho
 ·rename_i S x f;rw[h x (by simp[Op.operands])]at ho;exact ho
 ·rename_i T x y;rw[h x (by simp[Op.operands]),h y (by simp[Op.operands])]at ho;exact ho
 ·rename_i T x y;rw[h x (by simp[Op.operands]),h y (by simp[Op.operands])]at ho;exact ho
 ·rename_i x;rw[h x (by simp[Op.operands])]at ho;exact ho
 ·rename_i S T x;rw[h x (by simp[Op.operands])]at ho;exact ho
 ·rename_i x T;rw[h x (by simp[Op.operands,Call.operands])]at ho;exact ho
 ·rename_i x y T U;rw[h x (by simp[Op.operands,Call.operands]),h y (by simp[Op.operands,Call.operands])]at ho;exact ho
 ·rename_i x y T U;rw[h x (by simp[Op.operands,Call.operands]),h y (by simp[Op.operands,Call.operands])]at ho;exact ho
 ·rename_i f args ts
  rw[GB (ev':=ev') (fun x hx=>h x (by simp[Op.operands,Call.operands];exact .inr hx))]at ho;exact ho
 ·rename_i t args ts
  rw[h (.tmp t) (by simp[Op.operands,Call.operands]),GB (ev':=ev') (fun x hx=>h x (by simp[Op.operands,Call.operands];exact .inr hx))]at ho;exact ho
 ·rename_i T parts
  rw[Il (ev':=ev') (fun x hx=>h x (by simpa [Op.operands]using hx))]at ho;exact ho
 ·rename_i T len parts
  rw[Il (ev':=ev') (fun x hx=>h x (by simpa [Op.operands]using hx))]at ho;exact ho
 ·rename_i T x y ok;rw[h x (by simp[Op.operands]),h y (by simp[Op.operands])]at ho;exact ho
 ·rename_i T x lo hi
  have e1:∀m,CF ev m lo=CF ev' m lo:=fun m=>OO fun y hy=>h y (by subst hy;simp[Op.operands])
  have e2:∀m,CF ev m hi=CF ev' m hi:=fun m=>OO fun y hy=>h y (by subst hy;simp[Op.operands])
  unfold ML at ho
  simp only[e1,e2]at ho
  rw[h x (by simp[Op.operands])]at ho
  exact ho
 ·rename_i x k;rw[h x (by simp[Op.operands])]at ho;exact ho
 ·rename_i f xs
  rw[GB (ev':=ev') (fun x hx=>h x (by simpa [Op.operands]using hx))]at ho;exact ho
 ·exact ho.elim
end congr
def Io(f:Nat→Option AV):Operand→Option AV
 |.tmp t=>f t
 |.const c=>some (w8 c)
 |.global g=>some (Up g)
 |.func f=>some (.v (.func (.func f) #[] #[]))
theorem NR(σ:St):H1 σ=Io (look σ.sl):=by funext x;cases x<;>rfl
open Classical in
noncomputable def rs(op:Op)(ev:Operand→Option AV):Operand→Option AV:=fun x=>if x∈op.operands.toList then ev x else none
def DF(f:Nat→Option AV)(d:Nat)(a:AV):Nat→Option AV:=fun s=>if d=s then some a else f s
section quiet
variable {P:Program} {E:Env} {n nx:Nat} {hp:Hp} {ev:Operand→Option AV} {ops:Array Oper} {σ:St} {K:(Nat→Option AV)→Prop} {f f':Nat→Option AV}
theorem Zc{op:Op}{ty:Nat}{av:AV}{ev ev':Operand→Option AV}(h:∀x a,ev x=some a→ev' x=some a)(hq:I2 P E nx hp ev op ty av):I2 P E nx hp ev' op ty av :=
 fun d pos after θ a w K hs hk=>hq d pos after θ a w K ⟨hs.fr,hs.owns,hs.X,fun hx=>hs.rel (h _ _ hx),hs.apart,hs.fresh,hs.tab⟩ hk
theorem XJ{op:Op}{ty:Nat}{F:AV→Prop}(h:GA P op ev hp F):∃av,I2 P E nx hp (rs op ev) op ty av∧F av :=
 cP (XI (fun x hx=>by simp[rs,hx]) h)
def QS(P:Program)(E:Env)(nx:Nat)(hp:Hp)(ops:Array Oper)(o:Oper)(f:Nat→Option AV)(av:AV):Prop :=
 match o.guard with
 |none=>I2 P E nx hp (rs o.op (Io f)) o.op o.type av
 |some (j,g)=>∃dj,(ops[j]?).bind (·.dst)=some dj∧((f dj=some (.v (.bool g))∧I2 P E nx hp (rs o.op (Io f)) o.op o.type av)∨(f dj=some (.v (.bool (!g)))∧av=.v undef)∨∃t,f dj=some (.v (.tuple t))∧av=.v undef)
theorem Zd{op:Op}(h:∀x∈op.operands.toList,Io f x=Io f' x):rs op (Io f)=rs op (Io f'):=by
 funext x
 unfold rs
 split
 ·rename_i hx;exact h x hx
 ·rfl
theorem QS.congr{o:Oper}{av:AV}(h:∀d∈o.looksAt ops,f d=f' d)(hq:QS P E nx hp ops o f av):QS P E nx hp ops o f' av:=by
 have hr:rs o.op (Io f)=rs o.op (Io f'):=Zd fun x hx=>by
  cases x with
  |tmp t=>exact h t (List.mem_append_left _ (List.mem_filterMap.2 ⟨.tmp t,hx,rfl⟩))
  |_=>rfl
 unfold QS at hq ⊢
 split at hq
 ·rw[←hr];exact hq
 ·rename_i j g hg
  obtain⟨dj,hj,hq⟩:=hq
  have hd:f dj=f' dj:=h dj (by simp[Oper.looksAt,hg,hj])
  refine⟨dj,hj,?_⟩
  rw[←hr,←hd]
  exact hq
def QW(P:Program)(E:Env)(n nx:Nat)(hp:Hp)(ops:Array Oper):List Oper→(Nat→Option AV)→((Nat→Option AV)→Prop)→Prop
 |[],f,K=>K f
 |o::r,f,K=>∃d av,o.dst=some d∧d<n∧QS P E nx hp ops o f av∧QW P E n nx hp ops r (DF f d av) K
theorem XK{d e:Nat}{a b:AV}(h:d≠e):DF (DF f d a) e b=DF (DF f e b) d a:=by
 funext s
 unfold DF
 by_cases h1:e=s
 ·subst h1;simp[h]
 ·simp[h1]
theorem QW.swap{x y:Oper}{r:List Oper}(nU:x.apart ops y=true)(h:QW P E n nx hp ops (x::y::r) f K):QW P E n nx hp ops (y::x::r) f K:=by
 obtain⟨dx,ax,vO,ld,xh,dy,ay,vl,ww,wy,hr⟩:=h
 obtain⟨h1,h2,h3⟩:=Oper.apart_spec nU
 have hne:dx≠dy:=fun e=>h2 dx vO (e▸vl)
 have hy:QS P E nx hp ops y f ay:=wy.congr fun s hs=>by
  have:dx≠s:=fun e=>h1 dx vO (e▸hs)
  simp[DF,this]
 have hx:QS P E nx hp ops x (DF f dy ay) ax:=xh.congr fun s hs=>by
  have:dy≠s:=fun e=>h3 dy vl (e▸hs)
  simp[DF,this]
 exact⟨dy,ay,vl,ww,hy,dx,ax,vO,ld,hx,by rw[←XK hne];exact hr⟩
theorem QW.first{o:Oper}:∀{pre post:List Oper} {f:Nat→Option AV},(∀p∈pre,p.apart ops o=true)→QW P E n nx hp ops (pre++o::post) f K→QW P E n nx hp ops (o::(pre++post)) f K
 |[],post,f,_,h=>h
 |p::pre,post,f,nU,h=>by
  obtain⟨d,av,hd,hn,hq,hr⟩:=h
  have:=QW.first (pre:=pre) (fun q hq=>nU q (by simp[hq])) hr
  exact QW.swap (nU p (by simp)) ⟨d,av,hd,hn,hq,this⟩
def cR(ops:Array Oper)(i j:Nat):Bool :=
 match ops[i]?,ops[j]? with
 |some oi,some oj=>oi.after.any (fun e=>Region.binds .any e && Nat.beq e.on j) || oj.apart ops oi
 |_,_=>true
def cS(ops:Array Oper)(i:Nat):Bool :=
 match ops[i]? with
 |some o=>o.after.all fun e=>!Region.binds .any e || Nat.blt e.on i
 |none=>true
def Er(ops:Array Oper):Bool:=(List.range ops.size).all fun i=>cS ops i && (List.range i).all fun j=>cR ops i j
theorem VM(h:Er ops=true){i j:Nat}{oi oj:Oper}(uP:j<i)(hi:ops[i]?=some oi)(hj:ops[j]?=some oj):(∃e∈oi.after,Region.binds .any e=true∧e.on=j)∨oj.apart ops oi=true:=by
 have kj:i<ops.size:=(Array.getElem?_eq_some_iff.1 hi).1
 unfold Er at h
 rw[List.all_eq_true]at h
 have h1:=h i (List.mem_range.2 kj)
 rw[Bool.and_eq_true,List.all_eq_true]at h1
 have h2:=h1.2 j (List.mem_range.2 uP)
 unfold cR at h2
 rw[hi,hj]at h2
 simp only[Bool.or_eq_true]at h2
 rcases h2 with h2|h2
 ·left
  obtain⟨k,hk,h3⟩:=Array.any_eq_true.1 h2
  simp only[Bool.and_eq_true]at h3
  exact⟨oi.after[k],Array.getElem_mem hk,h3.1,Nat.eq_of_beq_eq_true h3.2⟩
 ·exact .inr h2
theorem VN(h:Er ops=true){i:Nat}{oi:Oper}(hi:ops[i]?=some oi):∀e∈oi.after,Region.binds .any e=true→e.on<i:=by
 have kj:i<ops.size:=(Array.getElem?_eq_some_iff.1 hi).1
 unfold Er at h
 rw[List.all_eq_true]at h
 have h1:=h i (List.mem_range.2 kj)
 rw[Bool.and_eq_true]at h1
 have h2:=h1.1
 unfold cS at h2
 rw[hi]at h2
 intro e he hb
 simp only[Array.all_eq_true_iff_forall_mem,Bool.or_eq_true]at h2
 have:=h2 e he
 rw[hb]at this
 simpa [Nat.blt_eq]using this
def left(ops:Array Oper)(listed:Array Bool):List Nat:=(List.range ops.size).filter fun i=>!listed.getD i true
def VO(E:Env)(n nx:Nat)(hp:Hp)(f:Nat→Option AV)(a:Act)(w:World):Prop:=∃σ:St,(∀s,look σ.sl s=f s)∧σ.nx=nx∧σ.hp=hp∧BS E n σ a w
theorem jS{o:Oper}{d:Nat}{av:AV}{a:Act}{w:World}{Q:Exit→Act→World→Prop}{C:Act→World→Prop}{i:Nat}(hi:ops[i]?=some o)(hd:o.dst=some d)(hn:d<n)(hq:QS P E nx hp ops o f av)(hs:VO E n nx hp f a w)
  (hk:∀a' w',VO E n nx hp (DF f d av) a' w'→C a' w'):wpOp P ops Q i C a w:=by
 obtain⟨σ,hl,rfl,rfl,θ,hs⟩:=hs
 have nV:Io f=H1 σ:=by rw[NR];congr 1;funext s;exact(hl s).symm
 have step:∀{v:Value} {w':World},Below w.heap.size w w'→G2 (cx E θ σ w') av v→C (a.put (some d) v) w':=fun hb hr =>
  hk _ _ ⟨σ.put d av,fun s=>by simp only[St.put,I1,DF,hl],rfl,rfl,θ,(hs.below hb).put hn hr⟩
 unfold wpOp
 simp only[hi]
 have qw:∀{t:Nat} {b:Bool},f t=some (.v (.bool b))→a.tmps[t]?=some (.bool b):=by
  intro t b hb
  have h1:=(hs.slots t _ (by rw[hl];exact hb)).val
  rw[Array.getD_eq_getD_getElem?]at h1
  cases hg:a.tmps[t]? with
  |none=>rw[hg]at h1;exact absurd h1 (by simp[undef])
  |some v=>rw[hg]at h1;simp at h1;rw[h1]
 have run:I2 P E σ.nx σ.hp (rs o.op (Io f)) o.op o.type av→o.wp P a w C Q:=by
  intro hq
  have uv:I2 P E σ.nx σ.hp (H1 σ) o.op o.type av:=Zc (fun x b hx=>by
   unfold rs at hx
   split at hx
   ·rw[←nV];exact hx
   ·cases hx) hq
  have hv:=uv o.dst o.pos o.after θ a w (fun v w'=>Below w.heap.size w w'∧G2 (cx E θ σ w') av v) hs.evT fun v w' hb hr=>⟨hb,hr⟩
  have uO:IH P o a w (fun v w'=>Below w.heap.size w w'∧G2 (cx E θ σ w') av v):=by
   have e:IH P o a w=IH P ⟨o.dst,o.op,o.type,o.pos,o.after,none⟩ a w:=by
    funext K
    unfold IH
    have:execOp a.eval o=execOp a.eval ⟨o.dst,o.op,o.type,o.pos,o.after,none⟩:=by
     obtain⟨_,op,_,_,_,_⟩:=o
     cases op<;>rfl
    rw[this]
   rw[e]
   exact hv
  exact Pr uO fun v w' hv=>by rw[hd];exact step hv.1 hv.2
 unfold QS at hq
 split at hq
 ·rename_i hg
  rw[if_pos (by simp[Region.wanted,hg])]
  exact .inl (run hq)
 ·rename_i j g hg
  obtain⟨dj,hj,hq⟩:=hq
  rcases hq with ⟨hb,hq⟩|⟨hb,rfl⟩|⟨t,hb,rfl⟩
  ·have:yielded ops a.tmps j=some g:=by simp[yielded,hj,qw hb]
   rw[if_pos (by simp[Region.wanted,hg,this])]
   exact .inl (run hq)
  ·have:yielded ops a.tmps j=some (!g):=by simp[yielded,hj,qw hb]
   rw[if_neg (by simp[Region.wanted,hg,this])]
   rw[hd]
   exact step (Below.refl _ _) (.im (.v _))
  ·have:yielded ops a.tmps j=none:=by
    have h1:=(hs.slots dj _ (by rw[hl];exact hb)).val
    rw[Array.getD_eq_getD_getElem?]at h1
    unfold yielded
    rw[hj]
    simp only[Option.bind_some]
    cases hg:a.tmps[dj]? with
    |none=>rfl
    |some v=>rw[hg]at h1;simp at h1;rw[h1]
   rw[if_neg (by simp[Region.wanted,hg,this])]
   rw[hd]
   exact step (Below.refl _ _) (.im (.v _))
theorem Dc(p:Nat→Bool)(m:Nat){pre post:List Nat}{i:Nat}(h:(List.range m).filter p=pre++i::post):(∀j∈pre,j<i)∧i∉pre∧i∉post:=by
 have hs:((List.range m).filter p).Pairwise (·<·):=List.Pairwise.filter _ (List.pairwise_lt_range)
 rw[h,List.pairwise_append]at hs
 obtain⟨_,h2,h3⟩:=hs
 rw[List.pairwise_cons]at h2
 have h4:∀j∈pre,j<i:=fun j hj=>h3 j hj i (by simp)
 exact⟨h4,fun hc=>Nat.lt_irrefl _ (h4 i hc),fun hc=>Nat.lt_irrefl _ (h2.1 i hc)⟩
theorem QV{listed:Array Bool}{i:Nat}{pre post:List Nat}(h:left ops listed=pre++i::post):left ops (listed.setIfInBounds i true)=pre++post:=by
 obtain⟨_,h2,h3⟩:=Dc _ _ h
 have e:left ops (listed.setIfInBounds i true)=(left ops listed).filter (fun j=>decide (j≠i)):=by
  unfold left
  rw[List.filter_filter]
  congr 1
  funext j
  by_cases hj:j=i
  ·subst hj
   by_cases kj:j<listed.size
   ·simp[Array.getD,kj]
   ·simp[Array.getD,kj]
  ·have:(listed.setIfInBounds i true).getD j true=listed.getD j true:=by
    rw[Array.getD_eq_getD_getElem?,Array.getD_eq_getD_getElem?,Array.getElem?_setIfInBounds_ne (Ne.symm hj)]
   rw[this]
   simp[hj]
 rw[e,h,List.filter_append,List.filter_cons_of_neg (by simp)]
 congr 1
 ·exact List.filter_eq_self.2 fun j hj=>by simp;exact fun e=>h2 (e▸hj)
 ·exact List.filter_eq_self.2 fun j hj=>by simp;exact fun e=>h3 (e▸hj)
def opsOf(ops:Array Oper)(l:List Nat):List Oper:=l.filterMap fun i=>ops[i]?
theorem MO{listed:Array Bool}{j:Nat}(hj:j∈Region.ready .any ops listed):j∈left ops listed:=by
 obtain⟨h1,o,ho,_⟩:=mem_ready.1 hj
 exact List.mem_filter.2 ⟨List.mem_range.2 (Array.getElem?_eq_some_iff.1 ho).1,by rw[h1];rfl⟩
theorem Ip(l m:List Nat):opsOf ops (l++m)=opsOf ops l++opsOf ops m:=List.filterMap_append ..
theorem VP{i:Nat}{o:Oper}(h:ops[i]?=some o)(m:List Nat):opsOf ops (i::m)=o::opsOf ops m:=by simp[opsOf,h]
theorem Ze(qi:Er ops=true){listed:Array Bool}(hsz:listed.size=ops.size){i:Nat}{r:List Nat}(h:left ops listed=i::r):i∈Region.ready .any ops listed:=by
 have hi:i∈left ops listed:=by rw[h];simp
 obtain⟨h1,h2⟩:=List.mem_filter.1 hi
 have kj:=List.mem_range.1 h1
 refine mem_ready.2 ⟨by simpa using h2,ops[i],Array.getElem?_eq_getElem kj,fun e he hb=>?_⟩
 have oE:=VN qi (Array.getElem?_eq_getElem kj) e he hb
 cases hx:listed.getD e.on false with
 |true=>rfl
 |false =>
  exfalso
  have mf:e.on<listed.size:=by omega
  have oH:listed.getD e.on true=false:=by
   simp[Array.getD,mf]at hx ⊢;exact hx
  have hm:e.on∈left ops listed:=List.mem_filter.2 ⟨List.mem_range.2 (by omega),by rw[oH];rfl⟩
  have hs:(left ops listed).Pairwise (·<·):=List.Pairwise.filter _ (List.pairwise_lt_range)
  rw[h]at hm hs
  rcases List.mem_cons.1 hm with h3|h3
  ·omega
  ·have:=(List.pairwise_cons.1 hs).1 _ h3
   omega
theorem gF(qi:Er ops=true){Q:Exit→Act→World→Prop}(hK:∀f' a' w',K f'→VO E n nx hp f' a' w'→Q .normal a' w'):∀(kn:Nat) (listed:Array Bool) (f:Nat→Option AV) (a:Act) (w:World),listed.size=ops.size →
  (left ops listed).length≤kn→QW P E n nx hp ops (opsOf ops (left ops listed)) f K→VO E n nx hp f a w→wpAny P .any ops Q kn listed a w:=by
 intro kn
 induction kn with
 |zero =>
  intro listed f a w hsz kf hq hs
  have Gc:left ops listed=[]:=List.eq_nil_of_length_eq_zero (by omega)
  rw[Gc]at hq
  refine⟨?_,hK f a w hq hs⟩
  cases hr:Region.ready .any ops listed with
  |nil=>rfl
  |cons j r=>have:=MO (ops:=ops) (listed:=listed) (j:=j) (by rw[hr];simp);rw[Gc]at this;cases this
 |succ kn ih =>
  intro listed f a w hsz kf hq hs
  refine⟨fun hr=>?_,fun i hi=>?_⟩
  ·cases hl:left ops listed with
   |nil=>rw[hl]at hq;exact hK f a w hq hs
   |cons i r=>have:=Ze qi hsz hl;rw[hr]at this;cases this
  ·obtain⟨pre,post,mq⟩:=List.append_of_mem (MO hi)
   obtain⟨hun,oi,vp,vh⟩:=mem_ready.1 hi
   have vD:=(Dc _ _ mq).1
   rw[mq,Ip,VP vp]at hq
   have uv:=QW.first (fun p hp=>by
    obtain⟨j,hj,ug⟩:=List.mem_filterMap.1 hp
    rcases VM qi (vD j hj) vp ug with ⟨e,he,hb,rfl⟩|h
    ·exfalso
     have h1:=vh e he hb
     have h2:e.on∈left ops listed:=by rw[mq];simp[hj]
     have h3:=(List.mem_filter.1 h2).2
     have h4:listed.getD e.on true=false:=by simpa using h3
     by_cases kj:e.on<listed.size
     ·simp[Array.getD,kj]at h1 h4;rw[h1]at h4;cases h4
     ·simp[Array.getD,kj]at h1
    ·exact h) hq
   obtain⟨d,av,hd,hn,nB,hr⟩:=uv
   refine jS vp hd hn nB hs fun a' w' mE=>ih _ _ a' w' (by simpa using hsz) ?_ ?_ mE
   ·rw[QV mq]
    rw[mq]at kf
    simp at kf ⊢
    omega
   ·rw[QV mq,Ip]
    exact hr
def DQ(P:Program)(E:Env)(n:Nat)(ops:Array Oper)(l:List Oper)(σ:St)(K:St→Prop):Prop :=
 QW P E n σ.nx σ.hp ops l (look σ.sl) fun f=>∃τ:St,(∀s,look τ.sl s=f s)∧τ.nx=σ.nx∧τ.hp=σ.hp∧K τ
theorem Zf(σ:St)(d:Nat)(a:AV):look (σ.put d a).sl=DF (look σ.sl) d a:=by
 funext s;simp only[St.put,I1,DF]
theorem MP{l:List Oper}{d:Nat}{av:AV}{K:St→Prop}:DQ P E n ops l (σ.put d av) K→QW P E n σ.nx σ.hp ops l (DF (look σ.sl) d av) fun f=>∃τ:St,(∀s,look τ.sl s=f s)∧τ.nx=σ.nx∧τ.hp=σ.hp∧K τ:=by
 intro h
 unfold DQ at h
 rw[Zf]at h
 exact h
theorem QX{d:Nat}{a:AV}(h:look σ.sl d=some a):look (σ.put d a).sl=look σ.sl:=by
 funext s
 simp only[St.put,I1]
 by_cases e:d=s
 ·subst e;rw[if_pos rfl,h]
 ·rw[if_neg e]
def Zg(P:Program)(E:Env)(n:Nat)(ops:Array Oper)(l:List Oper)(σ:St)(K:St→Prop):Prop :=
 match l with
 |[]=>K σ
 |⟨some d,op,_,_,_,none⟩::rest=>cond (Nat.blt d n) (GA P op (H1 σ) σ.hp fun av=>DQ P E n ops rest (σ.put d av) K) False
 |⟨some d,op,_,_,_,some (j,g)⟩::rest=>match (ops[j]?).bind (·.dst)with
  |some dj=>cond (Nat.blt d n) (match look σ.sl dj with
   |some (.v (.bool b))=>S3 b g (GA P op (H1 (σ.put dj (.v (.bool g)))) σ.hp fun av=>DQ P E n ops rest ((σ.put dj (.v (.bool g))).put d av) K)
     (DQ P E n ops rest ((σ.put dj (.v (.bool !g))).put d (.v undef)) K)
   |some (.v (.tuple t))=>DQ P E n ops rest (σ.put d (.v undef)) K
   |_=>False) False
  |none=>False
 |_=>False
theorem jT{l:List Oper}{K:St→Prop}(h:Zg P E n ops l σ K):DQ P E n ops l σ K:=by
 unfold Zg at h
 split at h
 ·exact⟨σ,fun _=>rfl,rfl,rfl,h⟩
 ·rename_i d op ty pos after rest
  obtain⟨hd,h⟩:=cond_false h
  obtain⟨av,hq,h⟩:=XJ (E:=E) (nx:=σ.nx) (ty:=ty) h
  exact⟨d,av,rfl,Nat.blt_eq▸hd,by unfold QS;rw[←NR];exact hq,MP h⟩
 ·rename_i d op ty pos after j g rest
  split at h
  ·rename_i dj hj
   obtain⟨hd,h⟩:=cond_false h
   split at h
   ·rename_i b hb
    cases pj:(b == g)with
    |true =>
     have pj:b=g:=by simpa using pj
     subst pj
     have h1:=h.t rfl
     obtain⟨av,hq,h2⟩:=XJ (E:=E) (nx:=σ.nx) (ty:=ty) h1
     have e:look (σ.put dj (.v (.bool b))).sl=look σ.sl:=QX hb
     rw[NR,e]at hq
     refine⟨d,av,rfl,Nat.blt_eq▸hd,⟨dj,hj,.inl ⟨hb,hq⟩⟩,?_⟩
     have h3:=MP h2
     rw[e]at h3
     exact h3
    |false =>
     have pj:b=!g:=by cases b<;>cases g<;>simp_all
     have h1:=h.f pj
     have e:look (σ.put dj (.v (.bool !g))).sl=look σ.sl:=QX (pj▸hb)
     refine⟨d,_,rfl,Nat.blt_eq▸hd,⟨dj,hj,.inr (.inl ⟨pj▸hb,rfl⟩)⟩,?_⟩
     have h3:=MP h1
     rw[e]at h3
     exact h3
   ·rename_i t hb
    exact⟨d,_,rfl,Nat.blt_eq▸hd,⟨dj,hj,.inr (.inr ⟨t,hb,rfl⟩)⟩,MP h⟩
   ·exact h.elim
  ·exact h.elim
 ·exact h.elim
theorem I6{id:Nat}{Q:Exit→St→Prop}[hm:NQ P](qi:Er ops=true)(h:DQ P E n ops ops.toList σ fun σ'=>Q .normal σ'):EL P E n id ops σ Q:=by
 refine⟨fun a w ⟨θ,hs⟩=>wp_region_any hm.out ?_⟩
 have hb:Below w.heap.size w { w with drawn:=w.drawn+1 }:=Below.drew (Below.refl _ _)
 refine gF qi (K:=fun f=>∃τ:St,(∀s,look τ.sl s=f s)∧τ.nx=σ.nx∧τ.hp=σ.hp∧Q .normal τ) (fun f' a' w' hk mE=>?_) ops.size _ (look σ.sl) a _ (by simp) ?_ ?_ ⟨σ,fun _=>rfl,rfl,rfl,θ,hs.below hb⟩
 ·obtain⟨τ,h1,h2,h3,h4⟩:=hk
  obtain⟨σ2,g1,g2,g3,θ2,oB⟩:=mE
  refine⟨τ,h4,θ2,?_⟩
  have e1:σ2.nx=τ.nx:=by rw[g2,h2]
  have e2:σ2.hp=τ.hp:=by rw[g3,h3]
  have e3:∀s,look τ.sl s=look σ2.sl s:=fun s=>by rw[h1,g1]
  have ec:cx E θ2 σ2 w'=cx E θ2 τ w':=by unfold cx;rw[e1,e2]
  exact⟨oB.size,oB.defers,oB.fr,fun s x hx=>by rw[←ec];exact oB.slots s x (by rw[←e3];exact hx),fun i b hi=>by rw[←ec,←e1];exact oB.owns i b (by rw[e2];exact hi),fun i j b b' k hi hj=>oB.apart i j b b' k (by rw[e2];exact hi) (by rw[e2];exact hj),fun i b k hi=>oB.mine i b k (by rw[e2];exact hi),oB.X,by rw[←e1,←e2];exact oB.base⟩
 ·unfold left
  exact Nat.le_trans (List.length_filter_le _ _) (by simp)
 ·have e:left ops (Array.replicate ops.size false)=List.range ops.size:=by
   unfold left
   refine List.filter_eq_self.2 fun i hi=>?_
   have:=List.mem_range.1 hi
   simp[Array.getD,this]
  rw[e]
  have e2:opsOf ops (List.range ops.size)=ops.toList:=by
   unfold opsOf
   apply List.ext_getElem?
   intro i
   have:∀(m:Nat),m≤ops.size→(List.range m).filterMap (fun i=>ops[i]?)=ops.toList.take m:=by
    intro m
    induction m with
    |zero=>intro _;simp
    |succ m ih =>
     intro hm
     rw[List.range_succ,List.filterMap_append,ih (by omega),List.take_add_one]
     congr 1
     have kj:m<ops.size:=by omega
     simp[kj]
   rw[this ops.size (Nat.le_refl _)]
   congr 1
   exact List.take_of_length_le (by simp)
  rw[e2]
  exact h
end quiet
def MQ{α:Type}:List α→(List α→Prop)→Prop
 |[],F=>F []
 |a::r,F=>MQ r fun s=>F (a::s)
theorem MR{α:Type}:∀{l:List α} {F:List α→Prop},MQ l F→F l
 |[],F,h=>h
 |a::r,F,h=>MR (l:=r) (F:=fun s=>F (a::s)) h
mutual
def V9:AV→(AV→Prop)→Prop
 |.agg l,F=>CN l fun l2=>F (.agg l2)
 |.tup l,F=>CN l fun l2=>F (.tup l2)
 |.fo f l,F=>CN l fun l2=>F (.fo f l2)
 |.ref i o,F=>J5 i fun i2=>J5 o fun o2=>F (.ref i2 o2)
 |.row i v m,F=>J5 i fun i2=>J5 v fun v2=>F (.row i2 v2 m)
 |.elt i v k o,F=>J5 i fun i2=>J5 v fun v2=>F (.elt i2 v2 k o)
 |.sub i v k o,F=>J5 i fun i2=>J5 v fun v2=>F (.sub i2 v2 k o)
 |.mp i,F=>J5 i fun i2=>F (.mp i2)
 |.any,F=>F .any
 |.v x,F=>F (.v x)
 |.str l,F=>F (.str l)
 |.iptr l,F=>F (.iptr l)
 |.sl sz l,F=>F (.sl sz l)
 |.fn f l,F=>F (.fn f l)
 |.err,F=>F .err
 |.own e sz l,F=>F (.own e sz l)
def CN:List AV→(List AV→Prop)→Prop
 |[],F=>F []
 |x::r,F=>V9 x fun x2=>CN r fun r2=>F (x2::r2)
end
mutual
theorem DG:∀{a:AV} {F:AV→Prop},V9 a F→F a
 |.agg l,F,h=>CO (l:=l) (F:=fun l2=>F (.agg l2)) (by simpa only[V9]using h)
 |.tup l,F,h=>CO (l:=l) (F:=fun l2=>F (.tup l2)) (by simpa only[V9]using h)
 |.fo f l,F,h=>CO (l:=l) (F:=fun l2=>F (.fo f l2)) (by simpa only[V9]using h)
 |.ref i o,F,h=>by simp only[V9]at h;exact F8 (F8 h)
 |.row i v m,F,h=>by simp only[V9]at h;exact F8 (F8 h)
 |.elt i v k o,F,h=>by simp only[V9]at h;exact F8 (F8 h)
 |.sub i v k o,F,h=>by simp only[V9]at h;exact F8 (F8 h)
 |.mp i,F,h=>by simp only[V9]at h;exact F8 h
 |.any,F,h=>by simpa only[V9]using h
 |.v x,F,h=>by simpa only[V9]using h
 |.str l,F,h=>by simpa only[V9]using h
 |.iptr l,F,h=>by simpa only[V9]using h
 |.sl sz l,F,h=>by simpa only[V9]using h
 |.fn f l,F,h=>by simpa only[V9]using h
 |.err,F,h=>by simpa only[V9]using h
 |.own e sz l,F,h=>by simpa only[V9]using h
theorem CO:∀{l:List AV} {F:List AV→Prop},CN l F→F l
 |[],F,h=>by simpa only[CN]using h
 |x::r,F,h=>by
  simp only[CN]at h
  exact CO (l:=r) (F:=fun r2=>F (x::r2)) (DG (a:=x) (F:=fun x2=>CN r fun r2=>F (x2::r2)) h)
end
def Bv:List (Nat×AV)→(List (Nat×AV)→Prop)→Prop
 |[],F=>F []
 |(k,x)::r,F=>V9 x fun x2=>Bv r fun s=>F ((k,x2)::s)
theorem Y6:∀{l:List (Nat×AV)} {F:List (Nat×AV)→Prop},Bv l F→F l
 |[],F,h=>h
 |(k,x)::r,F,h=>Y6 (l:=r) (F:=fun s=>F ((k,x)::s)) (DG (a:=x) (F:=fun x2=>Bv r fun s=>F ((k,x2)::s)) h)
def Jr:List Bool→(List Bool→Prop)→Prop
 |[],F=>F []
 |true::r,F=>Jr r fun s=>F (true::s)
 |false::r,F=>Jr r fun s=>F (false::s)
theorem Es:∀{l:List Bool} {F:List Bool→Prop},Jr l F→F l
 |[],F,h=>h
 |true::r,F,h=>Es (l:=r) (F:=fun s=>F (true::s)) h
 |false::r,F,h=>Es (l:=r) (F:=fun s=>F (false::s)) h
def Y7:Hp→(Hp→Prop)→Prop
 |[],F=>F []
 |(k,some (.bx τ l))::r,F=>J5 k fun k=>CN l fun l2=>Y7 r fun s=>F ((k,some (.bx τ l2))::s)
 |(k,some (.row e sz v l))::r,F=>J5 k fun k=>J5 v fun v2=>Y7 r fun s=>F ((k,some (.row e sz v2 l))::s)
 |(k,some (.map m))::r,F=>J5 k fun k=>Y7 r fun s=>F ((k,some (.map m))::s)
 |(k,some (.it t p))::r,F=>J5 k fun k=>Y7 r fun s=>F ((k,some (.it t p))::s)
 |(k,none)::r,F=>J5 k fun k=>Y7 r fun s=>F ((k,none)::s)
theorem Y8:∀{l:Hp} {F:Hp→Prop},Y7 l F→F l
 |[],F,h=>h
 |(k,some (.bx τ l))::r,F,h=>Y8 (l:=r) (F:=fun s=>F ((k,some (.bx τ l))::s)) (CO (l:=l) (F:=fun l2=>Y7 r fun s=>F ((k,some (.bx τ l2))::s)) (F8 (F:=fun k=>CN l fun l2=>Y7 r fun s=>F ((k,some (.bx τ l2))::s)) h))
 |(k,some (.row e sz v l))::r,F,h=>Y8 (l:=r) (F:=fun s=>F ((k,some (.row e sz v l))::s)) (F8 (F:=fun v2=>Y7 r fun s=>F ((k,some (.row e sz v2 l))::s)) (F8 (F:=fun k=>J5 v fun v2=>Y7 r fun s=>F ((k,some (.row e sz v2 l))::s)) h))
 |(k,some (.map m))::r,F,h=>Y8 (l:=r) (F:=fun s=>F ((k,some (.map m))::s)) (F8 (F:=fun k=>Y7 r fun s=>F ((k,some (.map m))::s)) h)
 |(k,some (.it t p))::r,F,h=>Y8 (l:=r) (F:=fun s=>F ((k,some (.it t p))::s)) (F8 (F:=fun k=>Y7 r fun s=>F ((k,some (.it t p))::s)) h)
 |(k,none)::r,F,h=>Y8 (l:=r) (F:=fun s=>F ((k,none)::s)) (F8 (F:=fun k=>Y7 r fun s=>F ((k,none)::s)) h)
mutual
def Q1(ρ s:Nat→Nat):AV→AV
 |.ref i off=>.ref (ρ i) off
 |.row i v len=>.row (ρ i) (v+s i) len
 |.elt i v k off=>.elt (ρ i) (v+s i) k off
 |.sub i v k off=>.sub (ρ i) (v+s i) k off
 |.mp i=>.mp (ρ i)
 |.agg l=>.agg (Cf ρ s l)
 |.tup l=>.tup (Cf ρ s l)
 |.fo f l=>.fo f (Cf ρ s l)
 |x=>x
def Cf(ρ s:Nat→Nat):List AV→List AV
 |[]=>[]
 |x::r=>Q1 ρ s x::Cf ρ s r
end
theorem U5(ρ s:Nat→Nat):∀l,Cf ρ s l=l.map (Q1 ρ s)
 |[]=>by simp[Cf]
 |x::r=>by simp[Cf,U5 ρ s r]
def x4(ρ s:Nat→Nat)(i:Nat):G1→G1
 |.bx τ l=>.bx τ (Cf ρ s l)
 |.row e sz v l=>.row e sz (v+s i) l
 |.map m=>.map m
 |.it t p=>.it t p
structure Ren(c c':Cx)(ρ s:Nat→Nat):Prop where
 nx:∀i,i<c.nx→ρ i<c'.nx
 θ:∀i,i<c.nx→c'.θ (ρ i)=c.θ i
 N:∀i,i<c.nx→c'.θ.N (ρ i)=c.θ.N i
 w:c'.w=c.w
 U:∀k,c'.U k→c.U k
 rows:∀i,i<c.nx→∀e sz v' l,A7 c'.hp (ρ i)=some (.row e sz v' l)→∃v,A7 c.hp i=some (.row e sz v l)∧v'=v+s i
theorem Ren.im{c c':Cx}{ρ s:Nat→Nat}(h:Ren c c' ρ s){a:AV}{x:Value}(hi:Im c.U c.w a x):Im c'.U c'.w a x:=hi.mono (fun k _ _=>by rw[h.w]) fun k _ hu=>h.U k hu
theorem gG{c c':Cx}{ρ s:Nat→Nat}(h:Ren c c' ρ s){a:AV}{x:Value}(hi:Im c.U c.w a x):Q1 ρ s a=a∨G2 c' (Q1 ρ s a) x:=by
 induction hi with
 |v x=>exact .inl rfl
 |str l=>exact .inl rfl
 |fn f l cs hl hc ih=>exact .inl rfl
 |iptr l a f hu hc hh ih=>exact .inl rfl
 |err t p=>exact .inl rfl
 |any x=>exact .inl rfl
 |own e sz l x=>exact .inl rfl
 |slnil sz=>exact .inl rfl
 |sl sz l a cap f lT hm hu hsz hc hh ih=>exact .inl rfl
 |agg l cs hl hc ih =>
  refine .inr ?_
  simp only[Q1,U5]
  refine .agg _ cs (by simp[hl]) fun j u z hu hz=>?_
  simp only[List.getElem?_map,Option.map_eq_some_iff]at hu
  obtain⟨u0,mW,rfl⟩:=hu
  rcases ih j u0 z mW hz with e|e
  ·rw[e];exact .im (h.im (hc j u0 z mW hz))
  ·exact e
 |tup l cs hl hc ih =>
  refine .inr ?_
  simp only[Q1,U5]
  refine .tup _ cs (by simp[hl]) fun j u z hu hz=>?_
  simp only[List.getElem?_map,Option.map_eq_some_iff]at hu
  obtain⟨u0,mW,rfl⟩:=hu
  rcases ih j u0 z mW hz with e|e
  ·rw[e];exact .im (h.im (hc j u0 z mW hz))
  ·exact e
theorem NS{c c':Cx}{ρ s:Nat→Nat}(h:Ren c c' ρ s){a:AV}{x:Value}(r:G2 c a x):G2 c' (Q1 ρ s a) x:=by
 induction r with
 |any x=>exact .any x
 |im hi =>
  rcases gG h hi with e|e
  ·rw[e];exact .im (h.im hi)
  ·exact e
 |agg l cs hl _ ih =>
  simp only[Q1,U5]
  refine .agg _ cs (by simp[hl]) fun j u z hu hz=>?_
  simp only[List.getElem?_map,Option.map_eq_some_iff]at hu
  obtain⟨u0,mW,rfl⟩:=hu
  exact ih j u0 z mW hz
 |tup l cs hl _ ih =>
  simp only[Q1,U5]
  refine .tup _ cs (by simp[hl]) fun j u z hu hz=>?_
  simp only[List.getElem?_map,Option.map_eq_some_iff]at hu
  obtain⟨u0,mW,rfl⟩:=hu
  exact ih j u0 z mW hz
 |fo f l cs hl _ ih =>
  simp only[Q1,U5]
  refine .fo f _ cs (by simp[hl]) fun j u z hu hz=>?_
  simp only[List.getElem?_map,Option.map_eq_some_iff]at hu
  obtain⟨u0,mW,rfl⟩:=hu
  exact ih j u0 z mW hz
 |ref i off b hi hθ=>exact .ref _ off b (h.nx i hi) (by rw[h.θ i hi];exact hθ)
 |row i ver len x hi hr =>
  refine .row _ _ len x (h.nx i hi) fun e sz v' l hl=>?_
  obtain⟨v,hv,rfl⟩:=h.rows i hi e sz v' l hl
  obtain⟨h1,h2⟩:=hr e sz v l hv
  exact⟨by omega,fun e=>by rw[h.θ i hi];exact h2 (by omega)⟩
 |mp i r hi hθ=>exact .mp _ r (h.nx i hi) (by rw[h.θ i hi];exact hθ)
 |sub i ver lo len x hi hr =>
  refine .sub _ _ lo len x (h.nx i hi) fun e sz v' l hl=>?_
  obtain⟨v,hv,rfl⟩:=h.rows i hi e sz v' l hl
  obtain⟨h1,h2⟩:=hr e sz v l hv
  exact⟨by omega,fun e=>by rw[h.θ i hi];exact h2 (by omega)⟩
 |elt i ver k off x hi hr =>
  refine .elt _ _ k off x (h.nx i hi) fun e sz v' l hl=>?_
  obtain⟨v,hv,rfl⟩:=h.rows i hi e sz v' l hl
  obtain⟨h1,h2⟩:=hr e sz v l hv
  exact⟨by omega,fun e=>by rw[h.θ i hi];exact h2 (by omega)⟩
theorem Tq{c c':Cx}{ρ s:Nat→Nat}(h:Ren c c' ρ s){i:Nat}{b:G1}(hi:i<c.nx)(o:U1 c i b)(rN:∀e sz v l,b=.row e sz v l→Kx e=false):U1 c' (ρ i) (x4 ρ s i b):=by
 cases b with
 |bx τ l =>
  obtain⟨b',lL,T,e1,e2,e3,e4⟩:=o
  refine⟨b',lL,T,by rw[h.θ i hi];exact e1,by rw[h.w];exact e2,by rw[U5,List.length_map];exact e3,fun j u z hu hz=>?_⟩
  rw[U5]at hu
  simp only[List.getElem?_map,Option.map_eq_some_iff]at hu
  obtain⟨u0,mW,rfl⟩:=hu
  exact NS h (e4 j u0 z mW hz)
 |row e sz v l =>
  obtain⟨xs,e1,e2,e3,e4⟩:=o
  refine⟨xs,by rw[h.θ i hi,h.w];exact e1,e2,fun k el hk j x hx=>?_,fun hne=>⟨fun k p hk=>by rw[h.w];exact(e4 hne).1 k p (by rw[←h.N i hi];exact hk),fun k el hk j e' kw l' hj=>?_⟩⟩
  ·obtain⟨y,hy,hi⟩:=e3 k el hk j x hx
   exact⟨y,hy,h.im hi⟩
  ·rcases(e4 hne).2 k el hk j e' kw l' hj with ⟨q0,_⟩|⟨g,m,cap,y,ys,q1,q2,q3,q4,q5,q6,q7⟩
   ·rw[rN _ _ _ _ rfl]at q0;cases q0
   exact .inr ⟨g,m,cap,y,ys,by rw[h.θ i hi];exact q1,by rw[h.w];exact q2,by rw[h.w];exact q3,q4,q5,fun q mA hq j' x hx=>by
    obtain⟨z,hz,hi⟩:=q6 q mA hq j' x hx
    exact⟨z,hz,h.im hi⟩,fun b hb=>by rw[h.N i hi];exact q7 b hb⟩
 |map m =>
  obtain⟨r,es,clock,e1,e2,e3,e4⟩:=o
  exact⟨r,es,clock,by rw[h.θ i hi];exact e1,by rw[h.w];exact e2,e3,fun j q e hj he=>⟨(e4 j q e hj he).1,h.im (e4 j q e hj he).2⟩⟩
 |it t p =>
  obtain⟨r,e1,e2⟩:=o
  exact⟨r,by rw[h.θ i hi];exact e1,by rw[h.w];exact e2⟩
theorem OP{c c':Cx}{ρ s:Nat→Nat}(hθ:∀i,i<c.nx→c'.θ (ρ i)=c.θ i)(hw:c'.w=c.w)(hU:∀k,c.U k→c'.U k)
  (oL:∀i,i<c.nx→∀e sz v l,A7 c.hp i=some (.row e sz v l)→A7 c'.hp (ρ i)=some (.row e sz (v+s i) l)):∀{a:AV} {x:Value},j5 c.nx a=true→G2 c' (Q1 ρ s a) x→G2 c a x:=by
 have qB:∀{a:AV} {x:Value},Im c'.U c'.w a x→Im c.U c.w a x:=fun hi=>hi.mono (fun k _ _=>by rw[hw]) fun k _ hu=>hU k hu
 intro a
 refine AV.rec (motive_1:=fun a=>∀{x:Value},j5 c.nx a=true→G2 c' (Q1 ρ s a) x→G2 c a x)
  (motive_2:=fun l=>b9 c.nx l=true→∀(j:Nat) u x,l[j]?=some u→G2 c' (Q1 ρ s u) x→G2 c u x)
  (motive_3:=fun _=>True) ?_ ?_ ?_ ?_ ?_ ?_ ?_ ?_ ?_ ?_ ?_ ?_ ?_ ?_ ?_ ?_ ?_ ?_ ?_ ?_ a
 ·intro x _ _;exact .any x
 ·intro v x _ r;cases r with|im hi=>exact .im (qB hi)
 ·intro l x _ r;cases r with|im hi=>exact .im (qB hi)
 ·intro l ih x kj r
  simp only[j5]at kj
  simp only[Q1,U5]at r
  obtain⟨cs,rfl,hl,hr⟩:=FG r
  refine .agg l cs (by simpa using hl) fun j u z hu hz=>ih kj j u z hu ?_
  exact hr j _ z (by simp[hu]) hz
 ·intro l ih x kj r
  simp only[j5]at kj
  simp only[Q1,U5]at r
  have:∃cs:List Value,x=.tuple cs.toArray∧(l.map (Q1 ρ s)).length=cs.length∧∀(j:Nat) u z,(l.map (Q1 ρ s))[j]?=some u→cs[j]?=some z→G2 c' u z:=by
   generalize l.map (Q1 ρ s)=l' at r
   cases r with
   |im hi=>cases hi with|tup l cs hl hc=>exact⟨cs,rfl,hl,fun j u z hu hz=>.im (hc j u z hu hz)⟩
   |tup l cs hl hc=>exact⟨cs,rfl,hl,hc⟩
  obtain⟨cs,rfl,hl,hr⟩:=this
  refine .tup l cs (by simpa using hl) fun j u z hu hz=>ih kj j u z hu ?_
  exact hr j _ z (by simp[hu]) hz
 ·intro i off x kj r
  simp only[j5,Nat.blt_eq]at kj
  simp only[Q1]at r
  obtain⟨b,h1,rfl,_⟩:=X4 r
  exact .ref i off b kj (by rw[←hθ i kj];exact h1)
 ·intro l _ x _ r;cases r with|im hi=>exact .im (qB hi)
 ·intro sz l _ x _ r;cases r with|im hi=>exact .im (qB hi)
 ·intro i ver len x kj r
  simp only[j5,Nat.blt_eq]at kj
  simp only[Q1]at r
  refine .row i ver len x kj fun e sz v l hl=>?_
  cases r with
  |im hi=>cases hi
  |row _ _ _ _ hi h =>
   obtain⟨h1,h2⟩:=h e sz _ l (oL i kj e sz v l hl)
   exact⟨by omega,fun e=>by rw[←hθ i kj];exact h2 (by omega)⟩
 ·intro i x kj r
  simp only[j5,Nat.blt_eq]at kj
  simp only[Q1]at r
  cases r with
  |im hi=>cases hi
  |mp _ r hi h=>exact .mp i r kj (by rw[←hθ i kj];exact h)
 ·intro i ver k off x kj r
  simp only[j5,Nat.blt_eq]at kj
  simp only[Q1]at r
  refine .elt i ver k off x kj fun e sz v l hl=>?_
  cases r with
  |im hi=>cases hi
  |elt _ _ _ _ _ hi h =>
   obtain⟨h1,h2⟩:=h e sz _ l (oL i kj e sz v l hl)
   exact⟨by omega,fun e=>by rw[←hθ i kj];exact h2 (by omega)⟩
 ·intro f l _ x _ r;cases r with|im hi=>exact .im (qB hi)
 ·intro x _ r;cases r with|im hi=>exact .im (qB hi)
 ·intro f l ih x kj r
  simp only[j5]at kj
  simp only[Q1,U5]at r
  have:∃cs:List Value,x=Pl f cs.toArray∧(l.map (Q1 ρ s)).length=cs.length∧∀(j:Nat) u z,(l.map (Q1 ρ s))[j]?=some u→cs[j]?=some z→G2 c' u z:=by
   generalize l.map (Q1 ρ s)=l' at r
   cases r with
   |im hi=>cases hi
   |fo f l cs hl hc=>exact⟨cs,rfl,hl,hc⟩
  obtain⟨cs,rfl,hl,hr⟩:=this
  refine .fo f l cs (by simpa using hl) fun j u z hu hz=>ih kj j u z hu ?_
  exact hr j _ z (by simp[hu]) hz
 ·intro e sz l _ x _ _;exact .im (.own e sz l x)
 ·intro i ver lo len x kj r
  simp only[j5,Nat.blt_eq]at kj
  simp only[Q1]at r
  refine .sub i ver lo len x kj fun e sz v l hl=>?_
  cases r with
  |im hi=>cases hi
  |sub _ _ _ _ _ hi h =>
   obtain⟨h1,h2⟩:=h e sz _ l (oL i kj e sz v l hl)
   exact⟨by omega,fun e=>by rw[←hθ i kj];exact h2 (by omega)⟩
 ·intro _ j u x hu;simp at hu
 ·intro a l xl pV kj j u x hu r
  simp only[b9,Bool.and_eq_true]at kj
  cases j with
  |zero=>simp at hu;subst hu;exact xl kj.1 r
  |succ j=>exact pV kj.2 j u x (by simpa using hu) r
 ·trivial
 ·intros;trivial
structure QY(X:Nat→Prop)(θ:Th)(nx:Nat)(hp:Hp)(w:World):Prop where
 owns:∀i b,A7 hp i=some b→i<nx∧U1 ⟨θ,nx,hp,X,w⟩ i b
 apart:∀i j b b' k,A7 hp i=some b→A7 hp j=some b'→FP θ i b k→FP θ j b' k→i=j
 fresh:∀i b k,A7 hp i=some b→FP θ i b k→¬X k
def owned(θ:Th)(hp:Hp)(k:Nat):Prop:=∃i b,A7 hp i=some b∧FP θ i b k
theorem QY.nodf{X:Nat→Prop}{θ:Th}{nx:Nat}{hp:Hp}{w:World}(h:QY X θ nx hp w){k:Nat}(ho:owned θ hp k){d:Option (List Deferred)}:w.heap[k]?≠some (Obj.deferred d):=by
 obtain⟨i,b,hi,hk⟩:=ho
 exact(h.owns i b hi).2.nodf hk
theorem OQ(ρ s:Nat→Nat)(i:Nat)(b:G1):BZ (x4 ρ s i b)=BZ b:=by cases b<;>rfl
theorem FP.ren{θ θ':Th}{ρ s:Nat→Nat}{i k:Nat}{b:G1}(h1:θ' (ρ i)=θ i)(h2:θ'.N (ρ i)=θ.N i):FP θ' (ρ i) (x4 ρ s i b) k↔FP θ i b k:=by
 unfold FP
 rw[OQ,h1,h2]
structure Hb(X:Nat→Prop)(θ:Th)(w:World)(m0:Nat)(kv:Hp)(m1:Nat)(hp1:Hp)(r:AV)(e:Ending)(w':World):Prop where
 out:∃v θ',e=.returned v∧G2 ⟨θ',m1,hp1,X,w'⟩ r v∧QY X θ' m1 hp1 w'∧(∀i b k,A7 hp1 i=some b→FP θ' i b k→owned θ kv k∨w.heap.size≤k)∧(∀i,i<m0→θ' i=θ i∨(∃x n k,θ i=.slice x n k)∧¬Kept hp1 i)
 os:w'.os=w.os
 tape:w'.tape=w.tape
 output:w'.output=w.output
 size:w.heap.size≤w'.heap.size
 block:∀k,k<w.heap.size→¬owned θ kv k→w'.heap[k]?=w.heap[k]?
def A9(P:Program)(f m0:Nat)(kv:Hp)(args:List AV)(m1:Nat)(hp1:Hp)(r:AV):Prop:=Uy P f ∧
 ∀(X:Nat→Prop) (θ:Th) (w:World) (vs:List Value),(∀k,X k→k<w.heap.size)→w7 (fun k=>X k∨owned θ kv k) w→QY X θ m0 kv w→args.length=vs.length→(∀(j:Nat) a v,args[j]?=some a→vs[j]?=some v→G2 ⟨θ,m0,kv,X,w⟩ a v) →
  Calls P f vs.toArray w fun e w'=>Hb X θ w m0 kv m1 hp1 r e w'
def X0:ResultVar→Nat
 |.tmp t=>t
 |.cell t _=>t
def GC(σ:St):List ResultVar→St
 |[]=>σ
 |.tmp _::r=>GC σ r
 |.cell t _::r=>match look σ.sl t with
  |some (.ref i 0)=>match A7 σ.hp i with
   |some (.bx _ l)=>GC (σ.put t (.agg l)) r
   |_=>σ
  |_=>σ
def QZ(P:Program)(n:Nat)(σ:St):List ResultVar→Prop
 |[]=>True
 |.tmp _::r=>QZ P n σ r
 |.cell t T::r=>∃i l sz,look σ.sl t=some (.ref i 0)∧A7 σ.hp i=some (.box l)∧K1 P T true sz∧l.length=sz∧Nat.blt t n=true∧QZ P n (σ.put t (.agg l)) r
def Qa:List ResultVar→List AV→List (Nat×AV)
 |v::r,a::s=>(X0 v,a)::Qa r s
 |_,_=>[]
def cT:List AV→AV
 |[a]=>a
 |l=>.tup l
def Cs:List ResultVar→Bool
 |[]=>true
 |v::r=>(r.all fun u=>!(Nat.beq (X0 u) (X0 v))) && Cs r
theorem Qb{tmps tmps':Array Value}{rv:ResultVar}(h:tmps.getD (X0 rv) undef=tmps'.getD (X0 rv) undef):Z7 tmps rv=Z7 tmps' rv:=by
 cases rv with
 |tmp t=>simp only[Z7];rw[show tmps.getD t undef=tmps'.getD t undef from h]
 |cell t T=>simp only[Z7];rw[show tmps.getD t undef=tmps'.getD t undef from h]
theorem Kg{a:Act}{d s:Nat}{v:Value}(h:d≠s):(a.put (some d) v).tmps.getD s undef=a.tmps.getD s undef:=by
 simp[Act.put,Array.getD_eq_getD_getElem?,Array.getElem?_setIfInBounds_ne h]
theorem Sv{a:Act}{d:Nat}{v:Value}(h:d<a.tmps.size):(a.put (some d) v).tmps.getD d undef=v:=by
 simp[Act.put,Array.getD,h]
theorem Iq{P:Program}{E:Env}{n:Nat}{θ:Th}{w:World}:∀{rvs:List ResultVar} {σ:St} {a:Act},U3 E n θ σ a w→QZ P n σ rvs→Cs rvs=true →
  ∃a',U3 E n θ (GC σ rvs) a' w∧(∀rv∈rvs,(Z7 a.tmps rv).run P w=.ok (a'.tmps.getD (X0 rv) undef) w)∧∀s,(∀rv∈rvs,X0 rv≠s)→a'.tmps.getD s undef=a.tmps.getD s undef
 |[],σ,a,hs,_,_=>⟨a,hs,(fun rv h=>by (cases h)),fun s _=>rfl⟩
 |.tmp t::r,σ,a,hs,lI,nU=>by
  simp only[Cs,Bool.and_eq_true,List.all_eq_true,Bool.not_eq_true']at nU
  obtain⟨a',h1,h2,h3⟩:=Iq (rvs:=r) hs lI nU.2
  refine⟨a',h1,fun rv pw=>?_,fun s mE=>h3 s fun rv h=>mE rv (by simp[h])⟩
  rcases List.mem_cons.1 pw with rfl|pw
  ·have:=h3 t (fun rv h e=>by
    have h4:=nU.1 rv h
    have e':X0 rv=X0 (.tmp t):=e
    rw[e']at h4
    simp at h4)
   simp[Z7,X0,Sem.run_pure,this]
  ·exact h2 rv pw
 |.cell t T::r,σ,a,hs,lI,nU=>by
  simp only[Cs,Bool.and_eq_true,List.all_eq_true,Bool.not_eq_true']at nU
  obtain⟨i,l,sz,h1,h2,tv,pC,hn,lI⟩:=lI
  have sQ:=Nat.blt_eq▸hn
  obtain⟨b1,hθ,hv,_⟩:=X4 (hs.slots t _ h1)
  obtain⟨b',lL,T',lV,hh,hsz,hr⟩:=(hs.owns i _ h2).2
  have mO:θ i=.pointer (some ⟨b1,0,none⟩):=hθ
  have nE:θ i=.pointer (some ⟨b',0,none⟩):=lV
  rw[mO]at nE
  cases nE
  have rM:w.heap[b1]?=some (.cells lL T' (0,0)):=hh
  have mG:G2 (cx E θ σ w) (.agg l) (.agg lL):=by
   have:=G2.agg (c:=cx E θ σ w) l lL.toList (by simp[hsz]) (fun j x y hx hy=>hr j x y hx (by simpa using hy))
   simpa using this
  have sE:=hs.put sQ mG
  have nM:=V8 (P:=P) (T:=T) (sz:=sz) (w:=w) (a:=⟨b1,0,none⟩) (cs:=lL.toList) (by rw[Array.length_toList,hsz,pC]) (fun j v hj=>by rw[addr_add,P5 rM];simpa using hj)
  obtain⟨a',h3,h4,h5⟩:=Iq (rvs:=r) sE lI nU.2
  have hne:∀rv∈r,X0 rv≠t:=fun rv h e=>by
   have h6:=nU.1 rv h
   have e':X0 rv=X0 (.cell t T):=e
   rw[e']at h6
   simp at h6
  have rT:GC σ (.cell t T::r)=GC (σ.put t (.agg l)) r:=by simp only[GC,h1,h2]
  refine⟨a',rT▸h3,fun rv pw=>?_,fun s mE=>?_⟩
  ·rcases List.mem_cons.1 pw with rfl|pw
   ·have h6:=h5 t hne
    rw[Sv (by rw[hs.size];exact sQ)]at h6
    show _=Result.ok (a'.tmps.getD t undef) w
    rw[h6]
    simp[Z7,hv,Sem.run_bind,Sem.run_pure,asAddr,nM]
   ·rw[←h4 rv pw]
    rw[Qb (tmps:=a.tmps) (tmps':=(a.put (some t) (.agg lL)).tmps)]
    exact(Kg (Ne.symm (hne rv pw))).symm
  ·rw[h5 s fun rv h=>mE rv (by simp[h]),Kg]
   exact mE (.cell t T) (by simp)
theorem OR:∀{rvs:List ResultVar} {as:List AV},rvs.length=as.length→Cs rvs=true→∀(j:Nat) rv a,rvs[j]?=some rv→as[j]?=some a→look (Qa rvs as) (X0 rv)=some a
 |[],_,_,_,j,rv,a,h,_=>by simp at h
 |v::r,[],hl,_,_,_,_,_,_=>by simp at hl
 |v::r,b::s,hl,nU,j,rv,a,hj,ha=>by
  simp only[Cs,Bool.and_eq_true,List.all_eq_true,Bool.not_eq_true']at nU
  simp only[Qa,I1]
  cases j with
  |zero=>simp at hj ha;subst hj ha;simp
  |succ j =>
   have oU:r[j]?=some rv:=by simpa using hj
   have hne:X0 v≠X0 rv:=fun e=>by
    have h6:=nU.1 rv (List.mem_of_getElem? oU)
    rw[←e]at h6
    simp at h6
   rw[if_neg hne]
   exact OR (by simpa using hl) nU.2 j rv a oU (by simpa using ha)
def Zh(P:Program)(E:Env)(n:Nat)(rs:Array ResultVar)(m1:Nat)(hp1:Hp)(r:AV)(σ:St):Prop :=
 (∃rvs as,rs=rvs.toArray∧QZ P n σ rvs∧Cs rvs=true∧rvs.length=as.length∧St.le E n (GC σ rvs) ⟨Qa rvs as,m1,hp1⟩∧r=cT as) ∨
 (∃t,rs=#[.tmp t]∧St.le E n σ ⟨[(t,r)],m1,hp1⟩) ∨
 (∃t u a b,rs=#[.tmp t,.tmp u]∧St.le E n σ ⟨[(t,a),(u,b)],m1,hp1⟩∧t≠u∧r=.tup [a,b]) ∨
 (∃t T i τ l sz,rs=#[.cell t T]∧K1 P T true sz∧l.length=sz∧St.le E n σ ⟨[(t,.ref i 0)],m1,hp1⟩∧A7 hp1 i=some (.bx τ l)∧r=.agg l)
def E9(P:Program)(E:Env)(n:Nat)(rs:Array ResultVar)(m1:Nat)(hp1:Hp)(r:AV):Exit→St→Prop
 |.ret,σ=>Zh P E n rs m1 hp1 r σ
 |.normal,σ=>Zh P E n rs m1 hp1 r σ
 |_,_=>False
section rules
variable {P:Program} {E:Env} {n:Nat} {ops:Array Oper} {rest:List Oper} {σ:St} {K:St→Prop} {Q:Exit→St→Prop}
variable {d:Nat} {ty:TypeId} {pos:String} {after:Array Edge} {x y:Operand}
theorem D9{t m1:Nat}{hp1:Hp}{r:AV}(h:St.le E n σ ⟨[(t,r)],m1,hp1⟩):E9 P E n #[.tmp t] m1 hp1 r .ret σ:=.inr (.inl ⟨t,rfl,h⟩)
theorem C9{rvs:List ResultVar}{vs:List AV}{m1:Nat}{hp1:Hp}{r:AV}(lI:QZ P n σ rvs)(nU:Cs rvs=true)(hl:rvs.length=vs.length)(h:St.le E n (GC σ rvs) ⟨Qa rvs vs,m1,hp1⟩)(hr:cT vs=r):E9 P E n rvs.toArray m1 hp1 r .ret σ:=.inl ⟨rvs,vs,rfl,lI,nU,hl,h,hr.symm⟩
theorem OS{t T i m1 sz τ:Nat}{hp1:Hp}{l:List AV}[tv:K1 P T true sz](hl:l.length=sz)(h:St.le E n σ ⟨[(t,.ref i 0)],m1,hp1⟩)(hb:A7 hp1 i=some (.bx τ l)):E9 P E n #[.cell t T] m1 hp1 (.agg l) .ret σ :=
 .inr (.inr (.inr ⟨t,T,i,τ,l,sz,rfl,tv,hl,h,hb,rfl⟩))
theorem Zi{f:Nat}{fn:Func}{code:Code}{args:List AV}{r:AV}{rs:Array ResultVar}{m0 m1:Nat}{kv hp1:Hp}(hf:P.funcs[f]?=some fn)(hb:fn.body=some code)(hn:fn.ntmps=n)(qF:fn.results=rs)
  (lO:Nat.ble args.length n=true) {X:Nat→Prop} {θ:Th} {w:World} {vs:List Value} (hX:∀k,X k→k<w.heap.size) (mQ:w7 (fun k=>X k∨owned θ kv k) w) (oE:QY X θ m0 kv w) (hl:args.length=vs.length) (oS:∀(j:Nat) a v,args[j]?=some a→vs[j]?=some v→G2 ⟨θ,m0,kv,X,w⟩ a v)
  (h:E8 P ⟨w,X,owned θ kv,θ.v,m0,mQ,false⟩ n code ⟨EK args 0,m0,kv⟩ (E9 P ⟨w,X,owned θ kv,θ.v,m0,mQ,false⟩ n rs m1 hp1 r)):Calls P f vs.toArray w fun e w'=>Hb X θ w m0 kv m1 hp1 r e w':=by
 subst hn qF
 refine calls_of_wp hf hb ?_
 have nA:args.length≤fn.ntmps:=Nat.ble_eq▸lO
 have start:BS ⟨w,X,owned θ kv,θ.v,m0,mQ,false⟩ fn.ntmps ⟨EK args 0,m0,kv⟩ { tmps:=vs.toArray++Array.replicate (fn.ntmps-vs.toArray.size) undef,defers:=[] } w:=by
  refine⟨θ,?_,.nil,⟨rfl,rfl,rfl,Nat.le_refl _,fun _ _ _=>rfl⟩,fun s x hs=>?_,oE.owns,oE.apart,fun i b k hi hk=>⟨oE.fresh i b k hi hk,.inl ⟨i,b,hi,hk⟩⟩,hX,⟨Nat.le_refl _,fun i hi=>.inl rfl⟩⟩
  ·simp;omega
  ·obtain⟨_,hx⟩:=HZ args 0 s x hs
   rw[Nat.sub_zero]at hx
   have kj:s<vs.length:=by rw[←hl];exact(List.getElem?_eq_some_iff.1 hx).1
   have hv:vs[s]?=some vs[s]:=List.getElem?_eq_getElem kj
   have e:(vs.toArray++Array.replicate (fn.ntmps-vs.toArray.size) undef).getD s undef=vs[s]:=by
    rw[Array.getD_eq_getD_getElem?,Array.getElem?_append]
    simp[kj]
   rw[e]
   exact oS s x _ hx hv
 refine wp_mono (h _ w start) ?_
 rintro e a w' ⟨σ',hq,om⟩
 have fin:Zh P ⟨w,X,owned θ kv,θ.v,m0,mQ,false⟩ fn.ntmps fn.results m1 hp1 r σ'→bodyPost P fn (fun e rC=>Hb X θ w m0 kv m1 hp1 r e rC) .ret a w':=by
  intro rL
  have post:∀{sl:List (Nat×AV)} {v:Value} {θ':Th},U3 ⟨w,X,owned θ kv,θ.v,m0,mQ,false⟩ fn.ntmps θ' ⟨sl,m1,hp1⟩ a w'→G2 ⟨θ',m1,hp1,X,w'⟩ r v→Hb X θ w m0 kv m1 hp1 r (.returned v) w':=by
   intro sl v θ' hs hv
   exact⟨⟨v,θ',rfl,hv,⟨hs.owns,hs.apart,fun i b k hi hk=>(hs.mine i b k hi hk).1⟩,fun i b k hi hk=>(hs.mine i b k hi hk).2,hs.base.2⟩,hs.fr.os,hs.fr.tape,hs.fr.output,hs.fr.size,hs.fr.block⟩
  rcases rL with ⟨rvs,as,h1,lI,nU,kf,h2,hr⟩|⟨t,h1,h2⟩|⟨t,u,a1,b1,h1,h2,hne,rfl⟩|⟨t,T,i,τ,l,sz,h1,tv,kf,h2,h3,rfl⟩
  ·obtain⟨θ0,qC⟩:=om
   obtain⟨a',sE,lN,_⟩:=Iq qC lI nU
   obtain⟨θ',hs⟩:=h2 a' w' ⟨θ0,sE⟩
   have mG:∀(j:Nat) rv b,rvs[j]?=some rv→as[j]?=some b→G2 ⟨θ',m1,hp1,X,w'⟩ b (a'.tmps.getD (X0 rv) undef):=fun j rv b hj hb=>hs.slots _ b (OR kf nU j rv b hj hb)
   have qu:∀{v:Value},G2 ⟨θ',m1,hp1,X,w'⟩ r v→Hb X θ w m0 kv m1 hp1 r (.returned v) w':=fun hv =>
    ⟨⟨_,θ',rfl,hv,⟨hs.owns,hs.apart,fun i b k hi hk=>(hs.mine i b k hi hk).1⟩,fun i b k hi hk=>(hs.mine i b k hi hk).2,hs.base.2⟩,hs.fr.os,hs.fr.tape,hs.fr.output,hs.fr.size,hs.fr.block⟩
   have tup:rvs.length≠1→r=.tup as→∃v,(results fn a.tmps).run P w'=.ok v w'∧Hb X θ w m0 kv m1 hp1 r (.returned v) w':=by
    intro hne hr
    refine⟨_,Kf (vs:=rvs.map fun rv=>a'.tmps.getD (X0 rv) undef) h1 hne (by simp) (fun j rv v hj hv=>?_),qu ?_⟩
    ·simp only[List.getElem?_map,hj,Option.map_some,Option.some.injEq]at hv
     subst hv
     exact lN rv (List.mem_of_getElem? hj)
    ·rw[hr]
     refine .tup as _ (by simp[kf]) fun j b v hb hv=>?_
     simp only[List.getElem?_map,Option.map_eq_some_iff]at hv
     obtain⟨rv,hj,rfl⟩:=hv
     exact mG j rv b hj hb
   match rvs,as,kf,hr,h1,lN,mG,tup with
   |[rv],[b],_,hr,h1,lN,mG,_ =>
    have hr:r=b:=hr
    subst hr
    exact⟨qC.defers.1 rfl,_,QR h1 (lN rv (by simp)),qu (mG 0 rv _ rfl rfl)⟩
   |[],[],_,hr,_,_,_,tup=>obtain⟨v,nY,oe⟩:=tup (by simp) hr;exact⟨qC.defers.1 rfl,v,nY,oe⟩
   |_::_::_,_::_::_,_,hr,_,_,_,tup=>obtain⟨v,nY,oe⟩:=tup (by simp) hr;exact⟨qC.defers.1 rfl,v,nY,oe⟩
  ·obtain⟨θ',hs⟩:=h2 a w' om
   exact⟨hs.defers.1 rfl,_,results_tmp h1 _ _ _,post hs (hs.slots t r (by simp[look]))⟩
  ·obtain⟨θ',hs⟩:=h2 a w' om
   refine⟨hs.defers.1 rfl,_,results_tmp2 h1 _ _ _,post hs (.tup [a1,b1] [_,_] rfl fun j x y hx hy=>?_)⟩
   match j,hx,hy with
   |0,hx,hy=>cases hx;cases hy;exact hs.slots t _ (by simp[look])
   |1,hx,hy=>cases hx;cases hy;exact hs.slots u _ (by rw[I1,if_neg hne,I1,if_pos rfl])
  ·obtain⟨θ',hs⟩:=h2 a w' om
   obtain⟨b,hθ,hv,_⟩:=X4 (hs.slots t (.ref i 0) (by simp[look]))
   obtain⟨b',lL,T',lV,hh,hsz,hr⟩:=(hs.owns i _ h3).2
   have mO:θ' i=.pointer (some ⟨b,0,none⟩):=hθ
   have nE:θ' i=.pointer (some ⟨b',0,none⟩):=lV
   rw[mO]at nE
   cases nE
   have rM:w'.heap[b]?=some (.cells lL T' (0,0)):=hh
   refine⟨hs.defers.1 rfl,.agg lL,?_,post hs ?_⟩
   ·have nM:=V8 (P:=P) (T:=T) (sz:=sz) (w:=w') (a:=⟨b,0,none⟩) (cs:=lL.toList) (by rw[Array.length_toList,hsz,kf]) (fun j v hj=>by rw[addr_add,P5 rM];simpa using hj)
    rw[Array.getD_eq_getD_getElem?]at hv
    simp[results,h1,hv,Sem.run_bind,Sem.run_pure,asAddr,nM]
   ·have:=G2.agg (c:=⟨θ',m1,hp1,X,w'⟩) l lL.toList (by simp[hsz]) (fun j x y hx hy=>hr j x y hx (by simpa using hy))
    simpa using this
 cases e with
 |normal=>exact fin hq
 |ret=>exact fin hq
 |exit id=>exact hq.elim
 |goto l=>exact hq.elim
 |panic c=>exact hq.elim
 |outgrown=>exact hq.elim
theorem Sw {f : Nat} {fn : Func} {code : Code} {args : List AV} {r : AV} {rs : Array ResultVar} {m0 m1 : Nat} {kv hp1 : Hp} (hf : P.funcs[f]? = some fn) (mT : (fn.name == "runtime.NumGoroutine") = false) (hb : fn.body = some code) (hn : fn.ntmps = n) (qF : fn.results = rs)
  (lO:Nat.ble args.length n=true) (h:∀E,E.n0=m0→E8 P E n code ⟨EK args 0,m0,kv⟩ (E9 P E n rs m1 hp1 r)):A9 P f m0 kv args m1 hp1 r :=
 ⟨⟨fn,hf,mT,by rw[hb];rfl⟩,fun X θ w vs hX mQ oE hl oS=>Zi hf hb hn qF lO hX mQ oE hl oS (h _ rfl)⟩
def c7(ρ s:Nat→Nat):Hp→Hp
 |[]=>[]
 |(k,b)::r=>(ρ k,b.map (x4 ρ s k))::c7 ρ s r
theorem Hc{ρ s:Nat→Nat}{m:Nat}(qV:∀i j,i<m→j<m→ρ i=ρ j→i=j):∀(hp h:Hp),K9 m hp=true→∀j,j<m→look (c7 ρ s hp++h) (ρ j)=match look hp j with
  |some b=>some (b.map (x4 ρ s j))
  |none=>look h (ρ j)
 |[],h,_,j,hj=>rfl
 |(k,b)::r,h,kj,j,hj=>by
  have hk:k<m∧K9 m r=true:=by
   match b,kj with
   |none,kj=>simp only[K9,Bool.and_eq_true,Nat.blt_eq]at kj;exact kj
   |some (.bx τ l),kj=>simp only[K9,Bool.and_eq_true,Nat.blt_eq]at kj;exact⟨kj.1.1,kj.2⟩
   |some (.row ..),kj=>simp only[K9,Bool.and_eq_true,Nat.blt_eq]at kj;exact⟨kj.1,kj.2.2⟩
   |some (.map ..),kj=>simp only[K9,Bool.and_eq_true,Nat.blt_eq]at kj;exact kj
   |some (.it ..),kj=>simp only[K9,Bool.and_eq_true,Nat.blt_eq]at kj;exact kj
  simp only[c7,List.cons_append,I1]
  by_cases e:k=j
  ·subst e;simp
  ·have:ρ k≠ρ j:=fun h2=>e (qV k j hk.1 hj h2)
   simp only[if_neg this,if_neg e]
   exact Hc qV r h hk.2 j hj
theorem Cg{ρ s:Nat→Nat}{m:Nat}:∀(hp h:Hp),K9 m hp=true→∀i,(∀j,j<m→ρ j≠i)→look (c7 ρ s hp++h) i=look h i
 |[],h,_,i,_=>rfl
 |(k,b)::r,h,kj,i,hi=>by
  have hk:k<m∧K9 m r=true:=by
   match b,kj with
   |none,kj=>simp only[K9,Bool.and_eq_true,Nat.blt_eq]at kj;exact kj
   |some (.bx τ l),kj=>simp only[K9,Bool.and_eq_true,Nat.blt_eq]at kj;exact⟨kj.1.1,kj.2⟩
   |some (.row ..),kj=>simp only[K9,Bool.and_eq_true,Nat.blt_eq]at kj;exact⟨kj.1,kj.2.2⟩
   |some (.map ..),kj=>simp only[K9,Bool.and_eq_true,Nat.blt_eq]at kj;exact kj
   |some (.it ..),kj=>simp only[K9,Bool.and_eq_true,Nat.blt_eq]at kj;exact kj
  simp only[c7,List.cons_append,I1,if_neg (hi k hk.1)]
  exact Cg r h hk.2 i hi
def N6(ι:List Nat)(i:Nat):Nat:=ι.getD i 0
def VQ(h:Hp)(i:Nat):Nat:=match A7 h i with
 |some (.row e _ v _)=>cond (BR e) v (v+1)
 |_=>0
def Et(h kv:Hp)(ι off:List Nat):Nat→Prop
 |0=>True
 |m+1=>A7 h (N6 ι m)=(A7 kv m).map (x4 (N6 ι) (N6 off) m)∧Et h kv ι off m
theorem MS{h kv:Hp}{ι off:List Nat}:∀{m:Nat},Et h kv ι off m→∀i,i<m→A7 h (N6 ι i)=(A7 kv i).map (x4 (N6 ι) (N6 off) i)
 |0,_,i,hi=>absurd hi (Nat.not_lt_zero _)
 |m+1,hb,i,hi=>by
  by_cases e:i=m
  ·subst e;exact hb.1
  ·exact MS hb.2 i (by omega)
def CP(kv hp1:Hp):Nat→Bool
 |0=>true
 |m+1=>(look hp1 m).isSome && (match A7 hp1 m,A7 kv m with
  |some (.row e sz _ _),some (.row e' kw _ _)=>Nat.beq sz kw && (BR e == BR e')
  |some (.row ..),_=>false
  |_,_=>true) && CP kv hp1 m
theorem Kh{kv hp1:Hp}:∀{m:Nat},CP kv hp1 m=true→∀i,i<m→(look hp1 i).isSome=true∧∀e sz v l,A7 hp1 i=some (.row e sz v l)→∃e' v' l',A7 kv i=some (.row e' sz v' l')∧BR e=BR e'
 |0,_,i,hi=>absurd hi (Nat.not_lt_zero _)
 |m+1,hb,i,hi=>by
  simp only[CP,Bool.and_eq_true]at hb
  by_cases e:i=m
  ·subst e
   refine⟨hb.1.1,fun e sz v l hl=>?_⟩
   have h2:=hb.1.2
   rw[hl]at h2
   split at h2
   ·rename_i h3 h4
    cases h3
    rw[Bool.and_eq_true]at h2
    refine⟨_,_,_,by rw[h4,Nat.eq_of_beq_eq_true h2.1],?_⟩
    exact eq_of_beq h2.2
   ·cases h2
   ·rename_i h4 h3
    first|exact absurd rfl (h3 e sz v l)|exact absurd rfl (h4 e sz v l)|exact(h3 e sz v l rfl).elim|exact(h4 e sz v l rfl).elim
  ·exact Kh hb.2 i (by omega)
def EM(ι:List Nat)(nx:Nat):Bool:=match ι with
 |[]=>true
 |i::r=>Nat.blt i nx && !(r.contains i) && EM r nx
theorem MT:∀{ι:List Nat} {nx:Nat},EM ι nx=true→(∀i,i<ι.length→N6 ι i<nx)∧∀i j,i<ι.length→j<ι.length→N6 ι i=N6 ι j→i=j
 |[],nx,_=>⟨fun i hi=>absurd hi (Nat.not_lt_zero _),fun i j hi=>absurd hi (Nat.not_lt_zero _)⟩
 |a::r,nx,h=>by
  simp only[EM,Bool.and_eq_true,Nat.blt_eq,Bool.not_eq_true']at h
  obtain⟨h1,h2⟩:=MT h.2
  have lj:∀i,i<r.length→N6 r i∈r:=fun i hi=>by simp[N6,List.getD,hi]
  have uN:a∉r:=by simpa using h.1.2
  refine⟨fun i hi=>?_,fun i j hi hj he=>?_⟩
  ·cases i with
   |zero=>exact h.1.1
   |succ i=>exact h1 i (by simpa using hi)
  ·cases i with
   |zero =>
    cases j with
    |zero=>rfl
    |succ j=>exact absurd (show a∈r from (show a=N6 r j from he)▸lj j (by simpa using hj)) uN
   |succ i =>
    cases j with
    |zero=>exact absurd (show a∈r from (show N6 r i=a from he)▸lj i (by simpa using hi)) uN
    |succ j=>exact congrArg (·+1) (h2 i j (by simpa using hi) (by simpa using hj) he)
def gρ(ι:List Nat)(m0 nx:Nat)(i:Nat):Nat:=cond (Nat.blt i m0) (N6 ι i) (nx+(i-m0))
def gs(ι:List Nat)(m0:Nat)(h:Hp)(i:Nat):Nat:=cond (Nat.blt i m0) (VQ h (N6 ι i)) 0
theorem Js{ι:List Nat}{m0 nx i:Nat}(h:i<m0):gρ ι m0 nx i=N6 ι i:=by
 have:Nat.blt i m0=true:=Nat.blt_eq▸h
 simp[gρ,this]
theorem Hd{ι:List Nat}{m0 nx i:Nat}(h:¬i<m0):gρ ι m0 nx i=nx+(i-m0):=by
 have:Nat.blt i m0=false:=by
  cases hb:Nat.blt i m0
  ·rfl
  ·exact absurd (Nat.blt_eq▸hb) h
 simp[gρ,this]
theorem XL{c c':Cx}{ρ s:Nat→Nat}(hθ:∀i,i<c.nx→c'.θ (ρ i)=c.θ i)(hN:∀i,i<c.nx→c'.θ.N (ρ i)=c.θ.N i)(hw:c'.w=c.w)(hU:∀k,c.U k→c'.U k)
  (oL:∀i,i<c.nx→∀e sz v l,A7 c.hp i=some (.row e sz v l)→A7 c'.hp (ρ i)=some (.row e sz (v+s i) l))
  {i:Nat} {b:G1} (hi:i<c.nx) (vB:∀τ l,b=.bx τ l→b9 c.nx l=true) (o:U1 c' (ρ i) (x4 ρ s i b)) (rN:∀e sz v l,b=.row e sz v l→Kx e=false):U1 c i b:=by
 have qB:∀{a:AV} {x:Value},Im c'.U c'.w a x→Im c.U c.w a x:=fun hi=>hi.mono (fun k _ _=>by rw[hw]) fun k _ hu=>hU k hu
 cases b with
 |bx τ l =>
  obtain⟨b',lL,T,e1,e2,e3,e4⟩:=o
  refine⟨b',lL,T,by rw[←hθ i hi];exact e1,by rw[←hw];exact e2,by rw[U5,List.length_map]at e3;exact e3,fun j u z hu hz=>?_⟩
  refine OP hθ hw hU oL (Bb (vB τ l rfl) u (List.mem_of_getElem? hu)) (e4 j _ z ?_ hz)
  rw[U5];simp[hu]
 |row e sz v l =>
  obtain⟨xs,e1,e2,e3,e4⟩:=o
  refine⟨xs,by rw[←hθ i hi,←hw];exact e1,e2,fun k el hk j x hx=>?_,fun hne=>⟨fun k p hk=>by rw[←hw];exact(e4 hne).1 k p (by rw[hN i hi];exact hk),fun k el hk j e' kw l' hj=>?_⟩⟩
  ·obtain⟨y,hy,hi⟩:=e3 k el hk j x hx
   exact⟨y,hy,qB hi⟩
  ·rcases(e4 hne).2 k el hk j e' kw l' hj with ⟨q0,_⟩|⟨g,m,cap,y,ys,q1,q2,q3,q4,q5,q6,q7⟩
   ·rw[rN _ _ _ _ rfl]at q0;cases q0
   exact .inr ⟨g,m,cap,y,ys,by rw[←hθ i hi];exact q1,by rw[←hw];exact q2,by rw[←hw];exact q3,q4,q5,fun q mA hq j' x hx=>by
    obtain⟨z,hz,hi⟩:=q6 q mA hq j' x hx
    exact⟨z,hz,qB hi⟩,fun b hb=>by rw[←hN i hi];exact q7 b hb⟩
 |map m =>
  obtain⟨r,es,clock,e1,e2,e3,e4⟩:=o
  exact⟨r,es,clock,by rw[←hθ i hi];exact e1,by rw[←hw];exact e2,e3,fun j q e hj he=>⟨(e4 j q e hj he).1,qB (e4 j q e hj he).2⟩⟩
 |it t p =>
  obtain⟨r,e1,e2⟩:=o
  exact⟨r,by rw[←hθ i hi];exact e1,by rw[←hw];exact e2⟩
theorem XM{C:Cx}{A B:List AV}{x y:List Value}(h1:A.length=x.length)(ha:∀(j:Nat) u v,A[j]?=some u→x[j]?=some v→G2 C u v)(hb:∀(j:Nat) u v,B[j]?=some u→y[j]?=some v→G2 C u v):∀(j:Nat) u v,(A++B)[j]?=some u→(x++y)[j]?=some v→G2 C u v:=fun j u v hu hv=>by
 by_cases hj:j<A.length
 ·rw[List.getElem?_append_left hj]at hu
  rw[List.getElem?_append_left (by omega)]at hv
  exact ha j u v hu hv
 ·rw[List.getElem?_append_right (by omega)]at hu
  rw[List.getElem?_append_right (by omega),←h1]at hv
  exact hb _ u v hu hv
theorem VR{Cl:List Value→World→(Ending→World→Prop)→Prop}(sk:∀{vs:List Value} {w:World} {R R':Ending→World→Prop},Cl vs w R→(∀e w',R e w'→R' e w')→Cl vs w R')
  {A args:List AV} {r:AV} {m0 m1:Nat} {kv hp1:Hp} (ι off:List Nat) {θ:Th} {a:Act} {w:World} (hs:U3 E n θ σ a w) {vs:List Value} (rE:A.length=vs.length) (hr:∀(j:Nat) x v,A[j]?=some x→vs[j]?=some v→G2 (cx E θ σ w) x v)
  (hL:Cf (N6 ι) (N6 off) args=A) (lO:b9 m0 args=true) (hι:Nat.beq ι.length m0=true) (pX:EM ι σ.nx=true) (mC:Et σ.hp kv ι off m0) (lE:CP kv hp1 m0=true)
  (oI:K9 m0 kv=true) (mI:K9 m1 hp1=true) (hm:Nat.ble m0 m1=true)
  (hc:∀(X:Nat→Prop) (θc:Th),(∀k,X k→k<w.heap.size)→w7 (fun k=>X k∨owned θc kv k) w→QY X θc m0 kv w→(∀k,owned θc kv k→(cx E θ σ w).own k)→(∀k,E.X k→X k)→(∀k,X k→(cx E θ σ w).U k)→args.length=vs.length→(∀(j:Nat) a v,args[j]?=some a→vs[j]?=some v→G2 ⟨θc,m0,kv,X,w⟩ a v) →
   Cl vs w (Hb X θc w m0 kv m1 hp1 r)) :
  Cl vs w fun e w'=>∃v Θ,e=.returned v∧U3 E n Θ ⟨σ.sl,σ.nx+(m1-m0),c7 (gρ ι m0 σ.nx) (gs ι m0 σ.hp) hp1++σ.hp⟩ a w' ∧
   G2 (cx E Θ ⟨σ.sl,σ.nx+(m1-m0),c7 (gρ ι m0 σ.nx) (gs ι m0 σ.hp) hp1++σ.hp⟩ w') (Q1 (gρ ι m0 σ.nx) (gs ι m0 σ.hp) r) v∧w.heap.size≤w'.heap.size∧∀k,k<w.heap.size→¬(cx E θ σ w).own k→w'.heap[k]?=w.heap[k]?:=by
 have hι:=Nat.eq_of_beq_eq_true hι
 have hm:=Nat.ble_eq▸hm
 obtain⟨qG,pt⟩:=MT pX
 rw[hι]at qG pt
 have mC:=MS mC
 have lE:=Kh lE
 let C:=cx E θ σ w
 let θc:Th:=⟨fun i=>θ (N6 ι i),fun i=>θ.N (N6 ι i)⟩
 let Xc:Nat→Prop:=fun k=>C.U k∧¬owned θc kv k
 let c0:Cx:=⟨θc,m0,kv,Xc,w⟩
 have mo:∀k,owned θc kv k→∃i b0,i<m0∧A7 kv i=some b0∧A7 σ.hp (N6 ι i)=some (x4 (N6 ι) (N6 off) i b0)∧FP θ (N6 ι i) (x4 (N6 ι) (N6 off) i b0) k:=by
  rintro k ⟨i,b,hi,hk⟩
  have kj:=(Cq oI hi).1
  exact⟨i,b,kj,hi,by rw[mC i kj,hi];rfl,(FP.ren (θ:=θc) rfl rfl).2 hk⟩
 have vZ:∀k,c0.U k→C.U k:=by
  rintro k (hk|hk)
  ·exact hk.1
  ·obtain⟨i,b0,_,_,h1,h2⟩:=mo k hk
   exact .inr ⟨_,_,h1,h2⟩
 have nu:∀i,i<c0.nx→∀e sz v l,A7 c0.hp i=some (.row e sz v l)→A7 C.hp (N6 ι i)=some (.row e sz (v+N6 off i) l):=by
  intro i hi e sz v l hl
  have:=mC i hi
  have nk:A7 kv i=some (.row e sz v l):=hl
  rw[nk]at this
  exact this
 have kf:args.length=vs.length:=by
  have:=congrArg List.length hL
  rw[U5,List.length_map]at this
  rw[this,rE]
 have tM:QY Xc θc m0 kv w:=by
  refine⟨fun i b hi=>?_,fun i j b b' k hi hj rX sa=>?_,fun i b k hi hk hX=>hX.2 ⟨i,b,hi,hk⟩⟩
  ·obtain⟨kj,xF⟩:=Cq oI hi
   have h1:A7 σ.hp (N6 ι i)=some (x4 (N6 ι) (N6 off) i b):=by rw[mC i kj,hi];rfl
   exact⟨kj,XL (c:=c0) (c':=C) (fun i _=>rfl) (fun i _=>rfl) rfl vZ nu kj xF (hs.owns _ _ h1).2 fun e sz v l e2=>Gh oI (e2▸hi)⟩
  ·have h1:=(Cq oI hi).1
   have h2:=(Cq oI hj).1
   refine pt i j h1 h2 (hs.apart _ _ (x4 (N6 ι) (N6 off) i b) (x4 (N6 ι) (N6 off) j b') k (by rw[mC i h1,hi];rfl) (by rw[mC j h2,hj];rfl) ((FP.ren (θ:=θc) rfl rfl).2 rX) ((FP.ren (θ:=θc) rfl rfl).2 sa))
 have sZ:∀k,owned θc kv k→C.own k:=fun k hk=>by
  obtain⟨i,b0,_,_,h1,h2⟩:=mo k hk
  exact⟨_,_,h1,h2⟩
 have pQ:=hc Xc θc (fun k hk=>hs.evT.Ult k hk.1) (hs.evT.tab.mono (fun k _ hk=>hk.elim (fun h=>h.1) (fun h=>vZ k (.inr h))) fun _ _ _=>rfl) tM sZ (fun k hk=>⟨.inl hk,fun ho=>by
  obtain⟨i,b0,_,_,h1,h2⟩:=mo k ho
  exact(hs.mine _ _ k h1 h2).1 hk⟩) (fun _ hk=>hk.1) kf fun j av v hj hv=>by
  refine OP (c:=c0) (c':=C) (ρ:=N6 ι) (s:=N6 off) (fun i _=>rfl) rfl vZ nu (Bb lO av (List.mem_of_getElem? hj)) (hr j _ v ?_ hv)
  rw[←hL,U5];simp[hj]
 refine sk pQ ?_
 rintro e w' ⟨⟨v,θ',rfl,hv,od,lK,lV⟩,tV,oQ,ph,lP,mX⟩
 let ρ:=gρ ι m0 σ.nx
 let s:=gs ι m0 σ.hp
 have pp:∀i j,i<m1→j<m1→ρ i=ρ j→i=j:=by
  intro i j hi hj he
  by_cases h1:i<m0<;>by_cases h2:j<m0
  ·exact pt i j h1 h2 (by simpa only[ρ,Js h1,Js h2]using he)
  ·have:=qG i h1
   simp only[ρ,Js h1,Hd h2]at he
   omega
  ·have:=qG j h2
   simp only[ρ,Hd h1,Js h2]at he
   omega
  ·simp only[ρ,Hd h1,Hd h2]at he
   omega
 have tg:∀j,j<m1→ρ j<σ.nx+(m1-m0):=by
  intro j hj
  by_cases h1:j<m0
  ·have:=qG j h1;simp only[ρ,Js h1];omega
  ·simp only[ρ,Hd h1];omega
 have pd:∀j,j<m1→ρ j<σ.nx→j<m0:=by
  intro j hj kj
  by_cases h1:j<m0
  ·exact h1
  ·simp only[ρ,Hd h1]at kj;omega
 let Θ:Th:=⟨fun i=>open Classical in if h:∃j,j<m1∧ρ j=i then θ' (Classical.choose h)else θ i,fun i=>open Classical in if h:∃j,j<m1∧ρ j=i then θ'.N (Classical.choose h)else θ.N i⟩
 have tJ:∀j,j<m1→Θ (ρ j)=θ' j:=by
  intro j hj
  have hex:∃j',j'<m1∧ρ j'=ρ j:=⟨j,hj,rfl⟩
  have:Classical.choose hex=j:=pp _ _ (Classical.choose_spec hex).1 hj (Classical.choose_spec hex).2
  simp only[Θ,dif_pos hex,this]
 have we:∀j,j<m1→Θ.N (ρ j)=θ'.N j:=by
  intro j hj
  have hex:∃j',j'<m1∧ρ j'=ρ j:=⟨j,hj,rfl⟩
  have:Classical.choose hex=j:=pp _ _ (Classical.choose_spec hex).1 hj (Classical.choose_spec hex).2
  simp only[Θ,dif_pos hex,this]
 have wm:∀i,(∀j,j<m1→ρ j≠i)→Θ.N i=θ.N i:=by
  intro i hi
  have:¬∃j,j<m1∧ρ j=i:=fun ⟨j,hj,he⟩=>hi j hj he
  simp only[Θ,dif_neg this]
 have tq:∀i,(∀j,j<m1→ρ j≠i)→Θ i=θ i:=by
  intro i hi
  have:¬∃j,j<m1∧ρ j=i:=fun ⟨j,hj,he⟩=>hi j hj he
  simp only[Θ,dif_neg this]
 have rz:∀{j:Nat} {b:G1} {k:Nat},j<m1→FP Θ (ρ j) (x4 ρ s j b) k→FP θ' j b k:=fun hj h=>(FP.ren (tJ _ hj) (we _ hj)).1 h
 have rZ:∀{i:Nat} {b:G1} {k:Nat},(∀j,j<m1→ρ j≠i)→FP Θ i b k→FP θ i b k:=fun hi h=>by
  unfold FP at h ⊢
  rwa[tq _ hi,wm _ hi]at h
 let HP:=c7 ρ s hp1++σ.hp
 let σ':St:=⟨σ.sl,σ.nx+(m1-m0),HP⟩
 have oJ:∀i,σ.nx≤i→A7 σ.hp i=none:=by
  intro i hi
  cases hx:A7 σ.hp i with
  |none=>rfl
  |some b=>have:=(hs.owns i b hx).1;omega
 have nG:∀j,j<m1→A7 HP (ρ j)=(A7 hp1 j).map (x4 ρ s j):=by
  intro j hj
  have:=Hc (ρ:=ρ) (s:=s) pp hp1 σ.hp mI j hj
  unfold A7
  rw[this]
  cases hx:look hp1 j with
  |some b=>cases b<;>rfl
  |none =>
   simp only[Option.map_none]
   have mw:¬j<m0:=fun h=>by have:=(lE j h).1;rw[hx]at this;cases this
   have h2:=oJ (ρ j) (by simp only[ρ,Hd mw];omega)
   exact h2
 have nS:∀i,(∀j,j<m1→ρ j≠i)→A7 HP i=A7 σ.hp i:=by
  intro i hi
  unfold A7
  rw[Cg (ρ:=ρ) (s:=s) hp1 σ.hp mI i hi]
 have pI:∀j,j<m0→ρ j=N6 ι j:=fun j hj=>Js hj
 have rA:∀k,owned θc kv k→C.own k:=fun k hk=>by
  obtain⟨i,b0,_,_,h1,h2⟩:=mo k hk
  exact⟨_,_,h1,h2⟩
 have pg:∀k,owned θc kv k→¬E.X k∧(E.O k∨E.w0.heap.size≤k):=fun k hk=>by
  obtain⟨i,b0,_,_,h1,h2⟩:=mo k hk
  exact hs.mine _ _ k h1 h2
 have nt:∀i b k,A7 σ.hp i=some b→(∀j,j<m1→ρ j≠i)→FP θ i b k→¬owned θc kv k:=fun i b k hi lG hk ho=>by
  obtain⟨j,b0,hj,_,h1,h2⟩:=mo k ho
  have:=hs.apart _ _ _ _ k hi h1 hk h2
  exact lG j (by omega) (by rw[pI j hj];exact this.symm)
 let C':=cx E Θ σ' w'
 have le:C.le C':=by
  refine⟨Nat.le_add_right _ _,fun i hi=>?_,fun i hi e' kw v' l' hl=>?_,lP,fun k hk hu=>mX k hk fun ho=>hu (.inr (rA k ho)),fun k hk hu=>?_⟩
  ·by_cases hex:∃j,j<m1∧ρ j=i
   ·obtain⟨j,hj,rfl⟩:=hex
    have mc:=pd j hj hi
    have h1:=lV j mc
    have h2:θc j=θ (ρ j):=by rw[pI j mc]
    rw[h2]at h1
    show Θ (ρ j)=θ (ρ j)∨_
    rw[tJ j hj]
    exact h1.imp id (·.1)
   ·exact .inl (tq i fun j hj he=>hex ⟨j,hj,he⟩)
  ·by_cases hex:∃j,j<m1∧ρ j=i
   ·obtain⟨j,hj,rfl⟩:=hex
    have mc:=pd j hj hi
    have h1:A7 HP (ρ j)=some (.row e' kw v' l'):=hl
    rw[nG j hj,Option.map_eq_some_iff]at h1
    obtain⟨b,hb,nD⟩:=h1
    cases b with
    |bx τ l=>cases nD
    |map m=>cases nD
    |it _ _=>cases nD
    |row e1 qA v1 l1 =>
     simp only[x4]at nD
     cases nD
     obtain⟨e0,v0,l0,h0,sO⟩:=(lE j mc).2 _ _ _ _ hb
     have h3:=nu j mc e0 kw v0 l0 h0
     refine⟨e0,v0+N6 off j,l0,by rw[pI j mc];exact h3,?_⟩
     have pM:A7 σ.hp (N6 ι j)=some (.row e0 kw (v0+N6 off j) l0):=h3
     have ll:Nat.blt j m0=true:=Nat.blt_eq▸mc
     by_cases hk:BR e0=true
     ·have wi:s j=v0+N6 off j:=by
       simp only[s,gs,ll,VQ,pM,hk,cond]
      by_cases nn:v1=0
      ·have uc:θ' j=θ (N6 ι j):=(lV j mc).resolve_right fun h=>h.2 ⟨_,_,_,_,hb,sO.trans hk⟩
       obtain⟨x1,o1,_⟩:=(od.owns j _ hb).2
       obtain⟨x2,o2,_⟩:=(hs.owns _ _ pM).2
       have wg:AZ w' e' kw (θ' j) l'.length x1:=o1
       have xe:AZ w e0 kw (θ (N6 ι j)) l0.length x2:=o2
       rw[uc]at wg
       refine .inr ⟨by rw[wi];omega,xe.len wg,?_⟩
       show Θ (ρ j)=θ (ρ j)
       rw[tJ j hj,uc,pI j mc]
      ·exact .inl (by rw[wi];omega)
     ·have:s j=v0+N6 off j+1:=by
       have lp:BR e0=false:=by
        cases hx:BR e0 with
        |false=>rfl
        |true=>exact absurd hx hk
       simp only[s,gs,ll,VQ,pM,lp,cond]
      exact .inl (by omega)
   ·have h1:A7 HP i=some (.row e' kw v' l'):=hl
    have lG:∀j,j<m1→ρ j≠i:=fun j hj he=>hex ⟨j,hj,he⟩
    rw[nS i lG]at h1
    exact⟨e',v',l',h1,.inr ⟨rfl,rfl,tq i lG⟩⟩
  ·rcases hu with hu|⟨i,b,hi,lW⟩
   ·exact .inl hu
   ·have ln:A7 HP i=some b:=hi
    have lp:FP Θ i b k:=lW
    by_cases hex:∃j,j<m1∧ρ j=i
    ·obtain⟨j,hj,rfl⟩:=hex
     rw[nG j hj,Option.map_eq_some_iff]at ln
     obtain⟨b1,me,rfl⟩:=ln
     rcases lK j b1 k me (rz hj lp)with h|h
     ·exact .inr (rA k h)
     ·have vq:k<w.heap.size:=hk
      omega
    ·have lG:∀j,j<m1→ρ j≠i:=fun j hj he=>hex ⟨j,hj,he⟩
     rw[nS i lG]at ln
     exact .inr ⟨i,b,ln,rZ lG lp⟩
 have ren:Ren ⟨θ',m1,hp1,Xc,w'⟩ C' ρ s:=by
  refine⟨tg,tJ,we,rfl,fun k hu=>?_,fun j hj e sz v' l hl=>?_⟩
  ·rcases hu with hu|⟨i,b,hi,hk⟩
   ·exact .inl ⟨.inl hu,fun ho=>(pg k ho).1 hu⟩
   ·have ln:A7 HP i=some b:=hi
    have lp:FP Θ i b k:=hk
    by_cases hex:∃j,j<m1∧ρ j=i
    ·obtain⟨j,hj,rfl⟩:=hex
     rw[nG j hj,Option.map_eq_some_iff]at ln
     obtain⟨b1,me,rfl⟩:=ln
     exact .inr ⟨j,b1,me,rz hj lp⟩
    ·have lG:∀j,j<m1→ρ j≠i:=fun j hj he=>hex ⟨j,hj,he⟩
     rw[nS i lG]at ln
     have lp:=rZ lG lp
     exact .inl ⟨.inr ⟨i,b,ln,lp⟩,nt i b k ln lG lp⟩
  ·have h1:A7 HP (ρ j)=some (.row e sz v' l):=hl
   rw[nG j hj,Option.map_eq_some_iff]at h1
   obtain⟨b,hb,nD⟩:=h1
   cases b with
   |bx τ l=>cases nD
   |map m=>cases nD
   |it _ _=>cases nD
   |row e1 qA v1 l1 =>
    simp only[x4]at nD
    cases nD
    exact⟨v1,hb,rfl⟩
 have rc:U3 E n Θ σ' a w':=by
  refine⟨hs.size,hs.defers.mono fun k hd=>mX k (PU hd) fun ho=>(tM.nodf ho) hd,⟨tV.trans hs.fr.os,oQ.trans hs.fr.tape,ph.trans hs.fr.output,Nat.le_trans hs.fr.size lP,fun k hk hO=>?_⟩,fun t x hx=>(hs.slots t x hx).mono le,fun i b hi=>?_,fun i1 i2 b1 b2 k h1 h2 nv lp=>?_,fun i b k hi hk=>?_,hs.X,⟨by have:=hs.base.1;show E.n0≤σ.nx+_;omega,fun i hi=>?_⟩⟩
  ·have h1:=hs.fr.size
   rw[mX k (by omega) fun ho=>?_]
   ·exact hs.fr.block k hk hO
   ·rcases(pg k ho).2 with h2|h2
    ·exact hO h2
    ·omega
  ·have ln:A7 HP i=some b:=hi
   by_cases hex:∃j,j<m1∧ρ j=i
   ·obtain⟨j,hj,rfl⟩:=hex
    rw[nG j hj,Option.map_eq_some_iff]at ln
    obtain⟨b1,me,rfl⟩:=ln
    exact⟨tg j hj,Tq ren hj (od.owns j b1 me).2 fun e sz v l e2=>Gh mI (e2▸me)⟩
   ·have lG:∀j,j<m1→ρ j≠i:=fun j hj he=>hex ⟨j,hj,he⟩
    rw[nS i lG]at ln
    obtain⟨h1,h2⟩:=hs.owns i b ln
    refine⟨by show i<σ.nx+_;omega,h2.mono le (tq i lG) (fun k=>congrFun (wm i lG) k) fun k hk=>mX k (h2.lt hk) (nt i b k ln lG hk)⟩
  ·have nW:A7 HP i1=some b1:=h1
   have pG:A7 HP i2=some b2:=h2
   by_cases e1:∃j,j<m1∧ρ j=i1<;>by_cases e2:∃j,j<m1∧ρ j=i2
   ·obtain⟨j1,qH,rfl⟩:=e1
    obtain⟨j2,oY,rfl⟩:=e2
    rw[nG j1 qH,Option.map_eq_some_iff]at nW
    rw[nG j2 oY,Option.map_eq_some_iff]at pG
    obtain⟨c1,oD,rfl⟩:=nW
    obtain⟨c2,nH,rfl⟩:=pG
    rw[od.apart j1 j2 c1 c2 k oD nH (rz qH nv) (rz oY lp)]
   ·obtain⟨j1,qH,rfl⟩:=e1
    have lG:∀j,j<m1→ρ j≠i2:=fun j hj he=>e2 ⟨j,hj,he⟩
    rw[nG j1 qH,Option.map_eq_some_iff]at nW
    obtain⟨c1,oD,rfl⟩:=nW
    have nv:=rz qH nv
    rw[nS i2 lG]at pG
    have lp:=rZ lG lp
    rcases lK j1 c1 k oD nv with h|h
    ·exact absurd h (nt i2 b2 k pG lG lp)
    ·have:=(hs.owns i2 b2 pG).2.lt lp
     have h3:k<w.heap.size:=this
     omega
   ·obtain⟨j2,oY,rfl⟩:=e2
    have lG:∀j,j<m1→ρ j≠i1:=fun j hj he=>e1 ⟨j,hj,he⟩
    rw[nG j2 oY,Option.map_eq_some_iff]at pG
    obtain⟨c2,nH,rfl⟩:=pG
    have lp:=rz oY lp
    rw[nS i1 lG]at nW
    have nv:=rZ lG nv
    rcases lK j2 c2 k nH lp with h|h
    ·exact absurd h (nt i1 b1 k nW lG nv)
    ·have:=(hs.owns i1 b1 nW).2.lt nv
     have h3:k<w.heap.size:=this
     omega
   ·have sx:∀j,j<m1→ρ j≠i1:=fun j hj he=>e1 ⟨j,hj,he⟩
    have sY:∀j,j<m1→ρ j≠i2:=fun j hj he=>e2 ⟨j,hj,he⟩
    rw[nS i1 sx]at nW
    rw[nS i2 sY]at pG
    exact hs.apart i1 i2 b1 b2 k nW pG (rZ sx nv) (rZ sY lp)
  ·have ln:A7 HP i=some b:=hi
   by_cases hex:∃j,j<m1∧ρ j=i
   ·obtain⟨j,hj,rfl⟩:=hex
    rw[nG j hj,Option.map_eq_some_iff]at ln
    obtain⟨c1,oD,rfl⟩:=ln
    rcases lK j c1 k oD (rz hj hk)with h|h
    ·exact pg k h
    ·have h1:=hs.fr.size
     exact⟨fun hx=>by have:=hs.X k hx;omega,.inr (by omega)⟩
   ·have lG:∀j,j<m1→ρ j≠i:=fun j hj he=>hex ⟨j,hj,he⟩
    rw[nS i lG]at ln
    exact hs.mine i b k ln (rZ lG hk)
  ·have ld:i<σ.nx:=by have:=hs.base.1;omega
   show Θ i=_∨_∧¬Kept HP i
   by_cases hex:∃j,j<m1∧ρ j=i
   ·obtain⟨j,hj,rfl⟩:=hex
    have mc:=pd j hj ld
    have h1:=lV j mc
    have h2:θc j=θ (ρ j):=by rw[pI j mc]
    rw[h2]at h1
    rw[tJ j hj]
    by_cases hkp:Kept HP (ρ j)
    ·obtain⟨e,sz,v,l,hl,hk⟩:=hkp
     have lk:=hl
     rw[nG j hj,Option.map_eq_some_iff]at lk
     obtain⟨b,hb,nD⟩:=lk
     cases b with
     |bx _ _=>cases nD
     |map _=>cases nD
     |it _ _=>cases nD
     |row e1 qA v1 l1 =>
      simp only[x4]at nD
      cases nD
      have uc:=h1.resolve_right fun h=>h.2 ⟨_,_,_,_,hb,hk⟩
      obtain⟨e0,v0,l0,h0,sO⟩:=(lE j mc).2 _ _ _ _ hb
      have h3:=nu j mc _ _ _ _ h0
      rw[uc]
      rcases hs.base.2 (ρ j) hi with h4|⟨_,h4⟩
      ·exact .inl h4
      ·exact absurd ⟨_,_,_,_,(by rw[pI j mc];exact h3),sO.symm.trans hk⟩ h4
    ·rcases h1 with h1|⟨⟨x,m,k,h1⟩,_⟩
     ·rw[h1]
      exact(hs.base.2 _ hi).imp id fun h=>⟨h.1,hkp⟩
     ·rcases hs.base.2 _ hi with h4|⟨h4,_⟩
      ·exact .inr ⟨⟨x,m,k,by rw[←h4,h1]⟩,hkp⟩
      ·exact .inr ⟨h4,hkp⟩
   ·have lG:∀j,j<m1→ρ j≠i:=fun j hj he=>hex ⟨j,hj,he⟩
    rw[tq i lG]
    refine(hs.base.2 i hi).imp id fun ⟨h1,h2⟩=>⟨h1,fun ⟨e,sz,v,l,hl,hk⟩=>h2 ⟨e,sz,v,l,?_,hk⟩⟩
    rw[←nS i lG];exact hl
 exact⟨v,Θ,rfl,rc,NS ren hv,lP,fun k hk lG=>mX k hk fun ho=>lG (sZ k ho)⟩
theorem Ir{f:Nat}{g:Operand}{xs:List Operand}{ts:Array TypeId}{L args caps capF:List AV}{r:AV}{m0 m1:Nat}{kv hp1:Hp}(ι off:List Nat)(hc:A9 P f m0 kv args m1 hp1 r)
  (hg:(capF=[]∧caps=[]∧g=.func f)∨(capF=[]∧f<Ee∧H1 σ g=some (.fo f caps))∨(caps=[]∧H1 σ g=some (.fo (Ee+f) capF))) (nV:s9 (H1 σ) xs=some L) (hL:Cf (N6 ι) (N6 off) args=capF++L++caps) (lO:b9 m0 args=true) (hι:Nat.beq ι.length m0=true) (pX:EM ι σ.nx=true) (mC:Et σ.hp kv ι off m0) (lE:CP kv hp1 m0=true)
  (oI:K9 m0 kv=true) (mI:K9 m1 hp1=true) (hm:Nat.ble m0 m1=true) (hd:Nat.blt d n=true)
  (k:B5 P E n ops rest (St.put ⟨σ.sl,σ.nx+(m1-m0),c7 (gρ ι m0 σ.nx) (gs ι m0 σ.hp) hp1++σ.hp⟩ d (Q1 (gρ ι m0 σ.nx) (gs ι m0 σ.hp) r)) K) :
  B5 P E n ops (⟨some d,.call ⟨.value g,⟨xs⟩,ts⟩,ty,pos,after,none⟩::rest) σ K:=by
 intro a w ⟨θ,hs⟩
 obtain⟨hl,sN⟩:=Ba hs.evT xs L nV
 let C:=cx E θ σ w
 obtain⟨cf,cs,mw,mU,sV,ku,nw⟩:∃cf cs:List Value,a.eval g=.func (.func f) cf.toArray cs.toArray∧capF.length=cf.length∧(∀(j:Nat) x c,capF[j]?=some x→cf[j]?=some c→G2 C x c)∧caps.length=cs.length∧∀(j:Nat) x c,caps[j]?=some x→cs[j]?=some c→G2 C x c:=by
  rcases hg with ⟨rfl,rfl,rfl⟩|⟨rfl,hf,hg⟩|⟨rfl,hg⟩
  ·exact⟨[],[],rfl,rfl,fun j x c hx=>by simp at hx,rfl,fun j x c hx=>by simp at hx⟩
  ·have:=hs.ev hg
   generalize a.eval g=v at this
   cases this with
   |im hi=>cases hi
   |fo f l cs hl hc=>exact⟨[],cs,by unfold Pl;rw[if_pos hf],rfl,fun j x c hx=>by simp at hx,hl,hc⟩
  ·have:=hs.ev hg
   generalize a.eval g=v at this
   generalize hF:Ee+f=F at this
   cases this with
   |im hi=>cases hi
   |fo F l cs hl hc=>exact⟨cs,[],by unfold Pl;rw[if_neg (by omega),←hF,Nat.add_sub_cancel_left],hl,hc,rfl,fun j x c hx=>by simp at hx⟩
 have uA:L.length=(xs.map a.eval).length:=by rw[List.length_map,←hl]
 have hr:∀(j:Nat) x v,(capF++L++caps)[j]?=some x→(cf++xs.map a.eval++cs)[j]?=some v→G2 C x v :=
  XM (by rw[List.length_append,List.length_append,mU,uA]) (XM mU sV sN) nw
 unfold wpList
 rw[if_pos (by simp[Region.wanted])]
 left
 simp only[Oper.wp]
 rw[Wo hc.1 mw]
 simp only[Oper.upon]
 rw[show cf.toArray++(xs.map a.eval).toArray++cs.toArray=(cf++xs.map a.eval++cs).toArray by simp]
 refine Calls.mono (VR (Cl:=fun vs w R=>Calls P f vs.toArray w R) (fun h hr=>Calls.mono h hr) (args:=args) (r:=r) (hp1:=hp1) ι off hs (by rw[List.length_append,List.length_append,List.length_append,List.length_append,uA,mU,ku]) hr hL lO hι pX mC lE oI mI hm fun X θc hX ht hb _ _ _ hl hv=>hc.2 X θc w _ hX ht hb hl hv) ?_
 rintro e w' ⟨v,Θ,rfl,rc,mG,_⟩
 exact k _ _ ⟨Θ,rc.put (Nat.blt_eq▸hd) mG⟩
theorem Ct{f:Nat}{xs:List Operand}{ts:Array TypeId}{L args:List AV}{r:AV}{m0 m1:Nat}{kv hp1:Hp}(ι off:List Nat)(hc:A9 P f m0 kv args m1 hp1 r)
  (nV:s9 (H1 σ) xs=some L) (hL:Cf (N6 ι) (N6 off) args=L) (lO:b9 m0 args=true) (hι:Nat.beq ι.length m0=true) (pX:EM ι σ.nx=true) (mC:Et σ.hp kv ι off m0) (lE:CP kv hp1 m0=true)
  (oI:K9 m0 kv=true) (mI:K9 m1 hp1=true) (hm:Nat.ble m0 m1=true) (hd:Nat.blt d n=true)
  (k:B5 P E n ops rest (St.put ⟨σ.sl,σ.nx+(m1-m0),c7 (gρ ι m0 σ.nx) (gs ι m0 σ.hp) hp1++σ.hp⟩ d (Q1 (gρ ι m0 σ.nx) (gs ι m0 σ.hp) r)) K) :
  B5 P E n ops (⟨some d,.call ⟨.value (.func f),⟨xs⟩,ts⟩,ty,pos,after,none⟩::rest) σ K :=
 Ir (caps:=[]) (capF:=[]) ι off hc (.inl ⟨rfl,rfl,rfl⟩) nV (by rw[List.append_nil,List.nil_append];exact hL) lO hι pX mC lE oI mI hm hd k
theorem C4{f:Nat}{xs:List Operand}{ts:Array TypeId}{L args:List AV}{r:AV}{m0 m1:Nat}{kv hp1:Hp}(ι off:List Nat)(hc:A9 P f m0 kv args m1 hp1 r)
  (nV:s9 (H1 σ) xs=some L) (hL:Cf (N6 ι) (N6 off) args=L) (lO:b9 m0 args=true) (hι:Nat.beq ι.length m0=true) (pX:EM ι σ.nx=true) (mC:Et σ.hp kv ι off m0) (lE:CP kv hp1 m0=true)
  (oI:K9 m0 kv=true) (mI:K9 m1 hp1=true) (hm:Nat.ble m0 m1=true) (hd:Nat.blt d n=true)
  (k:V9 (Q1 (gρ ι m0 σ.nx) (gs ι m0 σ.hp) r) fun r2=>Y7 (c7 (gρ ι m0 σ.nx) (gs ι m0 σ.hp) hp1++σ.hp) fun nZ=>J5 (σ.nx+(m1-m0)) fun pi=>B5 P E n ops rest (St.put ⟨σ.sl,pi,nZ⟩ d r2) K) :
  B5 P E n ops (⟨some d,.call ⟨.value (.func f),⟨xs⟩,ts⟩,ty,pos,after,none⟩::rest) σ K :=
 Ct ι off hc nV hL lO hι pX mC lE oI mI hm hd (F8 (Y8 (DG k)))
theorem Tr{f:Nat}{g:Operand}{xs:List Operand}{ts:Array TypeId}{L args caps:List AV}{r:AV}{m0 m1:Nat}{kv hp1:Hp}(ι off:List Nat)(hc:A9 P f m0 kv args m1 hp1 r)
  (hg:H1 σ g=some (.fo f caps)) (nV:s9 (H1 σ) xs=some L) (hL:Cf (N6 ι) (N6 off) args=L++caps) (lO:b9 m0 args=true) (hι:Nat.beq ι.length m0=true) (pX:EM ι σ.nx=true) (mC:Et σ.hp kv ι off m0) (lE:CP kv hp1 m0=true)
  (oI:K9 m0 kv=true) (mI:K9 m1 hp1=true) (hm:Nat.ble m0 m1=true) (hd:Nat.blt d n=true)
  (k:V9 (Q1 (gρ ι m0 σ.nx) (gs ι m0 σ.hp) r) fun r2=>Y7 (c7 (gρ ι m0 σ.nx) (gs ι m0 σ.hp) hp1++σ.hp) fun nZ=>J5 (σ.nx+(m1-m0)) fun pi=>B5 P E n ops rest (St.put ⟨σ.sl,pi,nZ⟩ d r2) K) (hf:Nat.blt f Ee=true:=by rfl) :
  B5 P E n ops (⟨some d,.call ⟨.value g,⟨xs⟩,ts⟩,ty,pos,after,none⟩::rest) σ K :=
 Ir (capF:=[]) ι off hc (.inr (.inl ⟨rfl,by simpa using hf,hg⟩)) nV (by rw[List.nil_append];exact hL) lO hι pX mC lE oI mI hm hd (F8 (Y8 (DG k)))
theorem FR{f:Nat}{xs:List Operand}{caps l:List AV}(ha:s9 (H1 σ) xs=some caps)(hd:Nat.blt d n=true)(k:B5 P E n ops rest (σ.put d (.fo f caps)) K)(hf:Nat.blt f Ee=true:=by rfl):
  n6 P E n ops ⟨some d,.makeFunc (.func f) ⟨[]⟩ ⟨xs⟩,ty,pos,after,none⟩ rest l σ K :=
 ⟨IQ (QI ha (by simpa using hf)) hd k⟩
theorem FS{f:Nat}{xs:List Operand}{caps l:List AV}(ha:s9 (H1 σ) xs=some caps)(hd:Nat.blt d n=true)(k:B5 P E n ops rest (σ.put d (.fo (Ee+f) caps)) K):
  n6 P E n ops ⟨some d,.makeFunc (.func f) ⟨xs⟩ ⟨[]⟩,ty,pos,after,none⟩ rest l σ K :=
 ⟨IQ (QJ ha) hd k⟩
theorem Ts{f:Nat}{g:Operand}{xs:List Operand}{ts:Array TypeId}{L args caps:List AV}{r:AV}{m0 m1:Nat}{kv hp1:Hp}(ι off:List Nat)(hc:A9 P f m0 kv args m1 hp1 r)
  (hg:H1 σ g=some (.fo (Ee+f) caps)) (nV:s9 (H1 σ) xs=some L) (hL:Cf (N6 ι) (N6 off) args=caps++L) (lO:b9 m0 args=true) (hι:Nat.beq ι.length m0=true) (pX:EM ι σ.nx=true) (mC:Et σ.hp kv ι off m0) (lE:CP kv hp1 m0=true)
  (oI:K9 m0 kv=true) (mI:K9 m1 hp1=true) (hm:Nat.ble m0 m1=true) (hd:Nat.blt d n=true)
  (k:V9 (Q1 (gρ ι m0 σ.nx) (gs ι m0 σ.hp) r) fun r2=>Y7 (c7 (gρ ι m0 σ.nx) (gs ι m0 σ.hp) hp1++σ.hp) fun nZ=>J5 (σ.nx+(m1-m0)) fun pi=>B5 P E n ops rest (St.put ⟨σ.sl,pi,nZ⟩ d r2) K) :
  B5 P E n ops (⟨some d,.call ⟨.value g,⟨xs⟩,ts⟩,ty,pos,after,none⟩::rest) σ K :=
 Ir (caps:=[]) ι off hc (.inr (.inr ⟨rfl,hg⟩)) nV (by rw[List.append_nil];exact hL) lO hι pX mC lE oI mI hm hd (F8 (Y8 (DG k)))
end rules
section pure
variable {P:Program} {E:Env} {nx:Nat} {hp:Hp} {ev:Operand→Option AV} {ty:TypeId} {x y:Operand} {F:AV→Prop} {T T2:TypeId}
theorem gH{av:AV}(hx:ev x=some av):ER P E nx hp ev (.move x) ty av:=fun _ _ _ _ _ _ h=>⟨_,fun _=>rfl,h.rel hx⟩
theorem Zj{av:AV}(hx:ev x=some av):ER P E nx hp ev (.assign x) ty av:=fun _ _ _ _ _ _ h=>⟨_,fun _=>rfl,h.rel hx⟩
theorem Qc{op:BinOp}{k:IntKind}{a b:Int}{r:Value}(hx:ev x=some (.v (.int k a)))(hy:ev y=some (.v (.int k b)))(hr:Cz op k a b=some r):
  ER P E nx hp ev (.binOp op T x y T2) ty (.v r) :=
 fun _ _ _ _ _ _ h=>⟨r,fun w=>P2 (by rw[(h.rel hx).val,(h.rel hy).val];exact BC ..) (by rw[(h.rel hx).val,(h.rel hy).val];exact Pt hr T w),.im (.v _)⟩
theorem gI{a b:List UInt8}(hx:ev x=some (.str a))(hy:ev y=some (.str b))(hr:a.length+b.length≤9223372036854775807):
  ER P E nx hp ev (.binOp .add T x y T2) ty (.str (a++b)) :=
 fun _ _ _ _ _ _ h=>⟨_,fun w=>P2 (by rw[(h.rel hx).sval,(h.rel hy).sval];exact GN ..) (by rw[(h.rel hx).sval,(h.rel hy).sval];exact Pu hr T w),.im (.str _)⟩
theorem Sx{S f off sz:Nat}[tf:J6 P S f off sz]{i o:Nat}(hx:ev x=some (.ref i o))(hz:Nat.blt 0 sz=true):ER P E nx hp ev (.fieldAddr S x f) ty (.ref i (o+off)) :=
 fun _ _ _ θ a w h=>by
  obtain⟨b,hθ,hv,ld⟩:=X4 (h.rel hx)
  refine⟨.pointer (some ⟨b,o+off,none⟩),fun w=>?_,.ref i _ b ld hθ⟩
  simp only[execOp,hv,Sem.run_bind,BD (P:=P) (S:=S) (f:=f) (off:=off) (sz:=sz) (Nat.blt_eq▸hz),Result.andThen_ok,addr_add]
  rfl
theorem Qd{S f off sz:Nat}[tf:J6 P S f off sz]{l:List AV}(hx:ev x=some (.iptr l))(hz:Nat.blt 0 sz=true):ER P E nx hp ev (.fieldAddr S x f) ty (.iptr (l.drop off)) :=
 fun _ _ _ θ a w h=>by
  obtain⟨p,g,hv,hu,hc,hr⟩:=Dk (h.rel hx)
  refine⟨.pointer (some (p.add off)),fun w=>?_,.im (.iptr _ _ (fun j=>g (off+j)) (fun hne=>?_) (fun j hj=>?_) fun j u oR=>?_)⟩
  ·simp only[execOp,hv,Sem.run_bind,BD (P:=P) (S:=S) (f:=f) (off:=off) (sz:=sz) (Nat.blt_eq▸hz),Result.andThen_ok]
   rfl
  ·rw[Z0];exact hu (by rintro rfl;simp at hne)
  ·rw[Dl];exact hc _ (by simp at hj;omega)
  ·rw[List.getElem?_drop]at oR;exact hr _ _ oR
theorem Sy{S f off sz:Nat}[tf:J6 P S f off sz]{i ver k o e sb:Nat}{l:List (List AV)}(hx:ev x=some (.elt i ver k o))(hb:A7 hp i=some (.row e sb ver l))(hz:Nat.blt 0 sz=true):ER P E nx hp ev (.fieldAddr S x f) ty (.elt i ver k (o+off)) :=
 fun _ _ _ θ a w h=>by
  obtain⟨g,m,cap,hθ,hv,ld⟩:=Cn (h.rel hx) hb
  refine⟨.pointer (some ⟨g,k*sb+o+off,none⟩),fun w=>?_,.elt i ver k _ _ ld fun e' kw v' l' nk=>?_⟩
  ·simp only[execOp,hv,Sem.run_bind,BD (P:=P) (S:=S) (f:=f) (off:=off) (sz:=sz) (Nat.blt_eq▸hz),Result.andThen_ok,addr_add]
   rfl
  ·have:A7 hp i=some (.row e' kw v' l'):=nk
   rw[hb]at this
   cases this
   exact⟨Nat.le_refl _,fun _=>⟨g,m,cap,hθ,by rw[Nat.add_assoc]⟩⟩
theorem jU{b:Bool}(hx:ev x=some (.v (.bool b))):ER P E nx hp ev (.unOp .not T x) ty (.v (.bool (!b))) :=
 fun _ _ _ _ _ _ h=>⟨_,fun w=>by simp[execOp,Op.unary,(h.rel hx).val,Sem.run_bind,Sem.run_pure],.im (.v _)⟩
theorem XN[ts:s8 P T]{l:List UInt8}(hx:ev x=some (.str l)):ER P E nx hp ev (.call ⟨.builtin .len,#[x],#[T]⟩) ty (.i l.length) :=
 fun _ _ _ _ _ _ h=>⟨_,fun w=>by rw[Z6,(h.rel hx).sval];simp[builtin,run_len_string w T ty _ ts.out,Sem.run_bind,Sem.run_pure,goInt,ByteArray.size],.im (.v _)⟩
theorem Zk{e sz:Nat}[ts:Q4 P T e sz]{kw:Nat}{l:List (List AV)}(hx:ev x=some (.sl kw l)):ER P E nx hp ev (.call ⟨.builtin .len,#[x],#[T]⟩) ty (.i l.length) :=
 fun _ _ _ _ _ _ h=>by
  obtain⟨_,p,cap,hv⟩:=Wk (h.rel hx)
  exact⟨_,fun w=>by rw[Z6,hv];simp[builtin,run_len_slice ts.out.1,Sem.run_bind,Sem.run_pure],.im (.v _)⟩
theorem XO{e sz:Nat}[ts:Q4 P T e sz]{i ver len e' kw:Nat}{l:List (List AV)}(hx:ev x=some (.row i ver len))(hb:A7 hp i=some (.row e' kw ver l)):ER P E nx hp ev (.call ⟨.builtin .len,#[x],#[T]⟩) ty (.i len) :=
 fun _ _ _ θ a w h=>by
  obtain⟨hl,hv,_⟩:=BE (h.rel hx) hb
  obtain⟨xs,ko,_⟩:=h.row hb
  obtain⟨p,cap,hs,_⟩:=x9 ko
  have mN:a.eval x=.slice p l.length cap:=by rw[hv];exact hs
  exact⟨_,fun w=>by rw[Z6,mN,hl];simp[builtin,run_len_slice ts.out.1,Sem.run_bind,Sem.run_pure],.im (.v _)⟩
theorem Sz{e sz:Nat}[ts:Q4 P T e sz]{i ver len e':Nat}{l:List (List AV)}{k:IntKind}{j:Int}(hx:ev x=some (.row i ver len))(hb:A7 hp i=some (.row e' sz ver l))(hy:ev y=some (.v (.int k j)))(h0:0≤j)(h1:j<len):
  ER P E nx hp ev (.indexAddr T x y) ty (.elt i ver j.toNat 0) :=
 fun _ _ _ θ a w h=>by
  obtain⟨hl,hv,ld⟩:=BE (h.rel hx) hb
  obtain⟨xs,ko,hsz,_⟩:=h.row hb
  have hj:=(h.rel hy).val
  rcases ko.2 with ⟨hθ,hn⟩|⟨g,cap,kz,hθ,_,hg,_⟩
  ·omega
  ·have mN:a.eval x=.slice (some ⟨g,0,none⟩) l.length cap:=by rw[hv];exact hθ
   refine⟨.pointer (some ⟨g,j.toNat*sz,none⟩),fun w=>?_,.elt i ver _ 0 _ ld fun e2 ol v2 l2 lk=>?_⟩
   ·simp only[execOp,mN,hj,Sem.run_bind]
    rw[EG (P:=P) (T:=T) (e:=e) (sz:=sz) h0 (by omega),addr_add,Nat.zero_add]
    rfl
   ·have:A7 hp i=some (.row e2 ol v2 l2):=lk
    rw[hb]at this
    cases this
    exact⟨Nat.le_refl _,fun _=>⟨g,l.length,cap,hθ,by simp⟩⟩
theorem VS{e sz:Nat}[ts:Q4 P T e sz]{l:List (List AV)}{k:IntKind}{i:Int}{el:List AV}(hx:ev x=some (.sl sz l))(hy:ev y=some (.v (.int k i)))(h0:0≤i)(ke:l[i.toNat]?=some el):ER P E nx hp ev (.indexAddr T x y) ty (.iptr el) :=
 fun _ _ _ θ a w h=>by
  have kj:i.toNat<l.length:=(List.getElem?_eq_some_iff.1 ke).1
  have hi:=(h.rel hy).val
  rcases Gg (h.rel hx)with ⟨_,e⟩|⟨p,cap,f,hv,h3,h4,h5,h6,h7,h8⟩
  ·subst e;simp at kj
  ·have hsz:=h6 _ (List.mem_of_getElem? ke)
   refine⟨.pointer (some (p.add (i.toNat*sz))),fun w=>?_,.im (.iptr _ _ (f i.toNat) (fun hne=>?_) (fun j hj=>?_) fun j u hu=>h8 _ _ ke j u hu)⟩
   ·simp only[execOp,hv,hi,Sem.run_bind]
    rw[EG (P:=P) (T:=T) (e:=e) (sz:=sz) h0 (by omega)]
    rfl
   ·rw[Z0]
    refine h5 (by intro e;simp[e]at kj) ?_
    have h9:=List.length_pos_iff.2 hne
    omega
   ·rw[Dl]
    exact h7 _ kj _ (by omega)
def Zl:Op→Bool
 |.move _|.assign _|.fieldAddr ..|.build ..=>true
 |.binOp .quo ..|.binOp .rem ..|.binOp .shl ..|.binOp .shr ..=>false
 |.binOp ..=>true
 |_=>false
def gJ(ev:Operand→Option AV):Op→Bool
 |.indexAddr _ x _=>match ev x with
  |some (.row ..)=>true
  |some (.sl ..)=>true
  |_=>false
 |.call ⟨.builtin .len,⟨[x]⟩,_⟩=>match ev x with
  |some (.row ..)=>true
  |some (.sl ..)=>true
  |some (.str ..)=>true
  |_=>false
 |.unOp .not _ x=>match ev x with
  |some (.v (.bool _))=>true
  |_=>false
 |op=>Zl op
def PV(P:Program)(op:Op)(ev:Operand→Option AV)(hp:Hp)(F:AV→Prop):Prop :=
 match op with
 |.move x=>Y5 (ev x) F
 |.assign x=>Y5 (ev x) F
 |.binOp op _ x y _=>match op,ev x,ev y with
  |.add,some (.v (.int .i64 a)),some (.v (.int .i64 b))=>H8 (-9223372036854775808≤a+b∧a+b≤9223372036854775807) (F (.v (.int .i64 (a+b))))
  |.sub,some (.v (.int .i64 a)),some (.v (.int .i64 b))=>H8 (-9223372036854775808≤a-b∧a-b≤9223372036854775807) (F (.v (.int .i64 (a-b))))
  |.add,some (.str a),some (.str b)=>H8 (a.length+b.length≤9223372036854775807) (F (.str (a++b)))
  |op,some (.v (.int k a)),some (.v (.int k' b))=>cond (decide (k=k')) (match Cz op k a b with
   |some r=>F (.v r)
   |none=>False) False
  |_,_,_=>False
 |.fieldAddr S x f=>NO P S f fun off sz=>cond (Nat.blt 0 sz) (match ev x with
  |some (.ref i o)=>F (.ref i (o+off))
  |some (.iptr l)=>F (.iptr (l.drop off))
  |some (.elt i ver k o)=>(match A7 hp i with
   |some (.row _ _ lQ _)=>H8 (ver=lQ) (F (.elt i ver k (o+off)))
   |_=>False)
  |_=>False) False
 |.build T ⟨parts⟩=>match CM ev parts with
  |some ps=>Ie P T fun zs pl=>ET hp ps (Y5 ((CU pl zs ps).map AV.agg) F)
  |none=>False
 |.indexAddr T x y=>(match ev x,ev y with
  |some (.sl sz l),some (.v (.int _ i))=>IJ P T fun _ kw=>cond (Nat.beq sz kw) (S7 l i fun el=>F (.iptr el)) False
  |some (.row r ver len),some (.v (.int _ i))=>(match A7 hp r with
   |some (.row _ sz lQ _)=>H8 (ver=lQ) (IJ P T fun _ kw=>cond (Nat.beq sz kw) (H8 (0≤i∧i<len) (F (.elt r ver i.toNat 0))) False)
   |_=>False)
  |_,_=>False)
 |.call ⟨.builtin .len,⟨[x]⟩,⟨[T]⟩⟩=>(match ev x with
  |some (.sl _ l)=>IJ P T fun _ _=>NN l fun m=>F (.i m)
  |some (.str s)=>EJ P T (F (.i s.length))
  |some (.row r ver len)=>(match A7 hp r with
   |some (.row _ _ lQ _)=>H8 (ver=lQ) (IJ P T fun _ _=>F (.i len))
   |_=>False)
  |_=>False)
 |.unOp .not _ x=>(match ev x with
  |some (.v (.bool b))=>F (.v (.bool (!b)))
  |_=>False)
 |_=>False
theorem jr{op:Op}(h:PV P op ev hp F):∃av,ER P E nx hp ev op ty av∧F av:=by
 unfold PV at h
 split at h
 ·obtain⟨a,hx,h⟩:=L2 h;exact⟨a,gH hx,h⟩
 ·obtain⟨a,hx,h⟩:=L2 h;exact⟨a,Zj hx,h⟩
 ·split at h
  ·rename_i hx hy;exact⟨_,Qc hx hy (by simp only[Cz,W5 h.h]),h.k⟩
  ·rename_i hx hy;exact⟨_,Qc hx hy (by simp only[Cz,W5 h.h]),h.k⟩
  ·rename_i hx hy;exact⟨_,gI hx hy h.h,h.k⟩
  ·rename_i hx hy
   obtain⟨hk,hq⟩:=cond_false h
   have hk:=of_decide_eq_true hk
   subst hk
   split at hq
   ·rename_i hr;exact⟨_,Qc hx hy hr,hq⟩
   ·exact hq.elim
  ·exact h.elim
 ·obtain⟨⟨off,sz,tf,h⟩⟩:=h
  obtain⟨hz,h⟩:=cond_false h
  split at h
  ·rename_i hx;exact⟨_,Sx (off:=off) (sz:=sz) hx hz,h⟩
  ·rename_i hx;exact⟨_,Qd (off:=off) (sz:=sz) hx hz,h⟩
  ·rename_i hx
   split at h
   ·rename_i hb
    obtain⟨rfl,h⟩:=h
    exact⟨_,Sy (off:=off) (sz:=sz) hx hb hz,h⟩
   ·exact h.elim
  ·exact h.elim
 ·split at h
  ·rename_i ps pu
   obtain⟨⟨zs,pl,tz,tp,h⟩⟩:=h
   obtain⟨hf,h⟩:=AG h
   obtain⟨a,ha,h⟩:=L2 h
   rw[Option.map_eq_some_iff]at ha
   obtain⟨l,hl,rfl⟩:=ha
   exact⟨_,Tj (T:=_) pu hf hl,h⟩
  ·exact h.elim
 ·split at h
  ·rename_i hx hy
   obtain⟨⟨e,kw,ts,h⟩⟩:=h
   obtain⟨hc,hq⟩:=cond_false h
   have hc:=Nat.eq_of_beq_eq_true hc
   subst hc
   obtain⟨h0,h1,hk⟩:=hq
   rename_i sz l kk i
   have kj:i.toNat<l.length:=by omega
   have ke:l[i.toNat]?=some l[i.toNat]:=List.getElem?_eq_getElem kj
   exact⟨_,VS (e:=e) hx hy h0 ke,hk _ ke⟩
  ·rename_i hx hy
   split at h
   ·rename_i hb
    obtain⟨rfl,h⟩:=h
    obtain⟨⟨e,kw,ts,h⟩⟩:=h
    obtain⟨hc,hq⟩:=cond_false h
    have hc:=Nat.eq_of_beq_eq_true hc
    subst hc
    exact⟨_,Sz (e:=e) hx hb hy hq.h.1 hq.h.2,hq.k⟩
   ·exact h.elim
  ·exact h.elim
 ·split at h
  ·rename_i hx
   obtain⟨⟨e,kw,ts,h⟩⟩:=h
   exact⟨_,Zk (e:=e) (sz:=kw) hx,h.k⟩
  ·rename_i hx
   obtain⟨ts,h⟩:=h
   exact⟨_,XN hx,h⟩
  ·rename_i hx
   split at h
   ·rename_i hb
    obtain⟨rfl,h⟩:=h
    obtain⟨⟨e,kw,ts,h⟩⟩:=h
    exact⟨_,XO (e:=e) (sz:=kw) hx hb,h⟩
   ·exact h.elim
  ·exact h.elim
 ·split at h
  ·rename_i hx;exact⟨_,jU hx,h⟩
  ·exact h.elim
 ·exact h.elim
end pure
def BF(ops:Array Oper):List (List Nat):=ops.toList.map fun o=>(o.after.toList.filter fun e=>Region.binds .any e).map (·.on)
def Af(all:List Bool):Nat→List (List Nat)→List Bool→List Nat
 |k,e::es,b::bs=>cond b (Af all (k+1) es bs) (cond (e.all fun j=>all.getD j false) (k::Af all (k+1) es bs) (Af all (k+1) es bs))
 |_,_,_=>[]
theorem DH{all:List Bool}:∀(es:List (List Nat)) (bs:List Bool) (k i:Nat),i∈Af all k es bs↔∃j e,i=k+j∧es[j]?=some e∧bs[j]?=some false∧(∀x∈e,all.getD x false=true)
 |[],bs,k,i=>by simp[Af]
 |e::es,[],k,i=>by simp[Af]
 |e::es,b::bs,k,i=>by
  have ih:=DH (all:=all) es bs (k+1) i
  have key:(∃j e',i=k+j∧(e::es)[j]?=some e'∧(b::bs)[j]?=some false∧(∀x∈e',all.getD x false=true))↔(i=k∧b=false∧∀x∈e,all.getD x false=true)∨i∈Af all (k+1) es bs:=by
   rw[ih]
   constructor
   ·rintro ⟨j,e',h1,h2,h3,h4⟩
    cases j with
    |zero=>simp at h2 h3;subst h2;exact .inl ⟨by omega,h3,h4⟩
    |succ j=>exact .inr ⟨j,e',by omega,by simpa using h2,by simpa using h3,h4⟩
   ·rintro (⟨h1,h2,h3⟩|⟨j,e',h1,h2,h3,h4⟩)
    ·exact⟨0,e,by omega,rfl,by simp[h2],h3⟩
    ·exact⟨j+1,e',by omega,by simpa using h2,by simpa using h3,h4⟩
  rw[key]
  have lC:(e.all fun j=>all.getD j false)=true↔∀x∈e,all.getD x false=true:=by rw[List.all_eq_true]
  cases b with
  |true=>simp[Af]
  |false =>
   simp only[Af,Bool.cond_false]
   cases ha:e.all fun j=>all.getD j false with
   |true =>
    rw[ha]at lC
    simp only[true_iff]at lC
    simp only[Bool.cond_true,List.mem_cons]
    constructor
    ·intro h
     rcases h with h|h
     ·exact Or.inl ⟨h,by first|trivial|rfl,by first|exact lC|trivial⟩
     ·exact Or.inr h
    ·intro h
     rcases h with h|h
     ·exact Or.inl h.1
     ·exact Or.inr h
   |false =>
    rw[ha]at lC
    simp only[Bool.false_eq_true,false_iff]at lC
    simp only[Bool.cond_false]
    constructor
    ·exact Or.inr
    ·intro h
     rcases h with h|h
     ·exact absurd h.2.2 lC
     ·exact h
theorem Bf{ops:Array Oper}{l:List Bool}(hl:l.length=ops.size)(i:Nat):i∈Region.ready .any ops l.toArray↔i∈Af l 0 (BF ops) l:=by
 rw[mem_ready,DH]
 constructor
 ·rintro ⟨h1,o,ho,h2⟩
  have kj:i<ops.size:=(Array.getElem?_eq_some_iff.1 ho).1
  refine⟨i,_,by omega,by simp[BF,ho];rfl,?_,?_⟩
  ·have mf:i<l.length:=by omega
   simp[mf]at h1 ⊢
   exact h1
  ·intro x hx
   simp only[List.mem_map,List.mem_filter,Array.mem_toList_iff]at hx
   obtain⟨e,⟨he,hb⟩,rfl⟩:=hx
   have:=h2 e he hb
   simpa using this
 ·rintro ⟨j,e,h0,h1,h2,h3⟩
  have:j=i:=by omega
  subst this
  simp only[BF,List.getElem?_map,Option.map_eq_some_iff,Array.getElem?_toList]at h1
  obtain⟨o,ho,rfl⟩:=h1
  refine⟨by simp[h2],o,ho,fun e he hb=>?_⟩
  have:=h3 e.on (List.mem_map.2 ⟨e,List.mem_filter.2 ⟨by simpa using he,hb⟩,rfl⟩)
  simpa using this
theorem LD{P:Program}{o:Oper}{a:Act}{w:World}{K K':Act→World→Prop}{Q Q':Exit→Act→World→Prop}(hQ:∀e a w,Q e a w→e=.normal)(h:∀a w,K a w→K' a w)(hh:o.wp P a w K Q):o.wp P a w K' Q':=by
 unfold Oper.wp at *
 generalize (execOp a.eval o).run P w=r at *
 cases r with
 |ok n w' =>
  cases n<;>simp only[Oper.upon]at hh ⊢ <;>
   first
    |exact h _ _ hh
    |exact Calls.mono hh (fun e rC he=>by
      cases e with
      |returned v=>exact h _ _ he
      |panicked c=>exact absurd (hQ _ _ _ he) (by simp)
      |outgrown=>obtain⟨a,w,hx⟩:=he;exact absurd (hQ _ _ _ hx) (by simp))
    |exact Rows.mono hh (fun _ _ he=>h _ _ he)
 |halt x w' =>
  cases x<;>simp only[Oper.upon]at hh ⊢
  exact absurd (hQ _ _ _ hh) (by simp)
theorem NT{P:Program}{ops:Array Oper}{Q Q':Exit→Act→World→Prop}(hQ:∀e a w,Q e a w→e=.normal)(h:∀a w,Q .normal a w→Q' .normal a w):∀(kn:Nat) (listed:Array Bool) (a:Act) (w:World),wpAny P .any ops Q kn listed a w→wpAny P .any ops Q' kn listed a w:=by
 intro kn
 induction kn with
 |zero=>intro l a w hx;exact⟨hx.1,h a w hx.2⟩
 |succ kn ih =>
  intro l a w hx
  refine⟨fun hr=>h a w (hx.1 hr),fun i hi=>?_⟩
  have h1:=hx.2 i hi
  unfold wpOp at h1 ⊢
  split at h1
  ·exact ih _ _ _ h1
  ·split at h1
   ·rename_i hw
    rw[if_pos hw]
    rcases h1 with h1|⟨_,a1,w1,hx⟩
    ·exact .inl (LD hQ (fun a' w' hn=>ih _ _ _ hn) h1)
    ·exact absurd (hQ _ _ _ hx) (by simp)
   ·rename_i hw
    rw[if_neg hw]
    exact ih _ _ _ h1
section rules
variable {P:Program} {E:Env} {n:Nat} {ops:Array Oper} {σ:St} {K:St→Prop} {Q:Exit→St→Prop}
def E5(P:Program)(E:Env)(n:Nat)(ops:Array Oper)(kn:Nat)(l:List Bool)(σ:St)(K:St→Prop):Prop :=
 ∀a w,BS E n σ a w→wpAny P .any ops (fun e a' w'=>e=.normal∧∃σ',K σ'∧BS E n σ' a' w') kn l.toArray a w
def Zm(P:Program)(E:Env)(n:Nat)(ops:Array Oper)(kn:Nat)(l:List Bool)(σ:St)(K:St→Prop):List Nat→Prop
 |[]=>True
 |i::r=>(match ops[i]? with
  |some o=>B5 P E n ops [o] σ fun σ'=>E5 P E n ops kn (l.set i true) σ' K
  |none=>False)∧Zm P E n ops kn l σ K r
theorem Qe{kn:Nat}{l:List Bool}:∀{r:List Nat},Zm P E n ops kn l σ K r→∀i∈r,∃o,ops[i]?=some o∧B5 P E n ops [o] σ fun σ'=>E5 P E n ops kn (l.set i true) σ' K
 |[],_,i,hi=>by cases hi
 |j::r,h,i,hi=>by
  rcases List.mem_cons.1 hi with rfl|hi
  ·have:=h.1
   split at this
   ·rename_i o ho;exact⟨o,ho,this⟩
   ·exact this.elim
  ·exact Qe h.2 i hi
structure VT(P:Program)(E:Env)(n:Nat)(ops:Array Oper)(kn:Nat)(l:List Bool)(σ:St)(K:St→Prop)(r:List Nat):Prop where
 h:Zm P E n ops kn l σ K r
def Is(ev:Operand→Option AV)(ops:Array Oper)(l:List Bool):List Nat→Option Nat
 |[]=>none
 |i::r=>match ops[i]? with
  |some ⟨some _,op,_,_,_,none⟩=>cond (gJ ev op) (some i) (Is ev ops l r)
  |_=>Is ev ops l r
structure cU(p:Prop)(A:Prop):Prop where
 h:p
 k:A
def gK(P:Program)(E:Env)(n:Nat)(ops:Array Oper)(kn:Nat)(l:List Bool)(σ:St)(K:St→Prop):Prop :=
 match Af l 0 (BF ops) l with
 |[]=>K σ
 |i::r=>match kn with
  |0=>False
  |kn+1=>match Is (H1 σ) ops l (i::r)with
   |some i=>match ops[i]? with
    |some ⟨some d,op,_,_,_,none⟩=>cU (Region.free .any ops l.toArray i=true∧i∈Af l 0 (BF ops) l) (cond (Nat.blt d n) (PV P op (H1 σ) σ.hp fun av=>E5 P E n ops kn (l.set i true) (σ.put d av) K) False)
    |_=>False
   |none=>VT P E n ops kn l σ K (i::r)
theorem BG(l:List Bool)(i:Nat):l.toArray.setIfInBounds i true=(l.set i true).toArray:=by simp
theorem dN{kn:Nat}{l:List Bool}(xB:Region.noSelect ops=true)(hl:Nat.beq l.length ops.size=true)(h:gK P E n ops kn l σ K):E5 P E n ops kn l σ K:=by
 have hl:=Nat.eq_of_beq_eq_true hl
 unfold gK at h
 split at h
 ·rename_i hr
  intro a w hs
  have Gc:Region.ready .any ops l.toArray=[]:=by
   cases hx:Region.ready .any ops l.toArray with
   |nil=>rfl
   |cons i r=>have:=(Bf hl i).1 (by rw[hx];simp);rw[hr]at this;cases this
  exact wpAny_done Gc ⟨rfl,σ,h,hs⟩ _
 ·rename_i i r hr
  split at h
  ·exact h.elim
  ·rename_i kn
   split at h
   ·rename_i i' qd
    split at h
    ·rename_i d op ty pos after oC
     obtain⟨⟨hf,xG⟩,h⟩:=h
     obtain⟨hd,h⟩:=cond_false h
     obtain⟨av,hp,h⟩:=jr (E:=E) (nx:=σ.nx) (ty:=ty) h
     rintro a w ⟨θ,hs⟩
     obtain⟨v,nY,oe⟩:=hp (some d) pos after θ a w hs.evT
     refine wpAny_take oC xB hf (by simpa using (Bf hl i').2 xG) (fun c a w hc=>by cases hc.1) (v:=v) (.inl ⟨by simp[Region.wanted],nY⟩) ?_
     rw[BG]
     exact h _ _ ⟨θ,hs.put (Nat.blt_eq▸hd) oe⟩
    ·exact h.elim
   ·intro a w hs
    refine⟨fun Gc=>?_,fun j hj=>?_⟩
    ·have:=(Bf hl i).2 (by rw[hr];simp)
     rw[Gc]at this
     cases this
    ·have oU:=(Bf hl j).1 hj
     rw[hr]at oU
     obtain⟨o,ho,hA⟩:=Qe h.h j oU
     have hw:=hA a w hs
     unfold wpOp
     simp only[ho]
     unfold wpList at hw
     split
     ·rename_i nP
      rw[if_pos nP]at hw
      rcases hw with hw|⟨_,a1,w1,hx⟩
      ·refine .inl (LD (fun e a w h=>h.1) (fun a' w' hn=>?_) hw)
       obtain⟨_,σ',hk,mE⟩:=hn
       rw[BG]
       exact hk a' w' mE
      ·exact absurd hx.1 (by simp)
     ·rename_i nP
      rw[if_neg nP]at hw
      obtain⟨_,σ',hk,mE⟩:=hw
      rw[BG]
      exact hk _ _ mE
def AH(ops:Array Oper):List Bool:=ops.toList.map fun _=>false
theorem Bg{id:Nat}[hm:NQ P](S:St)(h:E5 P E n ops ops.size (AH ops) σ fun σ'=>St.le E n σ' S)(k:Q .normal S):EL P E n id ops σ Q:=by
 refine⟨fun a w ⟨θ,hs⟩=>wp_region_any hm.out ?_⟩
 have hb:Below w.heap.size w { w with drawn:=w.drawn+1 }:=Below.drew (Below.refl _ _)
 have h1:=h a { w with drawn:=w.drawn+1 } ⟨θ,hs.below hb⟩
 have e:(AH ops).toArray=Array.replicate ops.size false:=by
  apply Array.ext'
  simp[AH,List.map_const']
 rw[e]at h1
 exact NT (fun e a w hx=>hx.1) (fun a w hx=>by
  obtain⟨_,σ',nA,mE⟩:=hx
  exact⟨S,k,nA a w mE⟩) _ _ _ _ h1
theorem B4{σ1 σ2 σ3:St}(h:St.le E n σ1 σ2)(h':St.le E n σ2 σ3):St.le E n σ1 σ3:=fun a w hs=>h' a w (h a w hs)
theorem B9{σ1:St}:St.le E n σ1 σ1:=fun a w hs=>hs
def swp(i j k:Nat):Nat:=cond (Nat.beq k i) j (cond (Nat.beq k j) i k)
theorem Gl(i j k:Nat):swp i j k=if k=i then j else if k=j then i else k:=by
 unfold swp
 cases h1:Nat.beq k i with
 |true=>rw[if_pos (Nat.eq_of_beq_eq_true h1)];rfl
 |false =>
  have:k≠i:=by intro e;subst e;simp at h1
  rw[if_neg this]
  cases h2:Nat.beq k j with
  |true=>rw[if_pos (Nat.eq_of_beq_eq_true h2)];rfl
  |false =>
   have:k≠j:=by intro e;subst e;simp at h2
   rw[if_neg this];rfl
theorem Dr(i j k:Nat):swp i j (swp i j k)=k:=by
 rw[Gl i j k]
 split
 ·rename_i h;subst h
  rw[Gl]
  split
  ·rename_i h;exact h
  ·rw[if_pos rfl]
 ·split
  ·rename_i h;subst h;rw[Gl,if_pos rfl]
  ·rename_i h1 h2;rw[Gl,if_neg h1,if_neg h2]
theorem Gm(i j:Nat){m:Nat}(h0:E.n0=m)(hb:(Nat.ble m i && Nat.ble m j && Nat.blt i σ.nx && Nat.blt j σ.nx)=true)(kj:K9 σ.nx σ.hp=true):
  St.le E n σ ⟨BU (Q1 (swp i j) fun _=>0) σ.sl,σ.nx,c7 (swp i j) (fun _=>0) σ.hp⟩:=by
 simp only[Bool.and_eq_true,Nat.ble_eq,Nat.blt_eq]at hb
 obtain⟨⟨⟨wO,mc⟩,hi⟩,hj⟩:=hb
 have sC:∀k,k<σ.nx→swp i j k<σ.nx:=fun k hk=>by
  rw[Gl]
  split
  ·exact hj
  ·split
   ·exact hi
   ·exact hk
 have qV:∀a b,a<σ.nx→b<σ.nx→swp i j a=swp i j b→a=b:=fun a b _ _ h=>by rw[←Dr i j a,h,Dr]
 have wJ:∀q,q<σ.nx→A7 (c7 (swp i j) (fun _=>0) σ.hp) (swp i j q)=(A7 σ.hp q).map (x4 (swp i j) (fun _=>0) q):=by
  intro q hq
  have:=Hc (ρ:=swp i j) (s:=fun _=>0) qV σ.hp [] kj q hq
  rw[List.append_nil]at this
  unfold A7
  rw[this]
  cases look σ.hp q with
  |none=>rfl
  |some b=>cases b<;>rfl
 have lG:∀k,σ.nx≤k→A7 (c7 (swp i j) (fun _=>0) σ.hp) k=none:=by
  intro k hk
  have:=Cg (ρ:=swp i j) (s:=fun _=>0) (m:=σ.nx) σ.hp [] kj k (fun q hq he=>by have:=sC q hq;omega)
  rw[List.append_nil]at this
  unfold A7
  rw[this]
  rfl
 rintro a w ⟨θ,hs⟩
 let σ':St:=⟨BU (Q1 (swp i j) fun _=>0) σ.sl,σ.nx,c7 (swp i j) (fun _=>0) σ.hp⟩
 let θ':Th:=⟨fun k=>θ (swp i j k),fun k=>θ.N (swp i j k)⟩
 have back:∀k b,A7 σ'.hp k=some b→∃q b0,k=swp i j q∧q<σ.nx∧A7 σ.hp q=some b0∧b=x4 (swp i j) (fun _=>0) q b0∧∀z,FP θ' k b z→FP θ q b0 z:=by
  intro k b hb
  by_cases hk:k<σ.nx
  ·have mY:A7 (c7 (swp i j) (fun _=>0) σ.hp) (swp i j (swp i j k))=some b:=by rw[Dr];exact hb
   rw[wJ _ (sC k hk),Option.map_eq_some_iff]at mY
   obtain⟨b0,h1,h2⟩:=mY
   refine⟨swp i j k,b0,(Dr i j k).symm,sC k hk,h1,h2.symm,fun z hz=>?_⟩
   subst h2
   unfold FP at hz ⊢
   rwa[OQ]at hz
  ·rw[lG k (by omega)]at hb;cases hb
 have ren:Ren (cx E θ σ w) (cx E θ' σ' w) (swp i j) (fun _=>0):=by
  refine⟨sC,fun k hk=>by show θ (swp i j (swp i j k))=_;rw[Dr];rfl,fun k hk=>by show θ.N (swp i j (swp i j k))=_;rw[Dr];rfl,rfl,fun k hu=>?_,fun q hq e sz v' l hl=>?_⟩
  ·rcases hu with hu|⟨q,b,hb,hk⟩
   ·exact .inl hu
   ·obtain⟨q',b0,rfl,hq,h1,h2,h3⟩:=back q b hb
    exact .inr ⟨q',b0,h1,h3 k hk⟩
  ·have h1:A7 (c7 (swp i j) (fun _=>0) σ.hp) (swp i j q)=some (.row e sz v' l):=hl
   rw[wJ q hq,Option.map_eq_some_iff]at h1
   obtain⟨b,hb,nD⟩:=h1
   cases b with
   |bx τ l=>cases nD
   |map m=>cases nD
   |it _ _=>cases nD
   |row e1 qA v1 l1 =>
    simp only[x4]at nD
    cases nD
    exact⟨v1,hb,rfl⟩
 refine⟨θ',hs.size,hs.defers,hs.fr,fun s x hx=>?_,fun k b hb=>?_,fun k1 k2 b1 b2 k h1 h2 nv lp=>?_,fun k b q hb hk=>?_,hs.X,⟨hs.base.1,fun k hk=>?_⟩⟩
 ·have mr:look (BU (Q1 (swp i j) fun _=>0) σ.sl) s=some x:=hx
  rw[DE,Option.map_eq_some_iff]at mr
  obtain⟨x0,h1,rfl⟩:=mr
  exact NS ren (hs.slots s x0 h1)
 ·obtain⟨q,b0,rfl,hq,h1,rfl,h3⟩:=back k b hb
  exact⟨sC q hq,Tq ren hq (hs.owns q b0 h1).2 fun e sz v l e2=>Gh kj (e2▸h1)⟩
 ·obtain⟨q1,c1,rfl,_,g1,_,g2⟩:=back k1 b1 h1
  obtain⟨q2,c2,rfl,_,g3,_,g4⟩:=back k2 b2 h2
  rw[hs.apart q1 q2 c1 c2 k g1 g3 (g2 k nv) (g4 k lp)]
 ·obtain⟨q1,c1,rfl,_,g1,_,g2⟩:=back k b hb
  exact hs.mine q1 c1 q g1 (g2 q hk)
 ·have:swp i j k=k:=by rw[Gl,if_neg (by omega),if_neg (by omega)]
  show θ (swp i j k)=_∨_
  rw[this]
  refine(hs.base.2 k hk).imp id fun ⟨h1,h2⟩=>⟨h1,fun ⟨e,sz,v,l,hl,oG⟩=>h2 ?_⟩
  obtain⟨q,b0,hq,_,nj,mO,_⟩:=back k _ hl
  have sP:q=k:=(Dr i j q).symm.trans ((congrArg (swp i j) hq.symm).trans this)
  subst sP
  cases b0 with
  |bx τ l=>cases mO
  |map m=>cases mO
  |it _ _=>cases mO
  |row e1 qA v1 l1 =>
   simp only[x4]at mO
   cases mO
   exact⟨_,_,_,_,nj,oG⟩
theorem gL{kn:Nat}{l:List Bool}:VT P E n ops kn l σ K []:=⟨trivial⟩
theorem gM{kn:Nat}{l:List Bool}{i:Nat}{r:List Nat}(h1:match ops[i]? with
  |some o=>B5 P E n ops [o] σ fun σ'=>E5 P E n ops kn (l.set i true) σ' K
  |none=>False) (h2:VT P E n ops kn l σ K r):VT P E n ops kn l σ K (i::r):=⟨⟨h1,h2.h⟩⟩
theorem gN{p A:Prop}(h:p)(k:A):cU p A:=⟨h,k⟩
end rules
def MV(P:Program)(op:Op)(ev:Operand→Option AV)(F:AV→Prop):Prop :=
 match op with
 |.move x=>Y5 (ev x) F
 |.assign x=>Y5 (ev x) F
 |.binOp op T x y _=>QP P T op (ev x) (ev y) F
 |.load T x=>match ev x with
  |some (.iptr l)=>MK P T [] (some (.iptr l)) F
  |_=>False
 |.fieldAddr S x f=>match ev x with
  |some (.iptr l)=>NO P S f fun off sz=>cond (Nat.blt 0 sz) (F (.iptr (l.drop off))) False
  |some (.ref i o)=>NO P S f fun off sz=>cond (Nat.blt 0 sz) (F (.ref i (o+off))) False
  |_=>False
 |.indexAddr T x y=>match ev x with
  |some (.sl sz l)=>Ij P T [] (some (.sl sz l)) (ev y) F
  |_=>False
 |.call ⟨.builtin .len,⟨[x]⟩,⟨[T]⟩⟩=>match ev x with
  |some (.sl sz l)=>HY P T [] (some (.sl sz l)) F
  |some (.str s)=>HY P T [] (some (.str s)) F
  |some (.v (.slice none 0 0))=>HY P T [] (some (.v (.slice none 0 0))) F
  |_=>False
 |.call ⟨.builtin .max,⟨[x,y]⟩,⟨[_,_]⟩⟩=>match ev x,ev y with
  |some (.v (.int .i64 a)),some (.v (.int .i64 b))=>F (.v (.int .i64 (max a b)))
  |_,_=>False
 |.call ⟨.value (.func f),⟨args⟩,_⟩=>match s9 ev args with
  |some l=>cond (M3 l) (Pc P f (l++[]) F) False
  |none=>False
 |.build T ⟨parts⟩=>match CM ev parts with
  |some ps=>Ie P T fun zs pl=>ET [] ps (Y5 ((CU pl zs ps).map AV.agg) F)
  |none=>False
 |.buildSlice T len ⟨parts⟩=>match CM ev parts with
  |some ps=>FQ P T fun _ sz _ _=>cond (DC 0 ps && Ae sz (U4 ps) && Nat.beq ps.length len && Nat.blt 0 sz) (H8 (len*sz≤16777216) (ET [] ps (MI (U4 ps) (F (.sl sz (U4 ps)))))) False
  |none=>False
 |.convert S T x=>Y5 (ev x) fun a=>Bu P S T a F
 |.extract x k=>match ev x with
  |some (.tup l)=>Y5 (l[k]?) F
  |_=>False
 |.slice T x lo hi none=>match ev x with
  |some (.str s)=>EJ P T (match CF ev 0 lo,CF ev s.length hi with
   |some l,some h=>H8 (0≤l∧l≤h∧h≤s.length) (F (.str ((s.take h.toNat).drop l.toNat)))
   |_,_=>False)
  |_=>False
 |.unOp .not _ x=>match ev x with
  |some (.v (.bool b))=>F (.v (.bool (!b)))
  |_=>False
 |.index T x y=>match ev x,ev y with
  |some (.str s),some (.v (.int _ i))=>EJ P T (S7 s i fun b=>F (.v (.int .u8 b.toNat)))
  |_,_=>False
 |_=>False
theorem dO{hp:Hp}{a:AV}(h:One [] a):One hp a:=by
 cases h with
 |row hl=>cases hl
 |v h=>exact .v h
 |str l=>exact .str l
 |sl s l=>exact .sl s l
 |iptr l=>exact .iptr l
 |ref i o=>exact .ref i o
 |mp i=>exact .mp i
 |fn f l=>exact .fn f l
 |fo f l=>exact .fo f l
theorem Zn{hp:Hp}{a:AV}(h:Fits [] a):Fits hp a:=by
 cases a<;>first|exact trivial|exact dO h
theorem It{hp:Hp}:∀{ps:List (Nat×AV)},EH [] ps→EH hp ps
 |[],_=>trivial
 |(_,a)::r,h=>⟨Zn h.1,It h.2⟩
theorem js{P:Program}{op:Op}{ev:Operand→Option AV}{F:AV→Prop}(h:MV P op ev F):∃av,(∀(E:Env) (nx:Nat) (hp:Hp) (ty:TypeId),I2 P E nx hp ev op ty av)∧F av:=by
 unfold MV at h
 split at h
 ·obtain⟨a,hx,h⟩:=L2 h;exact⟨a,fun _ _ _ _=>Wh hx,h⟩
 ·obtain⟨a,hx,h⟩:=L2 h;exact⟨a,fun _ _ _ _=>Ps hx,h⟩
 ·rename_i op T x y T2
  unfold QP at h
  split at h
  ·rename_i hx hy;exact⟨_,fun _ _ _ _=>cJ hx hy h.h,h.k⟩
  ·rename_i hx hy;exact⟨_,fun _ _ _ _=>cK hx hy h.h,h.k⟩
  ·rename_i hx hy
   obtain⟨hk,hq⟩:=cond_false h
   clear h
   have hk:=of_decide_eq_true hk
   subst hk
   unfold QN at hq
   split at hq
   ·exact⟨_,fun _ _ _ _=>ES hx hy (by simp only[Cz,W5 hq.h]),hq.k⟩
   ·exact⟨_,fun _ _ _ _=>ES hx hy (by simp only[Cz,W5 hq.h]),hq.k⟩
   ·exact⟨_,fun _ _ _ _=>ES hx hy (by simp only[Cz,W5 hq.h]),hq.k⟩
   ·refine⟨_,fun E nx hp ty=>?_,hq.k⟩
    have ry:=PZ (P:=P) (E:=E) (nx:=nx) (hp:=hp) (ty:=ty) (T:=T) (T2:=T2) hx hy hq.h.1
    rw[W5 hq.h.2]at ry
    exact ry
   ·exact⟨_,fun _ _ _ _=>PZ hx hy hq.h,hq.k⟩
   ·exact⟨_,fun _ _ _ _=>cI hx hy hq.h,hq.k⟩
   ·split at hq
    ·rename_i hr;exact⟨_,fun _ _ _ _=>ES hx hy hr,hq⟩
    ·exact hq.elim
  ·rename_i s t hx hy
   unfold ZN at h
   split at h
   ·exact⟨_,fun _ _ _ _=>Wj hx hy h.h,h.k⟩
   ·split at h
    ·rename_i hr;exact⟨_,fun _ _ _ _=>Wi hx hy hr,h⟩
    ·exact h.elim
  ·rename_i a b hx hy
   unfold VJ at h
   split at h
   ·have:=h.h;exact⟨_,fun _ _ _ _=>Pa (T:=T) false hx hy,h.k⟩
   ·have:=h.h;exact⟨_,fun _ _ _ _=>Pa (T:=T) true hx hy,h.k⟩
   ·exact h.elim
  ·rename_i l m hx hy
   unfold HX at h
   split at h
   ·obtain⟨hk,hq⟩:=cond_false h
    obtain⟨rfl,rfl⟩:=of_decide_eq_true hk
    have:=hq.h;exact⟨_,fun _ _ _ _=>HM (T:=T) false hx hy,hq.k⟩
   ·obtain⟨hk,hq⟩:=cond_false h
    obtain⟨rfl,rfl⟩:=of_decide_eq_true hk
    have:=hq.h;exact⟨_,fun _ _ _ _=>HM (T:=T) true hx hy,hq.k⟩
   ·obtain⟨hk,hq⟩:=cond_false h
    obtain⟨rfl,rfl,rfl⟩:=of_decide_eq_true hk
    have:=hq.h;exact⟨_,fun _ _ _ _=>HO (T:=T) false hx hy,hq.k⟩
   ·obtain⟨hk,hq⟩:=cond_false h
    obtain⟨rfl,rfl,rfl⟩:=of_decide_eq_true hk
    have:=hq.h;exact⟨_,fun _ _ _ _=>HO (T:=T) true hx hy,hq.k⟩
   ·obtain⟨hk,hq⟩:=cond_false h
    obtain rfl:=of_decide_eq_true hk
    have:=hq.h;exact⟨_,fun _ _ _ _=>Lt (T:=T) false hx hy,hq.k⟩
   ·obtain⟨hk,hq⟩:=cond_false h
    obtain rfl:=of_decide_eq_true hk
    have:=hq.h;exact⟨_,fun _ _ _ _=>Lt (T:=T) true hx hy,hq.k⟩
   ·exact h.elim
  ·exact h.elim
 ·rename_i T x
  split at h
  ·rename_i l hx
   unfold MK at h
   obtain⟨⟨ag,sz,tv,h⟩⟩:=h
   cases ag with
   |true =>
    change cond (Nat.beq l.length sz) _ _ at h
    cases hc:Nat.beq l.length sz with
    |true =>
     rw[hc]at h
     exact⟨_,fun _ _ _ _=>BT (sz:=sz) hx (by rw[←Nat.eq_of_beq_eq_true hc,List.take_length]) (Nat.eq_of_beq_eq_true hc),h⟩
    |false =>
     rw[hc]at h
     exact⟨_,fun _ _ _ _=>BT (sz:=sz) hx rfl h.h,h.k⟩
   |false =>
    cases l with
    |nil=>exact h.elim
    |cons av r=>exact⟨_,fun _ _ _ _=>KV (sz:=sz) hx,h⟩
  ·exact h.elim
 ·split at h
  ·rename_i hx
   obtain⟨⟨off,sz,tf,h⟩⟩:=h
   obtain⟨hz,h⟩:=cond_false h
   exact⟨_,fun _ _ _ _=>IR (off:=off) (sz:=sz) hx hz,h⟩
  ·rename_i hx
   obtain⟨⟨off,sz,tf,h⟩⟩:=h
   obtain⟨hz,h⟩:=cond_false h
   exact⟨_,fun _ _ _ _=>KW (off:=off) (sz:=sz) hx hz,h⟩
  ·exact h.elim
 ·split at h
  ·rename_i hx
   unfold Ij at h
   split at h
   ·rename_i rj hy
    cases rj
    obtain⟨⟨e,kw,ts,h⟩⟩:=h
    obtain⟨hz,hq⟩:=cond_false h
    clear h
    have:=Nat.eq_of_beq_eq_true hz
    subst this
    obtain⟨h0,h1,hk⟩:=hq
    exact⟨_,fun _ _ _ _=>Lq (e:=e) hx hy h0 (List.getElem?_eq_getElem (by omega)),hk _ (List.getElem?_eq_getElem (by omega))⟩
   ·rename_i rj _;cases rj
   ·rename_i rj _;cases rj
   ·rename_i rj _;cases rj
   ·exact h.elim
  ·exact h.elim
 ·split at h
  ·rename_i hx
   unfold HY at h
   obtain⟨⟨e,sz,ts,h⟩⟩:=h
   exact⟨_,fun _ _ _ _=>Px (e:=e) (sz:=sz) hx,h.k⟩
  ·rename_i hx
   unfold HY at h
   obtain⟨ts,h⟩:=h
   exact⟨_,fun _ _ _ _=>OE hx,h⟩
  ·rename_i hx
   unfold HY at h
   obtain⟨⟨e,sz,ts,h⟩⟩:=h
   exact⟨_,fun _ _ _ _=>OG (e:=e) (sz:=sz) hx,h⟩
  ·exact h.elim
 ·split at h
  ·rename_i hx hy;exact⟨_,fun _ _ _ _=>cN hx hy,h⟩
  ·exact h.elim
 ·split at h
  ·rename_i l hl
   obtain⟨hc,h⟩:=cond_false h
   obtain⟨⟨r,hr,h⟩⟩:=h
   rw[List.append_nil]at hr
   exact⟨_,fun _ _ _ _=>NG hr hl hc,h⟩
  ·exact h.elim
 ·split at h
  ·rename_i ps pu
   obtain⟨⟨zs,pl,tz,tp,h⟩⟩:=h
   obtain⟨hf,h⟩:=AG h
   obtain⟨a,ha,h⟩:=L2 h
   rw[Option.map_eq_some_iff]at ha
   obtain⟨l,hl,rfl⟩:=ha
   exact⟨_,fun _ _ _ _=>Tk (T:=_) pu (It hf) hl,h⟩
  ·exact h.elim
 ·split at h
  ·rename_i ps pu
   obtain⟨⟨e,sz,bs,z,ts,tz,tb,hz,h⟩⟩:=h
   obtain⟨hc,h⟩:=cond_false h
   simp only[Bool.and_eq_true,Nat.beq_eq,Nat.blt_eq]at hc
   obtain⟨hs,h⟩:=h
   obtain⟨hf,h⟩:=AG h
   obtain⟨hi,h⟩:=Ep h
   exact⟨_,fun _ _ _ _=>IY (e:=e) (z:=z) pu (It hf) hc.1.1.1 hc.1.1.2 hc.1.2 hz hs hc.2 hi,h⟩
  ·exact h.elim
 ·obtain⟨a,hx,h⟩:=L2 h
  obtain⟨⟨r,hr,h⟩⟩:=h
  cases hr with
  |bytes l hl=>rename_i e sz _ _ _;exact⟨_,fun _ _ _ _=>KZ (e:=e) (sz:=sz) hx hl,h⟩
  |back l=>rename_i e sz _ _ _;exact⟨_,fun _ _ _ _=>Ka (e:=e) (sz:=sz) hx,h⟩
  |int m=>exact⟨_,fun _ _ _ _=>Lr hx,h⟩
  |rune m=>exact⟨_,fun _ _ _ _=>Kb hx,h⟩
 ·split at h
  ·rename_i hx
   obtain⟨a,ha,h⟩:=L2 h
   exact⟨_,fun _ _ _ _=>OK hx ha,h⟩
  ·exact h.elim
 ·split at h
  ·rename_i hx
   obtain⟨ts,h⟩:=h
   split at h
   ·rename_i hl hh;exact⟨_,fun _ _ _ _=>Kd hx hl hh h.h.1 h.h.2.1 h.h.2.2,h.k⟩
   ·exact h.elim
  ·exact h.elim
 ·split at h
  ·rename_i hx;exact⟨_,fun _ _ _ _=>cL hx,h⟩
  ·exact h.elim
 ·split at h
  ·rename_i s k i hx hy
   obtain⟨ts,h0,h1,hk⟩:=h
   have kj:i.toNat<s.length:=by omega
   have ke:s[i.toNat]?=some s[i.toNat]:=List.getElem?_eq_getElem kj
   exact⟨_,fun _ _ _ _=>KX hx hy h0 ke,hk _ ke⟩
  ·exact h.elim
 ·exact h.elim
structure MB where
 i:Nat
 d:Nat
 av:AV
 rd:List (Nat×AV)
 mh:Hp
def NU(mh hp:Hp):Prop:=∀p∈mh,A7 hp p.1=p.2
def jt(P:Program)(ops:Array Oper)(m:MB):Prop:=∃op ty pos after,ops[m.i]?=some ⟨some m.d,op,ty,pos,after,none⟩∧∀(E:Env) (nx:Nat) (hp:Hp) (ty:TypeId),NU m.mh hp→I2 P E nx hp (H1 ⟨m.rd,0,[]⟩) op ty m.av
def Dd(ops:Array Oper)(i:Nat):List Nat:=(BF ops).getD i []
def M4:List MB→List (Nat×AV)
 |[]=>[]
 |⟨_,d,av,_,_⟩::r=>(d,av)::M4 r
def j6(l:List Bool)(mb:List MB):List MB:=mb.filter fun m=>l.getD m.i false
def kU(ops:Array Oper)(mb:List MB)(sl:List (Nat×AV)):Prop:=∀m∈mb,∀p∈m.rd,look sl p.1=some p.2∨∃m'∈mb,m'.d=p.1∧m'.av=p.2∧m'.i∈Dd ops m.i
def Bw(n:Nat)(sl:List (Nat×AV)):List MB→Bool
 |[]=>true
 |m::r=>Nat.blt m.d n && (look sl m.d).isNone && (r.all fun u=>!(Nat.beq u.d m.d) && !(Nat.beq u.i m.i)) && Bw n sl r
theorem GD{n:Nat}{sl:List (Nat×AV)}:∀{mb:List MB},Bw n sl mb=true→(∀m∈mb,m.d<n∧look sl m.d=none)∧(∀m∈mb,∀m'∈mb,m.d=m'.d→m=m')∧∀m∈mb,∀m'∈mb,m.i=m'.i→m=m'
 |[],_=>⟨(fun m hm=>by cases hm),(fun m hm=>by cases hm),fun m hm=>by cases hm⟩
 |a::r,h=>by
  simp only[Bw,Bool.and_eq_true,List.all_eq_true,Bool.not_eq_true',Nat.blt_eq,Option.isNone_iff_eq_none]at h
  obtain⟨⟨⟨h1,h2⟩,h3⟩,h4⟩:=h
  obtain⟨i1,i2,i3⟩:=GD h4
  have qX:∀u∈r,u.d≠a.d∧u.i≠a.i:=fun u hu=>by
   have h5:=h3 u hu
   refine⟨fun e=>?_,fun e=>?_⟩
   ·have:=h5.1;rw[e]at this;simp at this
   ·have:=h5.2;rw[e]at this;simp at this
  refine⟨fun m hm=>?_,fun m hm m' lg e=>?_,fun m hm m' lg e=>?_⟩
  ·rcases List.mem_cons.1 hm with rfl|hm
   ·exact⟨h1,h2⟩
   ·exact i1 m hm
  ·rcases List.mem_cons.1 hm with h5|h5<;>rcases List.mem_cons.1 lg with h6|h6
   ·rw[h5,h6]
   ·subst h5;exact absurd e.symm (qX _ h6).1
   ·subst h6;exact absurd e (qX _ h5).1
   ·exact i2 m h5 m' h6 e
  ·rcases List.mem_cons.1 hm with h5|h5<;>rcases List.mem_cons.1 lg with h6|h6
   ·rw[h5,h6]
   ·subst h5;exact absurd e.symm (qX _ h6).2
   ·subst h6;exact absurd e (qX _ h5).2
   ·exact i3 m h5 m' h6 e
theorem V6(l m:List (Nat×AV))(s:Nat):look (l++m) s=match look l s with
  |some x=>some x
  |none=>look m s:=by
 induction l with
 |nil=>rfl
 |cons a r ih =>
  obtain⟨k,x⟩:=a
  simp only[List.cons_append,I1]
  by_cases e:k=s
  ·simp[e]
  ·simp[e,ih]
theorem Gn{T:List MB}{s:Nat}(h:∀m∈T,m.d≠s):look (M4 T) s=none:=by
 induction T with
 |nil=>rfl
 |cons a r ih =>
  obtain⟨ai,ad,tr,tN,sS⟩:=a
  have h0:ad≠s:=h ⟨ai,ad,tr,tN,sS⟩ (by simp)
  simp only[M4,I1]
  rw[if_neg h0,ih fun m hm=>h m (by simp[hm])]
theorem EU{T:List MB}{m:MB}(hu:∀m∈T,∀m'∈T,m.d=m'.d→m=m')(hm:m∈T):look (M4 T) m.d=some m.av:=by
 induction T with
 |nil=>cases hm
 |cons a r ih =>
  obtain⟨ai,ad,tr,tN,sS⟩:=a
  simp only[M4,I1]
  by_cases e:ad=m.d
  ·rw[if_pos e,←hu ⟨ai,ad,tr,tN,sS⟩ (by simp) m hm e]
  ·rw[if_neg e]
   rcases List.mem_cons.1 hm with rfl|hm
   ·exact absurd rfl e
   ·exact ih (fun x hx y hy=>hu x (by simp[hx]) y (by simp[hy])) hm
theorem Ag{T:List MB}{s:Nat}{x:AV}(h:look (M4 T) s=some x):∃m∈T,m.d=s∧m.av=x:=by
 induction T with
 |nil=>cases h
 |cons a r ih =>
  obtain⟨ai,ad,tr,tN,sS⟩:=a
  simp only[M4,I1]at h
  by_cases e:ad=s
  ·rw[if_pos e]at h;cases h;exact⟨⟨ai,ad,_,tN,sS⟩,by simp,e,rfl⟩
  ·rw[if_neg e]at h
   obtain⟨m,hm,h1,h2⟩:=ih h
   exact⟨m,by simp[hm],h1,h2⟩
theorem He{E:Env}{n nx:Nat}{hp:Hp}{sl wh:List (Nat×AV)}{a:Act}{w:World}(e:∀s x,look wh s=some x→look sl s=some x)(h:BS E n ⟨sl,nx,hp⟩ a w):BS E n ⟨wh,nx,hp⟩ a w:=by
 obtain⟨θ,h⟩:=h
 exact⟨θ,h.size,h.defers,h.fr,fun s x hs=>h.slots s x (e s x hs),h.owns,h.apart,h.mine,h.X,h.base⟩
def E1(P:Program)(E:Env)(n:Nat)(ops:Array Oper)(done:List Bool)(mb:List MB)(σ:St)(K:St→Prop):Prop :=
 (∀m∈mb,jt P ops m)→kU ops mb σ.sl→(∀m∈mb,NU m.mh σ.hp)→Bw n σ.sl mb=true →
 ∀(kn:Nat) (l:List Bool) (a:Act) (w:World),l.length=ops.size→(∀i,done.getD i false=true→l.getD i false=true)→(∀i,l.getD i false=true→done.getD i false=true∨∃m∈mb,m.i=i)→l.count false≤kn →
  BS E n ⟨M4 (j6 l mb)++σ.sl,σ.nx,σ.hp⟩ a w→wpAny P .any ops (fun e a' w'=>e=.normal∧∃σ',K σ'∧BS E n σ' a' w') kn l.toArray a w
def Ah(ops:Array Oper)(mb:List MB)(i:Nat):List MB:=mb.filter fun m=>(Dd ops i).contains m.i
def y8(ops:Array Oper)(mb:List MB)(i:Nat):List MB:=mb.filter fun m=>!((Dd ops i).contains m.i)
def Iu(ops:Array Oper)(done:List Bool)(mb:List MB)(i:Nat):List Bool:=(Ah ops mb i).foldl (fun l m=>l.set m.i true) (done.set i true)
def BH:List MB→List Nat
 |[]=>[]
 |m::r=>m.rd.map (·.1)++BH r
def FT:List MB→List Nat
 |[]=>[]
 |m::r=>m.mh.map (·.1)++FT r
theorem dP{hp qJ:Hp}:∀{mb:List MB},(FT mb).map (A7 qJ)=(FT mb).map (A7 hp)→∀m∈mb,∀p∈m.mh,A7 qJ p.1=A7 hp p.1
 |[],_,m,hm,_,_=>by cases hm
 |a::r,h,m,hm,p,kv=>by
  refine List.map_inj_left.1 h p.1 ?_
  have key:∀L:List MB,m∈L→p.1∈FT L:=by
   intro L
   induction L with
   |nil=>intro h;cases h
   |cons b t ih =>
    intro h
    simp only[FT,List.mem_append,List.mem_map]
    rcases List.mem_cons.1 h with rfl|h
    ·exact .inl ⟨p,kv,rfl⟩
    ·exact .inr (ih h)
  exact key _ hm
structure MU(P:Program)(E:Env)(n:Nat)(ops:Array Oper)(done:List Bool)(mb:List MB)(K:St→Prop)(base:List (Nat×AV))(k:Nat)(ex:List (Nat×AV))(rG:Hp)(σ':St):Prop where
 mh:(FT mb).map (A7 σ'.hp)=(FT mb).map (A7 rG)
 sl:σ'.sl=σ'.sl.take k++ex
 rd:(BH mb).map (look (σ'.sl.take k))=(BH mb).map (look base)
 chk:Bw n (σ'.sl.take k) mb=true
 go:E1 P E n ops done mb ⟨σ'.sl.take k,σ'.nx,σ'.hp⟩ K
def MW(P:Program)(E:Env)(n:Nat)(ops:Array Oper)(done:List Bool)(mb:List MB)(σ:St)(K:St→Prop)(i:Nat):Prop :=
 match ops[i]? with
 |some o=>∀ex:List (Nat×AV),B5 P E n ops [o] ⟨M4 (Ah ops mb i)++(σ.sl++ex),σ.nx,σ.hp⟩ fun σ'=>MU P E n ops (Iu ops done mb i) (y8 ops mb i) K (M4 (Ah ops mb i)++σ.sl) (match o.dst,o.guard with
  |some _,some _=>(Ah ops mb i).length+σ.sl.length+2
  |some _,none=>(Ah ops mb i).length+σ.sl.length+1
  |none,_=>(Ah ops mb i).length+σ.sl.length) ex σ.hp σ'
 |none=>False
def VU(P:Program)(E:Env)(n:Nat)(ops:Array Oper)(done:List Bool)(mb:List MB)(σ:St)(K:St→Prop):List Nat→Prop
 |[]=>True
 |i::r=>MW P E n ops done mb σ K i∧VU P E n ops done mb σ K r
theorem Qf{P:Program}{E:Env}{n:Nat}{ops:Array Oper}{done:List Bool}{mb:List MB}{σ:St}{K:St→Prop}:∀{r:List Nat},VU P E n ops done mb σ K r→∀i∈r,MW P E n ops done mb σ K i
 |[],_,i,hi=>by cases hi
 |j::r,h,i,hi=>by
  rcases List.mem_cons.1 hi with rfl|hi
  ·exact h.1
  ·exact Qf h.2 i hi
def Iv(ops:Array Oper)(done:List Bool)(mb:List MB):List Nat :=
 (List.range ops.size).filter fun i=>!(done.getD i false) && !(mb.any fun m=>Nat.beq m.i i) && (Dd ops i).all fun j=>done.getD j false || mb.any fun m=>Nat.beq m.i j
def FH(ops:Array Oper):Bool:=(List.range ops.size).all fun i=>(Dd ops i).all fun j=>Nat.blt j i
def MX(ops:Array Oper)(done:List Bool)(mb:List MB):Bool:=(List.range ops.size).all fun i=>done.getD i false || mb.any fun m=>Nat.beq m.i i
theorem Hf(l:List Bool)(i j:Nat):(l.set i true).getD j false=if i=j∧i<l.length then true else l.getD j false:=by
 simp only[List.getD_eq_getElem?_getD,List.getElem?_set]
 by_cases e:i=j
 ·subst e
  by_cases h:i<l.length
  ·simp[h]
  ·simp[h]
 ·simp[e]
theorem OT:∀(l:List Bool) (i:Nat),l[i]?=some false→(l.set i true).count false+1=l.count false
 |[],i,h=>by simp at h
 |b::r,0,h=>by simp at h;subst h;simp
 |b::r,i+1,h=>by
  have:=OT r i (by simpa using h)
  rw[List.set_cons_succ,List.count_cons,List.count_cons]
  omega
theorem Gp:∀(T:List MB) (l:List Bool) (j:Nat),(∀m∈T,m.i<l.length)→((T.foldl (fun l m=>l.set m.i true) l).getD j false=true↔l.getD j false=true∨∃m∈T,m.i=j)
 |[],l,j,_=>by simp
 |m::r,l,j,h=>by
  rw[List.foldl_cons,Gp r _ j (fun x hx=>by rw[List.length_set];exact h x (by simp[hx])),Hf]
  have hm:=h m (by simp)
  by_cases e:m.i=j
  ·subst e
   constructor
   ·intro _;exact .inr ⟨m,by simp,rfl⟩
   ·intro _;left;rw[if_pos ⟨rfl,hm⟩]
  ·rw[if_neg (fun h=>e h.1)]
   constructor
   ·rintro (h1|⟨x,hx,e2⟩)
    ·exact .inl h1
    ·exact .inr ⟨x,by simp[hx],e2⟩
   ·rintro (h1|⟨x,hx,e2⟩)
    ·exact .inl h1
    ·rcases List.mem_cons.1 hx with rfl|hx
     ·exact absurd e2 e
     ·exact .inr ⟨x,hx,e2⟩
theorem Tt{ops:Array Oper}{i:Nat}(h:i<ops.size):(BF ops)[i]?=some (Dd ops i):=by
 have hl:i<(BF ops).length:=by simp[BF];exact h
 rw[Dd,List.getD_eq_getElem?_getD,List.getElem?_eq_getElem hl];rfl
theorem Tu{P:Program}{E:Env}{n:Nat}{ops:Array Oper}{done:List Bool}{mb:List MB}{σ:St}{K:St→Prop}(kf:Nat.beq done.length ops.size=true)(lE:FH ops=true)
  (mF:MX ops done mb=true→K ⟨M4 mb++σ.sl,σ.nx,σ.hp⟩) (lC:VU P E n ops done mb σ K (Iv ops done mb)):E1 P E n ops done mb σ K:=by
 have kf:=Nat.eq_of_beq_eq_true kf
 intro lI ki uV mz
 obtain⟨oD,nH,qm⟩:=GD mz
 have wM:∀m∈mb,m.i<ops.size:=fun m hm=>by
  obtain⟨op,ty,pos,after,h,_⟩:=lI m hm
  exact(Array.getElem?_eq_some_iff.1 h).1
 have oO:∀l,∀m∈j6 l mb,m∈mb∧l.getD m.i false=true:=fun l m hm=>by
  unfold j6 at hm
  exact List.mem_filter.1 hm
 have oc:∀l,∀m∈mb,l.getD m.i false=true→m∈j6 l mb:=fun l m hm h=>List.mem_filter.2 ⟨hm,h⟩
 have hu:∀l,∀m∈j6 l mb,∀m'∈j6 l mb,m.d=m'.d→m=m':=fun l m hm m' lg=>nH m (oO l m hm).1 m' (oO l m' lg).1
 -- a slot of the state is none of those that may be filled
 have oJ:∀l s x,look σ.sl s=some x→look (M4 (j6 l mb)) s=none:=fun l s x hs=>Gn fun m hm e=>by
  have:=(oD m (oO l m hm).1).2
  rw[e,hs]at this
  cases this
 have fin:∀(l:List Bool) (a:Act) (w:World),(∀i,i<ops.size→l.getD i false=true)→(∀i,l.getD i false=true→done.getD i false=true∨∃m∈mb,m.i=i)→BS E n ⟨M4 (j6 l mb)++σ.sl,σ.nx,σ.hp⟩ a w→(Exit.normal=Exit.normal∧∃σ',K σ'∧BS E n σ' a w):=by
  intro l a w hl h2 hs
  refine⟨rfl,_,mF ?_,He (fun s x h=>?_) hs⟩
  ·unfold MX
   rw[List.all_eq_true]
   intro i hi
   rcases h2 i (hl i (List.mem_range.1 hi))with h|⟨m,hm,e⟩
   ·rw[h];rfl
   ·have:(mb.any fun m=>Nat.beq m.i i)=true:=List.any_eq_true.2 ⟨m,hm,by simp[e]⟩
    rw[this];simp
  ·have:j6 l mb=mb:=List.filter_eq_self.2 fun m hm=>hl _ (wM m hm)
   rw[this];exact h
 have qD:∀(l:List Bool),l.length=ops.size→Region.ready .any ops l.toArray=[]→∀i,i<ops.size→l.getD i false=true:=by
  intro l hl hr i
  induction i using Nat.strongRecOn with
  |_ i ih =>
   intro hi
   cases hx:l.getD i false with
   |true=>rfl
   |false =>
    exfalso
    have lj:i∈Af l 0 (BF ops) l:=by
     rw[DH]
     refine⟨i,Dd ops i,by omega,Tt hi,?_,fun x xE=>?_⟩
     ·rw[List.getD_eq_getElem?_getD]at hx
      have h1:l[i]?=some (l[i]'(by omega)):=List.getElem?_eq_getElem (by omega)
      rw[h1]at hx ⊢
      simpa using hx
     ·unfold FH at lE
      have h1:=List.all_eq_true.1 lE i (List.mem_range.2 hi)
      have h2:=List.all_eq_true.1 h1 x xE
      have h3:x<i:=by simpa using h2
      exact ih x h3 (by omega)
    have:=(Bf hl i).2 lj
    rw[hr]at this
    cases this
 intro kn
 induction kn with
 |zero =>
  intro l a w hl h1 h2 rD hs
  have h0:∀i,i<ops.size→l.getD i false=true:=by
   intro i hi
   have vR:l[i]?=some (l[i]'(by omega)):=List.getElem?_eq_getElem (by omega)
   rw[List.getD_eq_getElem?_getD,vR]
   cases hb:l[i]'(by omega)with
   |true=>rfl
   |false =>
    have:0<l.count false:=List.count_pos_iff.2 (hb▸List.getElem_mem _)
    omega
  refine⟨?_,fin l a w h0 h2 hs⟩
  cases hx:Region.ready .any ops l.toArray with
  |nil=>rfl
  |cons i r =>
   have:=(Bf hl i).1 (by rw[hx];simp)
   rw[DH]at this
   obtain⟨j,e,e1,_,e2,_⟩:=this
   have hj:j<ops.size:=by rw[←hl];exact(List.getElem?_eq_some_iff.1 e2).1
   have:=h0 j hj
   rw[List.getD_eq_getElem?_getD,e2]at this
   cases this
 |succ kn ih =>
  intro l a w hl h1 h2 rD hs
  refine⟨fun hr=>fin l a w (qD l hl hr) h2 hs,fun i hi=>?_⟩
  have ln:=(Bf hl i).1 hi
  rw[DH]at ln
  obtain⟨i',e,ei,he,hf,qj⟩:=ln
  obtain rfl:i=i':=by omega
  have wS:i<ops.size:=by rw[←hl];exact(List.getElem?_eq_some_iff.1 hf).1
  rw[Tt wS]at he
  cases he
  have wQ:l.getD i false=false:=by rw[List.getD_eq_getElem?_getD,hf];rfl
  have nk:(l.set i true).length=ops.size:=by rw[List.length_set];exact hl
  have qp:(l.set i true).count false≤kn:=by have:=OT l i hf;omega
  have my:∀j,(l.set i true).getD j false=true↔j=i∨l.getD j false=true:=by
   intro j
   rw[Hf]
   by_cases e:i=j
   ·subst e;simp;omega
   ·simp[e,Ne.symm e]
  by_cases hm:∃m∈mb,m.i=i
  ·obtain⟨m,hm,vJ⟩:=hm
   subst vJ
   obtain⟨op,ty,pos,after,ho,hq⟩:=lI m hm
   unfold wpOp
   simp only[ho]
   rw[if_pos (by simp[Region.wanted])]
   left
   obtain⟨θ,hs⟩:=hs
   have nV:Ab E θ σ.nx σ.hp (H1 ⟨m.rd,0,[]⟩) a w:=by
    have h0:=hs.evT
    refine⟨h0.fr,h0.owns,h0.X,fun {x av} hx=>h0.rel (x:=x) ?_,h0.apart,h0.fresh,h0.tab⟩
    cases x with
    |tmp t =>
     have mr:look m.rd t=some av:=hx
     show look (M4 (j6 l mb)++σ.sl) t=some av
     have lj:∀(rd:List (Nat×AV)),look rd t=some av→(t,av)∈rd:=by
      intro rd
      induction rd with
      |nil=>intro h;cases h
      |cons p r ih =>
       obtain⟨k,x⟩:=p
       intro h
       rw[I1]at h
       by_cases e:k=t
       ·subst e;rw[if_pos rfl]at h;cases h;simp
       ·rw[if_neg e]at h;exact List.mem_cons_of_mem _ (ih h)
     rw[V6]
     rcases ki m hm (t,av) (lj _ mr)with h|⟨m',lg,e1,e2,e3⟩
     ·rw[oJ l t av h];exact h
     ·have h4:m'∈j6 l mb:=oc l m' lg (qj _ e3)
      have h5:=EU (hu l) h4
      have e1:m'.d=t:=e1
      have e2:m'.av=av:=e2
      rw[e1,e2]at h5
      rw[h5]
    |const c=>exact hx
    |global g=>exact hx
    |func f=>exact hx
   refine Pr (hq E σ.nx σ.hp ty (uV m hm) (some m.d) pos after θ a w (fun v w'=>Below w.heap.size w w'∧G2 (kx E θ σ.nx σ.hp w') m.av v) nV fun v w' hb hr=>⟨hb,hr⟩) fun v w' uO=>?_
   rw[BG]
   refine ih (l.set m.i true) _ w' nk (fun j hj=>(my j).2 (.inr (h1 j hj))) (fun j hj=>?_) qp ?_
   ·rcases(my j).1 hj with e|e
    ·exact .inr ⟨m,hm,e.symm⟩
    ·exact h2 j e
   ·have rT:=(hs.below uO.1).put (d:=m.d) (oD m hm).1 (x:=m.av) (v:=v) uO.2
    refine He (sl:=(m.d,m.av)::(M4 (j6 l mb)++σ.sl)) (fun s x h=>?_) ⟨θ,rT⟩
    rw[V6]at h
    rw[I1,V6]
    cases hx:look (M4 (j6 (l.set m.i true) mb)) s with
    |some y =>
     rw[hx]at h
     cases h
     obtain⟨m',lg,e1,e2⟩:=Ag hx
     obtain⟨h3,h4⟩:=oO _ m' lg
     by_cases e:m.d=s
     ·rw[if_pos e,nH m hm m' h3 (by rw[e,e1]),e2]
     ·rw[if_neg e]
      have h5:l.getD m'.i false=true:=by
       rcases(my _).1 h4 with h6|h6
       ·have:=qm m' h3 m hm h6
        subst this
        exact absurd e1 e
       ·exact h6
      have:=EU (hu l) (oc l m' h3 h5)
      rw[e1,e2]at this
      rw[this]
    |none =>
     rw[hx]at h
     have h':look σ.sl s=some x:=h
     have hne:m.d≠s:=fun e=>by have:=(oD m hm).2;rw[e,h']at this;cases this
     rw[if_neg hne,oJ l s x h']
     exact h'
  ·have lZ:∀m∈mb,m.i≠i:=fun m lg e=>hm ⟨m,lg,e⟩
   have sJ:done.getD i false=false:=by
    cases hx:done.getD i false with
    |false=>rfl
    |true=>rw[h1 i hx]at wQ;cases wQ
   have tG:(mb.any fun m=>Nat.beq m.i i)=false:=by
    rw[List.any_eq_false]
    intro m lg h
    exact lZ m lg (Nat.eq_of_beq_eq_true h)
   have un:i∈Iv ops done mb:=by
    unfold Iv
    rw[List.mem_filter]
    refine⟨List.mem_range.2 wS,?_⟩
    rw[sJ,tG]
    simp only[Bool.not_false,Bool.true_and,List.all_eq_true]
    intro j hj
    rcases h2 j (qj j hj)with h|⟨m,lg,e⟩
    ·rw[h];rfl
    ·have:(mb.any fun m=>Nat.beq m.i j)=true:=List.any_eq_true.2 ⟨m,lg,by simp[e]⟩
     rw[this];simp
   have ox:=Qf lC i un
   unfold MW at ox
   split at ox
   ·rename_i o ho
    have np:∀m,m∈Ah ops mb i↔m∈mb∧m.i∈Dd ops i:=fun m=>by simp[Ah,List.mem_filter]
    have rP:∀m,m∈y8 ops mb i↔m∈mb∧m.i∉Dd ops i:=fun m=>by simp[y8,List.mem_filter]
    have sE:BS E n ⟨M4 (Ah ops mb i)++(σ.sl++M4 (j6 l (y8 ops mb i))),σ.nx,σ.hp⟩ a w:=by
     refine He (fun s x h=>?_) hs
     rw[V6]at h ⊢
     cases hx:look (M4 (Ah ops mb i)) s with
     |some y =>
      rw[hx]at h
      cases h
      obtain⟨m,lg,e1,e2⟩:=Ag hx
      obtain⟨h3,h4⟩:=(np m).1 lg
      have:=EU (hu l) (oc l m h3 (qj _ h4))
      rw[e1,e2]at this
      rw[this]
     |none =>
      rw[hx]at h
      have h:look (σ.sl++M4 (j6 l (y8 ops mb i))) s=some x:=h
      rw[V6]at h
      cases hy:look σ.sl s with
      |some y =>
       rw[hy]at h
       cases h
       rw[oJ l s _ hy]
      |none =>
       rw[hy]at h
       have h:look (M4 (j6 l (y8 ops mb i))) s=some x:=h
       obtain⟨m,lg,e1,e2⟩:=Ag h
       obtain⟨h3,h4⟩:=List.mem_filter.1 lg
       have:=EU (hu l) (oc l m ((rP m).1 h3).1 h4)
       rw[e1,e2]at this
       rw[this]
    have hw:=ox (M4 (j6 l (y8 ops mb i))) a w sE
    have last:∀(kk:Nat) σ' a' w',MU P E n ops (Iu ops done mb i) (y8 ops mb i) K (M4 (Ah ops mb i)++σ.sl) kk (M4 (j6 l (y8 ops mb i))) σ.hp σ'→BS E n σ' a' w'→wpAny P .any ops (fun e a' w'=>e=.normal∧∃σ',K σ'∧BS E n σ' a' w') kn (l.set i true).toArray a' w':=by
     intro kk σ' a' w' hp mE
     have mK:∀j,(Iu ops done mb i).getD j false=true↔(done.getD j false=true∨j=i)∨∃m∈Ah ops mb i,m.i=j:=by
      intro j
      unfold Iu
      rw[Gp _ _ _ (fun m lg=>by rw[List.length_set,kf];exact wM m ((np m).1 lg).1),Hf]
      by_cases e:i=j
      ·subst e;simp;left;omega
      ·simp[e,Ne.symm e]
     have tQ:∀m∈Ah ops mb i,look (M4 (Ah ops mb i)++σ.sl) m.d=some m.av:=fun m lg=>by
      rw[V6,EU (fun m h m' h'=>nH m ((np m).1 h).1 m' ((np m').1 h').1) lg]
     refine hp.go (fun m lg=>lI m ((rP m).1 lg).1) (fun m lg p st=>?_) (fun m lg p st=>(dP hp.mh m lg p st).trans (uV m ((rP m).1 lg).1 p st)) hp.chk kn (l.set i true) a' w' nk (fun j hj=>?_) (fun j hj=>?_) qp ?_
     ·have qy:look (σ'.sl.take kk) p.1=look (M4 (Ah ops mb i)++σ.sl) p.1:=by
       have lj:p.1∈BH (y8 ops mb i):=by
        have:∀(L:List MB),m∈L→p.1∈BH L:=by
         intro L
         induction L with
         |nil=>intro h;cases h
         |cons a r ih =>
          intro h
          simp only[BH,List.mem_append,List.mem_map]
          rcases List.mem_cons.1 h with rfl|h
          ·exact .inl ⟨p,st,rfl⟩
          ·exact .inr (ih h)
        exact this _ lg
       obtain⟨t,ht,et⟩:=List.getElem_of_mem lj
       have h3:=congrArg (fun L:List (Option AV)=>L[t]?) hp.rd
       simp only[List.getElem?_map,List.getElem?_eq_getElem ht,Option.map_some,Option.some.injEq,et]at h3
       exact h3
      rcases ki m ((rP m).1 lg).1 p st with h|⟨m',sR,e1,e2,e3⟩
      ·left
       rw[qy,V6,Gn (fun u oR e=>by
        have:=(oD u ((np u).1 oR).1).2
        rw[e,h]at this
        cases this)]
       exact h
      ·by_cases tY:m'.i∈Dd ops i
       ·left
        rw[qy,←e1,tQ m' ((np m').2 ⟨sR,tY⟩),e2]
       ·exact .inr ⟨m',(rP m').2 ⟨sR,tY⟩,e1,e2,e3⟩
     ·rw[my]
      rcases(mK j).1 hj with (h|h)|⟨m,lg,e⟩
      ·exact .inr (h1 j h)
      ·exact .inl h
      ·exact .inr (e▸qj _ ((np m).1 lg).2)
     ·rw[mK]
      rcases(my j).1 hj with h|h
      ·exact .inl (.inl (.inr h))
      ·rcases h2 j h with h|⟨m,lg,e⟩
       ·exact .inl (.inl (.inl h))
       ·by_cases tY:m.i∈Dd ops i
        ·exact .inl (.inr ⟨m,(np m).2 ⟨lg,tY⟩,e⟩)
        ·exact .inr ⟨m,(rP m).2 ⟨lg,tY⟩,e⟩
     ·have pN:=hp.sl
      obtain⟨c1,c2,c3⟩:=GD hp.chk
      have:j6 (l.set i true) (y8 ops mb i)=j6 l (y8 ops mb i):=by
       unfold j6
       refine List.filter_congr fun m lg=>?_
       rw[Hf,if_neg (fun h=>lZ m ((rP m).1 lg).1 h.1.symm)]
      rw[this]
      refine He (sl:=σ'.sl) (fun s x h=>?_) mE
      rw[V6]at h
      rw[pN,V6]
      cases hx:look (M4 (j6 l (y8 ops mb i))) s with
      |some y =>
       rw[hx]at h
       cases h
       obtain⟨m,lg,e1,e2⟩:=Ag hx
       have h3:=(c1 m (List.mem_filter.1 lg).1).2
       rw[e1]at h3
       rw[h3]
      |none =>
       rw[hx]at h
       have h:look (σ'.sl.take kk) s=some x:=h
       rw[h]
    unfold wpOp
    simp only[ho]
    unfold wpList at hw
    split
    ·rename_i nP
     rw[if_pos nP]at hw
     rcases hw with hw|⟨_,a1,w1,hx⟩
     ·refine .inl (LD (fun e a w h=>h.1) (fun a' w' hn=>?_) hw)
      obtain⟨_,σ',hk,mE⟩:=hn
      rw[BG]
      exact last _ σ' a' w' hk mE
     ·exact absurd hx.1 (by simp)
    ·rename_i nP
     rw[if_neg nP]at hw
     obtain⟨_,σ',hk,mE⟩:=hw
     rw[BG]
     exact last _ σ' _ _ hk mE
   ·exact ox.elim
def Pe:List MB→(List MB→Prop)→Prop
 |[],F=>F []
 |⟨i,d,av,rd,mh⟩::r,F=>Bv rd fun xO=>Pe r fun s=>F (⟨i,d,av,xO,mh⟩::s)
theorem MY:∀{l:List MB} {F:List MB→Prop},Pe l F→F l
 |[],F,h=>h
 |⟨i,d,av,rd,mh⟩::r,F,h=>MY (l:=r) (F:=fun s=>F (⟨i,d,av,rd,mh⟩::s)) (Y6 h)
def FU(op:Op)(sl:List (Nat×AV)):List (Nat×AV):=op.operands.toList.filterMap fun x=>match x with
 |.tmp t=>(look sl t).map fun a=>(t,a)
 |_=>none
def Gq(ops:Array Oper)(mb:List MB)(i:Nat)(op:Op):Bool:=op.operands.toList.all fun x=>match x with
 |.tmp t=>mb.all fun m=>!(Nat.beq m.d t) || (Dd ops i).contains m.i
 |_=>true
def Qg(ev:Operand→Option AV)(x:Operand):Bool:=match ev x with
 |some a=>O2 a
 |none=>false
def kV(op:Op)(ev:Operand→Option AV):Bool :=
 match op with
 |.move x=>(ev x).isSome
 |.assign x=>(ev x).isSome
 |.binOp _ _ x y _=>Qg ev x && Qg ev y
 |.load _ x=>match ev x with
  |some (.iptr _)=>true
  |_=>false
 |.fieldAddr _ x _=>match ev x with
  |some (.iptr _)=>true
  |some (.ref _ _)=>true
  |_=>false
 |.indexAddr _ x y=>(match ev x with
  |some (.sl _ _)=>true
  |_=>false) && Qg ev y
 |.call ⟨.builtin .len,⟨[x]⟩,⟨[_]⟩⟩=>match ev x with
  |some (.sl _ _)=>true
  |some (.str _)=>true
  |some (.v (.slice none 0 0))=>true
  |_=>false
 |.call ⟨.builtin .max,⟨[x,y]⟩,⟨[_,_]⟩⟩=>match ev x,ev y with
  |some (.v (.int .i64 _)),some (.v (.int .i64 _))=>true
  |_,_=>false
 |.call ⟨.value (.func f),⟨args⟩,_⟩=>match s9 ev args with
  |some l=>M3 l
  |none=>false
 |.build _ ⟨parts⟩=>match CM ev parts with
  |some ps=>ps.all fun p=>O2 p.2
  |none=>false
 |.buildSlice _ _ ⟨parts⟩=>match CM ev parts with
  |some ps=>ps.all fun p=>O2 p.2
  |none=>false
 |.convert _ _ x=>Qg ev x
 |.extract x k=>match ev x with
  |some (.tup l)=>(l[k]?).isSome
  |_=>false
 |.slice _ x lo hi none=>(match ev x with
  |some (.str _)=>true
  |_=>false) && (match lo with
  |some o=>Qg ev o
  |none=>true) && (match hi with
  |some o=>Qg ev o
  |none=>true)
 |.unOp .not _ x=>match ev x with
  |some (.v (.bool _))=>true
  |_=>false
 |.index _ x y=>(match ev x with
  |some (.str _)=>true
  |_=>false) && Qg ev y
 |_=>false
def Pf(ops:Array Oper)(n:Nat)(done:List Bool)(mb:List MB)(sl:List (Nat×AV))(i:Nat):Bool :=
 !(done.getD i false) && !(mb.any fun m=>Nat.beq m.i i) && ((Dd ops i).all fun j=>done.getD j false || mb.any fun m=>Nat.beq m.i j) && match ops[i]? with
  |some ⟨some d,op,_,_,_,none⟩=>kV op (H1 ⟨M4 mb++sl,0,[]⟩) && Bw n sl (⟨i,d,.any,[],[]⟩::mb) && Gq ops mb i op
  |_=>false
theorem Zo{op:Op}{sl:List (Nat×AV)}{p:Nat×AV}(h:p∈FU op sl):look sl p.1=some p.2∧Operand.tmp p.1∈op.operands.toList:=by
 unfold FU at h
 rw[List.mem_filterMap]at h
 obtain⟨x,hx,h⟩:=h
 split at h
 ·rw[Option.map_eq_some_iff]at h
  obtain⟨a,ha,rfl⟩:=h
  exact⟨ha,hx⟩
 ·cases h
theorem Iw{P:Program}{E:Env}{n:Nat}{ops:Array Oper}{done:List Bool}{mb:List MB}{σ:St}{K:St→Prop}{i d:Nat}{op:Op}{ty:TypeId}{pos:String}{after:Array Edge}(oC:ops[i]?=some ⟨some d,op,ty,pos,after,none⟩)
  (qj:Gq ops mb i op=true) (ns:Bw n σ.sl (⟨i,d,.any,[],[]⟩::mb)=true) (sJ:done.getD i false=false) {av:AV} {mh:Hp}
  (hq:∀(E:Env) (nx:Nat) (hp:Hp) (ty:TypeId),NU mh hp→I2 P E nx hp (H1 ⟨FU op (M4 mb++σ.sl),0,[]⟩) op ty av) (hh:NU mh σ.hp)
  (h:E1 P E n ops done (⟨i,d,av,FU op (M4 mb++σ.sl),mh⟩::mb) σ K):E1 P E n ops done mb σ K:=by
 intro lI ki uV mz kn l a w hl h1 h2 rD hs
 obtain⟨c1,c2,c3⟩:=GD ns
 have vR:l.getD i false=false:=by
  cases hx:l.getD i false with
  |false=>rfl
  |true =>
   exfalso
   rcases h2 i hx with h|⟨m,hm,e⟩
   ·rw[sJ]at h;cases h
   ·simp only[Bw,Bool.and_eq_true,List.all_eq_true,Bool.not_eq_true']at ns
    have h3:=(ns.1.2 m hm).2
    rw[e]at h3
    simp at h3
 refine h (fun m hm=>?_) (fun m hm p hp=>?_) (fun m hm=>?_) ns kn l a w hl h1 (fun j hj=>?_) rD ?_
 ·rcases List.mem_cons.1 hm with rfl|hm
  ·exact⟨op,ty,pos,after,oC,hq⟩
  ·exact lI m hm
 ·rcases List.mem_cons.1 hm with rfl|hm
  ·obtain⟨h3,h4⟩:=Zo hp
   rw[V6]at h3
   cases hx:look (M4 mb) p.1 with
   |none=>rw[hx]at h3;exact .inl h3
   |some y =>
    rw[hx]at h3
    cases h3
    obtain⟨m',lg,e1,e2⟩:=Ag hx
    refine .inr ⟨m',List.mem_cons_of_mem _ lg,e1,e2,?_⟩
    have h5:=List.all_eq_true.1 qj _ h4
    have h6:=List.all_eq_true.1 h5 m' lg
    rw[e1]at h6
    simpa using h6
  ·rcases ki m hm p hp with h3|⟨m',lg,h4⟩
   ·exact .inl h3
   ·exact .inr ⟨m',List.mem_cons_of_mem _ lg,h4⟩
 ·rcases List.mem_cons.1 hm with rfl|hm
  ·exact hh
  ·exact uV m hm
 ·rcases h2 j hj with h3|⟨m,hm,e⟩
  ·exact .inl h3
  ·exact .inr ⟨m,List.mem_cons_of_mem _ hm,e⟩
 ·have:j6 l (⟨i,d,av,FU op (M4 mb++σ.sl),mh⟩::mb)=j6 l mb:=by
   unfold j6
   rw[List.filter_cons,if_neg (by simp only[vR];exact Bool.false_ne_true)]
  rw[this]
  exact hs
theorem Qh{P:Program}{E:Env}{n:Nat}{ops:Array Oper}{done:List Bool}{mb:List MB}{σ:St}{K:St→Prop}{i d:Nat}{op:Op}{ty:TypeId}{pos:String}{after:Array Edge}(oC:ops[i]?=some ⟨some d,op,ty,pos,after,none⟩)
  (qj:Gq ops mb i op=true) (ns:Bw n σ.sl (⟨i,d,.any,[],[]⟩::mb)=true) (sJ:done.getD i false=false)
  (h:MV P op (H1 ⟨FU op (M4 mb++σ.sl),0,[]⟩) fun av=>E1 P E n ops done (⟨i,d,av,FU op (M4 mb++σ.sl),[]⟩::mb) σ K):E1 P E n ops done mb σ K:=by
 obtain⟨av,hq,h⟩:=js h
 exact Iw oC qj ns sJ (fun E nx hp ty _=>hq E nx hp ty) (fun p hp=>by cases hp) h
def MZ(P:Program)(T:Nat)(l:List AV)(off:Nat)(F:AV→Prop):Prop:=Ic P T fun ag sz=>cond ag
 (cond (Nat.beq off 0 && Nat.beq l.length sz) (F (.agg l)) (H8 (((l.drop off).take sz).length=sz) (F (.agg ((l.drop off).take sz)))))
 (Y5 (l[off]?) F)
theorem Qi{P:Program}{T off b τ:Nat}{l:List AV}{x:Operand}{ev:Operand→Option AV}{F:AV→Prop}(hx:ev x=some (.ref b off))(h:MZ P T l off F):
  ∃av,(∀(E:Env) (nx:Nat) (hp:Hp) (ty:TypeId),NU [(b,some (.bx τ l))] hp→I2 P E nx hp ev (.load T x) ty av)∧F av:=by
 unfold MZ at h
 obtain⟨⟨ag,sz,tv,h⟩⟩:=h
 have hb:∀hp,NU [(b,some (.bx τ l))] hp→A7 hp b=some (.bx τ l):=fun hp h=>h _ (List.mem_singleton.2 rfl)
 cases ag with
 |true =>
  change cond (Nat.beq off 0 && Nat.beq l.length sz) _ _ at h
  cases hc:Nat.beq off 0 && Nat.beq l.length sz with
  |true =>
   rw[hc]at h
   simp only[Bool.and_eq_true]at hc
   have h0:=Nat.eq_of_beq_eq_true hc.1
   subst h0
   exact⟨_,fun _ _ hp _ hh=>Lp (sz:=sz) hx (hb hp hh) (Nat.eq_of_beq_eq_true hc.2),h⟩
  |false =>
   rw[hc]at h
   exact⟨_,fun _ _ hp _ hh=>Dj (sz:=sz) hx (hb hp hh) rfl h.h,h.k⟩
 |false =>
  obtain⟨av,ha,h⟩:=L2 h
  exact⟨av,fun _ _ hp _ hh=>Lo (sz:=sz) hx (hb hp hh) ha,h⟩
def gO(ops:Array Oper)(j:Nat):Bool:=match ops[j]? with
 |some o=>match o.op with
  |.store ..=>true
  |.mapUpdate ..=>true
  |.call ⟨.builtin .len,_,_⟩=>false
  |.call ⟨.builtin .max,_,_⟩=>false
  |.call ⟨.builtin .min,_,_⟩=>false
  |.call _=>true
  |_=>false
 |none=>false
def cV(ops:Array Oper)(n:Nat)(done:List Bool)(mb:List MB)(σ:St)(i:Nat):Bool :=
 !(done.getD i false) && !(mb.any fun m=>Nat.beq m.i i) && ((Dd ops i).all fun j=>done.getD j false || mb.any fun m=>Nat.beq m.i j) && match ops[i]? with
  |some ⟨some d,.load T x,_,_,_,none⟩=>(match H1 ⟨M4 mb++σ.sl,0,[]⟩ x with
   |some (.ref b _)=>match A7 σ.hp b with
    |some (.bx _ _)=>true
    |_=>false
   |_=>false) && Bw n σ.sl (⟨i,d,.any,[],[]⟩::mb) && Gq ops mb i (.load T x) && ((List.range ops.size).all fun j=>done.getD j false || !(gO ops j) || (Dd ops j).contains i)
  |_=>false
structure gP(F:List (Nat×AV)→Prop):Prop where
 h:∀ex,F ex
theorem ju{F:List (Nat×AV)→Prop}(h:∀ex,F ex):gP F:=⟨h⟩
structure Jt(P:Program)(E:Env)(n:Nat)(ops:Array Oper)(done:List Bool)(mb:List MB)(σ:St)(K:St→Prop)(r:List Nat):Prop where
 h:VU P E n ops done mb σ K r
theorem dQ{P:Program}{E:Env}{n:Nat}{ops:Array Oper}{done:List Bool}{mb:List MB}{σ:St}{K:St→Prop}:Jt P E n ops done mb σ K []:=⟨trivial⟩
def VV(P:Program)(E:Env)(n:Nat)(ops:Array Oper)(done:List Bool)(mb:List MB)(σ:St)(K:St→Prop)(i:Nat):Prop :=
 match ops[i]? with
 |some o=>Bv (M4 (Ah ops mb i)++σ.sl) fun tI=>gP fun ex=>B5 P E n ops [o] ⟨tI++ex,σ.nx,σ.hp⟩ fun σ'=>MU P E n ops (Iu ops done mb i) (y8 ops mb i) K (M4 (Ah ops mb i)++σ.sl) (match o.dst,o.guard with
  |some _,some _=>(Ah ops mb i).length+σ.sl.length+2
  |some _,none=>(Ah ops mb i).length+σ.sl.length+1
  |none,_=>(Ah ops mb i).length+σ.sl.length) ex σ.hp σ'
 |none=>False
theorem VW{P:Program}{E:Env}{n:Nat}{ops:Array Oper}{done:List Bool}{mb:List MB}{σ:St}{K:St→Prop}{i:Nat}(h:VV P E n ops done mb σ K i):MW P E n ops done mb σ K i:=by
 unfold VV at h
 unfold MW
 split at h
 ·have h2:=(Y6 h).h
  simp only[List.append_assoc]at h2
  exact h2
 ·exact h.elim
theorem dS{P:Program}{E:Env}{n:Nat}{ops:Array Oper}{done:List Bool}{mb:List MB}{σ:St}{K:St→Prop}{i:Nat}{r:List Nat}(h:VV P E n ops done mb σ K i)(k:Jt P E n ops done mb σ K r):Jt P E n ops done mb σ K (i::r):=⟨⟨VW h,k.h⟩⟩
theorem dT{P:Program}{E:Env}{n:Nat}{ops:Array Oper}{done:List Bool}{mb:List MB}{K:St→Prop}{base:List (Nat×AV)}{k:Nat}{ex:List (Nat×AV)}{rG:Hp}{σ':St}(h0:(FT mb).map (A7 σ'.hp)=(FT mb).map (A7 rG))(h1:σ'.sl=σ'.sl.take k++ex)(h2:(BH mb).map (look (σ'.sl.take k))=(BH mb).map (look base))(h3:Bw n (σ'.sl.take k) mb=true)
  (h4:Bv (σ'.sl.take k) fun tI=>Y7 σ'.hp fun nZ=>J5 σ'.nx fun pi=>Jr done fun pR=>Pe mb fun ur=>E1 P E n ops pR ur ⟨tI,pi,nZ⟩ K):MU P E n ops done mb K base k ex rG σ' :=
 ⟨h0,h1,h2,h3,MY (Es (F8 (Y8 (Y6 h4))))⟩
def gQ(P:Program)(E:Env)(n:Nat)(ops:Array Oper)(done:List Bool)(mb:List MB)(σ:St)(K:St→Prop):Prop :=
 match (List.range ops.size).find? (Pf ops n done mb σ.sl)with
 |some i=>match ops[i]? with
  |some ⟨some d,op,_,_,_,none⟩=>Bv (FU op (M4 mb++σ.sl)) fun rd=>MV P op (H1 ⟨rd,0,[]⟩) fun av=>E1 P E n ops done (⟨i,d,av,rd,[]⟩::mb) σ K
  |_=>False
 |none=>match (List.range ops.size).find? (cV ops n done mb σ)with
  |some i=>match ops[i]? with
   |some ⟨some d,.load T x,_,_,_,none⟩=>Bv (FU (.load T x) (M4 mb++σ.sl)) fun rd=>match H1 ⟨rd,0,[]⟩ x with
    |some (.ref b off)=>match A7 σ.hp b with
     |some (.bx τ l)=>MZ P T l off fun av=>E1 P E n ops done (⟨i,d,av,rd,[(b,some (.bx τ l))]⟩::mb) σ K
     |_=>False
    |_=>False
   |_=>False
  |none=>MQ (Iv ops done mb) fun L=>match L with
   |[]=>cond (MX ops done mb) (K ⟨M4 mb++σ.sl,σ.nx,σ.hp⟩) False
   |i::r=>Jt P E n ops done mb σ K (i::r)
theorem OU{P:Program}{E:Env}{n:Nat}{ops:Array Oper}{done:List Bool}{mb:List MB}{σ:St}{K:St→Prop}(kf:Nat.beq done.length ops.size=true)(lE:FH ops=true)
  (h:MQ (Iv ops done mb) fun L=>match L with
   |[]=>cond (MX ops done mb) (K ⟨M4 mb++σ.sl,σ.nx,σ.hp⟩) False
   |i::r=>Jt P E n ops done mb σ K (i::r)):E1 P E n ops done mb σ K:=by
 have h:=MR h
 split at h
 ·rename_i hr
  obtain⟨ha,h⟩:=cond_false h
  exact Tu kf lE (fun _=>h) (by rw[hr];trivial)
 ·rename_i i r hr
  refine Tu kf lE (fun ha=>?_) (by rw[hr];exact h.h)
  exfalso
  have lj:i∈Iv ops done mb:=by rw[hr];simp
  unfold Iv at lj
  rw[List.mem_filter]at lj
  have h2:=List.all_eq_true.1 ha i lj.1
  have h3:=lj.2
  simp only[Bool.and_eq_true,Bool.not_eq_true']at h3
  rw[h3.1.1,h3.1.2]at h2
  cases h2
theorem OV{P:Program}{E:Env}{n:Nat}{ops:Array Oper}{done:List Bool}{mb:List MB}{σ:St}{K:St→Prop}(kf:Nat.beq done.length ops.size=true)(lE:FH ops=true)(h:gQ P E n ops done mb σ K):E1 P E n ops done mb σ K:=by
 unfold gQ at h
 split at h
 ·rename_i i hi
  have hc:=List.find?_some hi
  split at h
  ·rename_i d op ty pos after oC
   simp only[Pf,oC,Bool.and_eq_true,Bool.not_eq_true']at hc
   exact Qh oC hc.2.2 hc.2.1.2 hc.1.1.1 (Y6 h)
  ·exact h.elim
 ·split at h
  ·rename_i i hi
   have hc:=List.find?_some hi
   split at h
   ·rename_i d T x ty pos after oC
    have h:=Y6 h
    split at h
    ·rename_i b off hx
     split at h
     ·rename_i τ l hb
      simp only[cV,oC,Bool.and_eq_true,Bool.not_eq_true']at hc
      obtain⟨av,hq,h⟩:=Qi (τ:=τ) hx h
      exact Iw oC hc.2.1.2 hc.2.1.1.2 hc.1.1.1 hq (fun p hp=>by rw[List.mem_singleton.1 hp];exact hb) h
     ·exact h.elim
    ·exact h.elim
   ·exact h.elim
  ·exact OU kf lE h
theorem Qj{P:Program}{E:Env}{n:Nat}{ops:Array Oper}{σ:St}{K:St→Prop}(h:E1 P E n ops (AH ops) [] σ K):E5 P E n ops ops.size (AH ops) σ K:=fun a w hs =>
 h (fun m hm=>by cases hm) (fun m hm=>by cases hm) (fun m hm=>by cases hm) rfl ops.size (AH ops) a w (by simp[AH]) (fun i h=>h) (fun i h=>.inl h) (by
  have:=List.count_le_length (a:=false) (l:=AH ops)
  simpa [AH]using this) hs
theorem C5{P:Program}{E:Env}{n:Nat}{ops:Array Oper}{σ:St}{Q:Exit→St→Prop}{id:Nat}[hm:NQ P](S:St)(h:Jr (AH ops) fun d=>Bv σ.sl fun sl=>E1 P E n ops d [] ⟨sl,σ.nx,σ.hp⟩ fun σ'=>St.le E n σ' S)(k:Q .normal S):EL P E n id ops σ Q:=Bg S (Qj (Y6 (Es h))) k
def gR(S:Nat→List AV→Prop):List Nat→List AV→Prop
 |[],l=>l=[]
 |t::r,l=>∃a b,S t a∧gR S r b∧l=a++b
def gS(S:List AV→Prop):Nat→List AV→Prop
 |0,l=>l=[]
 |n+1,l=>∃a b,S a∧gS S n b∧l=a++b
def Ix(P:Program)(tot:Nat):List Field→Nat→Bool
 |[],o=>Nat.beq o tot
 |f::r,o=>Nat.beq f.offset o && Ix P tot r (o+P.cellsOf f.type)
def Sh(P:Program):Nat→TypeId→List AV→Prop
 |0,_,_=>False
 |f+1,t,l=>match P.underlying t with
  |some .bool=>∃b,l=[.v (.bool b)]
  |some (.int k)=>∃n,(Lit.int k n).wf=true∧l=[.v (.int k n)]
  |some .string=>∃s,s.length≤maxLen∧l=[.str s]
  |some (.slice e)=>∃ls,ls.length≤maxLen∧(∀x∈ls,Sh P f e x)∧l=[.sl (P.cellsOf e) ls]
  |some (.struct fs)=>Ix P (P.cellsOf t) fs.toList 0=true→gR (Sh P f) (fs.toList.map (·.type)) l
  |some (.array n e)=>P.cellsOf t=n*P.cellsOf e→gS (Sh P f e) n l
  |_=>True
def Gr:Nat→Prop:=fun _=>False
def De(w:World)(l:List AV)(cs:List Value):Prop:=l.length=cs.length∧∀(j:Nat) x y,l[j]?=some x→cs[j]?=some y→Im Gr w x y
theorem De.nil{w:World}:De w [] []:=⟨rfl,fun j x y h=>by simp at h⟩
theorem De.one{w:World}{a:AV}{v:Value}(h:Im Gr w a v):De w [a] [v]:=⟨rfl,fun j x y hx hy=>by
 cases j with
 |zero=>simp at hx hy;subst hx hy;exact h
 |succ j=>simp at hx⟩
theorem De.app{w:World}{l m:List AV}{cs ds:List Value}(h:De w l cs)(h':De w m ds):De w (l++m) (cs++ds):=by
 refine⟨by rw[List.length_append,List.length_append,h.1,h'.1],fun j x y hx hy=>?_⟩
 by_cases hj:j<l.length
 ·rw[List.getElem?_append_left hj]at hx
  rw[List.getElem?_append_left (by rw[←h.1];exact hj)]at hy
  exact h.2 j x y hx hy
 ·rw[List.getElem?_append_right (by omega)]at hx
  rw[List.getElem?_append_right (by rw[←h.1];omega),←h.1]at hy
  exact h'.2 _ x y hx hy
theorem De.raw{w:World}(cs:List Value):De w (cs.map .v) cs:=⟨by simp,fun j x y hx hy=>by
 rw[List.getElem?_map,hy]at hx
 simp at hx;subst hx;exact .v _⟩
theorem Hg{α β:Type}{f:α→Option β}:∀{l:List α} {r:List β},l.mapM f=some r→r.length=l.length∧∀(i:Nat) x,l[i]?=some x→∃y,r[i]?=some y∧f x=some y
 |[],r,h=>by simp at h;subst h;simp
 |a::l,r,h=>by
  rw[List.mapM_cons]at h
  cases ha:f a with
  |none=>rw[ha]at h;cases h
  |some y =>
   rw[ha]at h
   cases hl:l.mapM f with
   |none=>rw[hl]at h;cases h
   |some r' =>
    rw[hl]at h
    cases h
    obtain⟨h1,h2⟩:=Hg hl
    refine⟨by simp[h1],fun i x hi=>?_⟩
    cases i with
    |zero=>simp at hi;subst hi;exact⟨y,rfl,ha⟩
    |succ i=>simp at hi;simpa using h2 i x hi
theorem TA{w:World}{base:Nat}{a:Addr}{n:Nat}{cs:List Value}(h:w.cells? base a n=some cs):cs.length=n∧∀j,j<n→∃v,cs[j]?=some v∧w.cell? (a.add j)=some v:=by
 unfold World.cells? at h
 split at h
 ·obtain⟨h1,h2⟩:=Hg h
  rw[List.length_range]at h1
  refine⟨h1,fun j hj=>?_⟩
  obtain⟨y,hy,hc⟩:=h2 j j (by rw[List.getElem?_range hj])
  exact⟨y,hy,hc⟩
 ·cases h
theorem Zp{α:Type}(n:Nat)(f:Nat→α)(i:Nat):((List.range n).map f)[i]?=if i<n then some (f i)else none:=by
 by_cases h:i<n
 ·simp[h]
 ·simp[h]
section
variable {H:Type} {enc:TypeId×Value→H} {P:Program} {w:World} {base:Nat} {spare:Nat→Bool} {held:Bool}
theorem OW{S:Nat→List AV→Prop}{T:Nat→List Value→Option (DataW H×List MemPlace)}(hT:∀t cs y,T t cs=some y→∃l,S t l∧De w l cs){tot:Nat}(cs:List Value)(oP:cs.length=tot):
  ∀(fs:List Field) (o:Nat) {r},Ix P tot fs o=true→(fs.mapM fun f=>T f.type ((cs.drop f.offset).take (P.cellsOf f.type)))=some r→∃l,gR S (fs.map (·.type)) l∧De w l (cs.drop o)
 |[],o,r,hc,h=>by
  have:o=tot:=Nat.eq_of_beq_eq_true hc
  exact⟨[],rfl,by rw[List.drop_of_length_le (by omega)];exact .nil⟩
 |f::fs,o,r,hc,h=>by
  simp only[Ix,Bool.and_eq_true]at hc
  have ho:f.offset=o:=Nat.eq_of_beq_eq_true hc.1
  rw[List.mapM_cons]at h
  cases ha:T f.type ((cs.drop f.offset).take (P.cellsOf f.type))with
  |none=>rw[ha]at h;cases h
  |some y =>
   rw[ha]at h
   cases hl:(fs.mapM fun f=>T f.type ((cs.drop f.offset).take (P.cellsOf f.type)))with
   |none=>rw[hl]at h;cases h
   |some r' =>
    obtain⟨a,vE,vu⟩:=hT _ _ _ ha
    obtain⟨b,me,ll⟩:=OW hT cs oP fs _ hc.2 hl
    refine⟨a++b,⟨a,b,vE,me,rfl⟩,?_⟩
    have:=vu.app ll
    rw[ho,←List.drop_drop,List.take_append_drop]at this
    exact this
theorem Qk{S:List AV→Prop}{c:Nat}{T:List Value→Option (DataW H×List MemPlace)}(hT:∀cs y,T cs=some y→∃l,S l∧De w l cs)(cs:List Value):
  ∀(n i:Nat),cs.length=(i+n)*c→(∀k,k<n→∃y,T ((cs.drop ((i+k)*c)).take c)=some y)→∃l,gS S n l∧De w l (cs.drop (i*c))
 |0,i,hl,_=>⟨[],rfl,by rw[List.drop_of_length_le (by rw[hl,Nat.add_zero];exact Nat.le_refl _)];exact .nil⟩
 |n+1,i,hl,h=>by
  obtain⟨y,hy⟩:=h 0 (by omega)
  obtain⟨a,vE,vu⟩:=hT _ _ hy
  obtain⟨b,me,ll⟩:=Qk hT cs n (i+1) (by rw[hl];congr 1;omega) (fun k hk=>by
   obtain⟨z,hz⟩:=h (k+1) (by omega)
   exact⟨z,by rw[show i+1+k=i+(k+1) by omega];exact hz⟩)
  refine⟨a++b,⟨a,b,vE,me,rfl⟩,?_⟩
  have:=vu.app ll
  rw[Nat.add_zero,Nat.add_mul,Nat.one_mul,←List.drop_drop,List.take_append_drop]at this
  exact this
theorem dU:∀(kn:Nat) (t:TypeId) (cs:List Value) (y:DataW H×List MemPlace),DataW.trod enc P w base spare held kn t cs=some y→∃l,Sh P kn t l∧De w l cs:=by
 intro kn
 induction kn with
 |zero=>intro t cs y h;simp[DataW.trod]at h
 |succ f ih =>
  intro t cs y h
  have raw:(∀l,Sh P (f+1) t l)→∃l,Sh P (f+1) t l∧De w l cs:=fun lC=>⟨_,lC _,.raw cs⟩
  unfold DataW.trod at h
  split at h
  ·rename_i ht
   exact⟨[.v (.bool _)],by simp only[Sh,ht];exact⟨_,rfl⟩,.one (.v _)⟩
  ·rename_i k k' n ht
   split at h
   ·rename_i hk
    obtain⟨rfl,yC⟩:=hk
    exact⟨[.v (.int k' n)],by simp only[Sh,ht];exact⟨_,yC,rfl⟩,.one (.v _)⟩
   ·cases h
  ·rename_i ht;exact raw fun l=>by simp only[Sh,ht]
  ·rename_i s ht
   split at h
   ·rename_i hs
    refine⟨[.str s.data.toList],by simp only[Sh,ht];exact⟨_,by rw[Array.length_toList];exact hs,rfl⟩,.one ?_⟩
    have:=Im.str (U:=Gr) (w:=w) s.data.toList
    simpa using this
   ·cases h
  ·rename_i ht;exact raw fun l=>by simp only[Sh,ht]
  ·rename_i ht;exact raw fun l=>by simp only[Sh,ht]
  ·rename_i e ht
   exact⟨[.sl (P.cellsOf e) []],by simp only[Sh,ht];exact⟨[],Nat.zero_le _,(fun x hx=>by cases hx),rfl⟩,.one (.slnil _)⟩
  ·rename_i e a len cap ht
   simp only at h
   split at h
   ·rename_i hb
    obtain⟨nj,xN,qn⟩:=hb
    rw[Option.bind_eq_some_iff]at h
    obtain⟨elems,ke,_⟩:=h
    obtain⟨_,uq⟩:=Hg ke
    have key:∀i,∃p:List AV×List Value,i<len→Sh P f e p.1∧De w p.1 p.2∧p.2.length=P.cellsOf e∧∀j,j<P.cellsOf e→∃v,p.2[j]?=some v∧w.cell? (a.add (i*P.cellsOf e+j))=some v:=by
     intro i
     by_cases hi:i<len
     ·obtain⟨z,_,hz⟩:=uq i i (by rw[List.getElem?_range hi])
      rw[Option.bind_eq_some_iff]at hz
      obtain⟨yI,oP,xL⟩:=hz
      obtain⟨kf,lU⟩:=TA oP
      obtain⟨l,hsh,hp⟩:=ih _ _ _ xL
      exact⟨(l,yI),fun _=>⟨hsh,hp,kf,fun j hj=>by
       obtain⟨v,hv,hc⟩:=lU j hj
       rw[Dl]at hc
       exact⟨v,hv,hc⟩⟩⟩
     ·exact⟨([],[]),fun h=>absurd h hi⟩
    have pH:=fun i=>Classical.choose_spec (key i)
    generalize hg:(fun i=>Classical.choose (key i))=g at pH
    have gi:∀i,Classical.choose (key i)=g i:=fun i=>congrFun hg i
    simp only[gi]at pH
    refine⟨[.sl (P.cellsOf e) ((List.range len).map fun i=>(g i).1)],?_,.one ?_⟩
    ·simp only[Sh,ht]
     refine⟨_,by simp;omega,fun x hx=>?_,rfl⟩
     obtain⟨i,hi,rfl⟩:=List.mem_map.1 hx
     exact(pH i (List.mem_range.1 hi)).1
    ·have hl:((List.range len).map fun i=>(g i).1).length=len:=by simp
     have:=Im.sl (U:=Gr) (w:=w) (P.cellsOf e) ((List.range len).map fun i=>(g i).1) a cap (fun i j=>(g i).2.getD j undef) (by rw[hl];exact xN) qn (fun _ _ h=>h)
      (fun x hx=>by
       obtain⟨i,hi,rfl⟩:=List.mem_map.1 hx
       obtain⟨_,h1,h2,_⟩:=pH i (List.mem_range.1 hi)
       rw[h1.1,h2])
      (fun i hi j hj=>by
       rw[hl]at hi
       obtain⟨_,_,_,h3⟩:=pH i hi
       obtain⟨v,hv,hc⟩:=h3 j hj
       simp only[List.getD_eq_getElem?_getD,hv]
       exact hc)
      (fun i x hx j u hu=>by
       rw[Zp]at hx
       split at hx
       ·rename_i hi
        cases hx
        obtain⟨_,h1,h2,h3⟩:=pH i hi
        have hj:j<P.cellsOf e:=by rw[←h2,←h1.1];exact(List.getElem?_eq_some_iff.1 hu).1
        obtain⟨v,hv,_⟩:=h3 j hj
        simp only[List.getD_eq_getElem?_getD,hv]
        exact h1.2 j u v hu hv
       ·cases hx)
     rw[hl]at this
     exact this
   ·cases h
  ·rename_i fs ht
   split at h
   ·rename_i hl
    rw[Option.map_eq_some_iff]at h
    obtain⟨r,hr,_⟩:=h
    by_cases hc:Ix P (P.cellsOf t) fs.toList 0=true
    ·obtain⟨l,h1,h2⟩:=OW (S:=Sh P f) (fun t cs y h=>ih t cs y h) _ hl fs.toList 0 hc hr
     exact⟨l,by simp only[Sh,ht];exact fun _=>h1,by simpa using h2⟩
    ·exact raw fun l=>by simp only[Sh,ht];exact fun h=>absurd h hc
   ·cases h
  ·rename_i n e ht
   split at h
   ·rename_i hl
    rw[Option.map_eq_some_iff]at h
    obtain⟨r,hr,_⟩:=h
    by_cases hc:P.cellsOf t=n*P.cellsOf e
    ·obtain⟨_,oV⟩:=Hg hr
     obtain⟨l,h1,h2⟩:=Qk (S:=Sh P f e) (c:=P.cellsOf e) (T:=fun cs=>DataW.trod enc P w base spare held f e cs) (fun cs y h=>ih e cs y h) _ n 0 (by rw[hl,hc,Nat.zero_add]) (fun k hk=>by
      obtain⟨z,_,hz⟩:=oV k k (by rw[List.getElem?_range hk])
      exact⟨z,by rw[Nat.zero_add];exact hz⟩)
     exact⟨l,by simp only[Sh,ht];exact fun _=>h1,by simpa using h2⟩
    ·exact raw fun l=>by simp only[Sh,ht];exact fun h=>absurd h hc
   ·cases h
  all_goals first
   |cases h;done
   |(rename_i ht;exact raw (by intro l;simp only[Sh,ht]))
   |(rename_i ht;split at h<;>first|(cases h;done)|exact raw (by intro l;simp only[Sh,ht]))
   |(rename_i ht _;exact raw (by intro l;simp only[Sh,ht]))
def Ai(P:Program)(t:TypeId)(a:AV):Prop:=match P.underlying t with
 |some (.struct _)|some (.array _ _)=>∃kn l,a=.agg l∧Sh P kn t l
 |_=>∃kn,Sh P kn t [a]
theorem Ql{v:Value}(h:∀cs,v≠.agg cs):v.cells=#[v]:=by
 cases v<;>first|rfl|exact absurd rfl (h _)
theorem TB{r:Reach}{b0:Nat}{t:TypeId}{v:Value}(h:Cell.okWide P w r b0 t v):∀cs,v≠.agg cs:=by
 rintro cs rfl
 simp only[Cell.okWide,Cell.ok]at h
 split at h<;>simp_all
theorem Zq{r:Reach}{b0:Nat}{t:TypeId}{v:Value}{d:DataW H}{ps:List MemPlace}(lI:Value.okWide P w r b0 t v)(h:DataW.Trod enc P w base spare held t v d ps):∃a,Ai P t a∧Im Gr w a v:=by
 obtain⟨kn,h⟩:=h
 obtain⟨l,hs,hp⟩:=dU kn t _ _ h
 have one:(∀cs,v≠.agg cs)→∃a,l=[a]∧Im Gr w a v:=by
  intro uN
  rw[Ql uN]at hp
  obtain⟨h1,h2⟩:=hp
  match l,h1,h2 with
  |[a],_,h2=>exact⟨a,rfl,h2 0 a v rfl rfl⟩
 have agg:∀cs,v=.agg cs→Im Gr w (.agg l) v:=by
  rintro cs rfl
  have qJ:De w l cs.toList:=hp
  have:=Im.agg (U:=Gr) (w:=w) l cs.toList qJ.1 qJ.2
  simpa using this
 unfold Ai
 unfold Value.okWide at lI
 split at lI
 ·rename_i ht
  obtain⟨cs,hv,_⟩:=lI
  exact⟨.agg l,(by simp only[ht];exact⟨kn,l,rfl,hs⟩),agg cs hv⟩
 ·rename_i ht
  obtain⟨cs,hv,_⟩:=lI
  exact⟨.agg l,(by simp only[ht];exact⟨kn,l,rfl,hs⟩),agg cs hv⟩
 ·obtain⟨a,rfl,ha⟩:=one (TB lI)
  refine⟨a,?_,ha⟩
  split
  all_goals first|exact⟨kn,hs⟩|(exfalso;simp_all)
def Ju(P:Program):List TypeId→List AV→Prop
 |[],l=>l=[]
 |t::ts,l=>∃a r,l=a::r∧Ai P t a∧Ju P ts r
theorem OX{r:Reach}{b0:Nat}:∀{ts:List TypeId} {vs:List Value} {ds:List (DataW H)} {ps:List MemPlace},(∀(j:Nat) t v,ts[j]?=some t→vs[j]?=some v→Value.okWide P w r b0 t v)→DataW.TrodAll enc P w base spare held ts vs ds ps →
  ds.length=ts.length∧∃l,Ju P ts l∧l.length=vs.length∧∀(j:Nat) a v,l[j]?=some a→vs[j]?=some v→Im Gr w a v
 |[],[],[],ps,_,_=>⟨rfl,[],rfl,rfl,fun j a v h=>by simp at h⟩
 |[],[],_::_,ps,_,h=>h.elim
 |[],_::_,_,ps,_,h=>h.elim
 |_::_,[],_,ps,_,h=>h.elim
 |_::_,_::_,[],ps,_,h=>h.elim
 |t::ts,v::vs,d::ds,ps,lI,h=>by
  obtain⟨p,q,h1,h2,_⟩:=h
  obtain⟨a,ha,hi⟩:=Zq (lI 0 t v rfl rfl) h1
  obtain⟨hd,l,hl,kf,hr⟩:=OX (ts:=ts) (vs:=vs) (fun j t v ht hv=>lI (j+1) t v (by simpa using ht) (by simpa using hv)) h2
  refine⟨by simp[hd],a::l,⟨a,l,rfl,ha,hl⟩,by simp[kf],fun j x y hx hy=>?_⟩
  cases j with
  |zero=>simp at hx hy;subst hx hy;exact hi
  |succ j=>exact hr j x y (by simpa using hx) (by simpa using hy)
theorem OY(hl:laidOutB P=true){w':World}(hb:Below w.heap.size w w'):∀{ts:List TypeId} {vs:List Value} {ds:List (DataW H)} {ps:List MemPlace},(ts.all fun t=>P.readableRec t && decide (t<P.types.size))=true→(∀x∈ps,x.block<w.heap.size) →
  DataW.TrodAll enc P w 0 (fun _=>true) true ts vs ds ps→DataW.TrodAll enc P w' 0 (fun b=>decide (b<w.heap.size)) true ts vs ds ps
 |[],[],[],ps,_,_,h=>h
 |[],[],_::_,ps,_,_,h=>h.elim
 |[],_::_,_,ps,_,_,h=>h.elim
 |_::_,[],_,ps,_,_,h=>h.elim
 |_::_,_::_,[],ps,_,_,h=>h.elim
 |t::ts,v::vs,d::ds,ps,hr,kj,h=>by
  obtain⟨p,q,h1,h2,rfl⟩:=h
  rw[List.all_cons,Bool.and_eq_true,Bool.and_eq_true]at hr
  exact⟨p,q,Below.trod hl hr.1.1 (of_decide_eq_true hr.1.2) h1 hb fun x hx=>kj x (by simp[hx]),OY hl hb hr.2 (fun x hx=>kj x (by simp[hx])) h2,rfl⟩
theorem Zr{f:Nat}{fn:Func}{s:ChangeSpec}{tb:TypeId}{handsOn:Bool}{W:World}{args:Array Value}{ds gs:List (DataW H)}{before:List MemPlace}{b0:Nat}{r:Reach}
  (hl:laidOutB P=true) (hr:(fn.params.toList.all fun t=>P.readableRec t && decide (t<P.types.size))=true) (mL:P.underlying tb=some .bool) (xr:fn.resultTypes=#[tb])
  (qz:s.vars=[]) (hs:∀ds:List (DataW H),ds.length=fn.params.toList.length→s.fn H (ds++[])={ results:=[.lit (.bool true)],args:=ds })
  (pQ:∀l,Ju P fn.params.toList l→A4 P f l (.b true))
  (mQ:w7 Gr W) (hval:∀(j:Nat) t v,fn.params[j]?=some t→args[j]?=some v→Value.okWide P W r b0 t v)
  (hW:DataW.Whole enc P fn.params.toList s.vars false W args.toList ds gs before) :
  Calls P f args W fun e W'=>∃v,e=.returned v∧s.post enc P fn false true handsOn false W args v W':=by
 have wc:=hW
 obtain⟨p,q,hA,hV,rfl,wU,sJ⟩:=hW
 obtain⟨mK,l,hsh,pv,ly⟩:=OX (r:=r) (b0:=b0) (fun j t v ht hv=>hval j t v (by simpa using ht) (by simpa using hv)) hA
 have kj:∀x∈p++q,x.block<W.heap.size:=fun x hx=>wc.lt x hx
 rw[qz]at hV
 obtain⟨rfl,rfl⟩:gs=[]∧q=[]:=by
  cases gs with
  |nil=>exact⟨rfl,hV⟩
  |cons a b=>exact hV.elim
 have hc:=(pQ l hsh).2 Gr W args.toList (fun k hk=>hk.elim) mQ pv ly
 have ea:args.toList.toArray=args:=by simp
 rw[ea]at hc
 refine hc.mono fun e W' ⟨v,he,hi,hb⟩=>?_
 subst he
 cases hi
 refine⟨_,rfl,ds,[],p++[],[],p,[],wc,?_,?_,?_,?_,fun h=>by cases h⟩
 ·rw[xr,hs ds mK]
  exact⟨[],[],shut_bool mL true,rfl,rfl⟩
 ·rw[hs ds mK]
  exact OY hl hb hr (fun x hx=>kj x (by simp[hx])) hA
 ·rw[qz,hs ds mK]
  rfl
 ·exact Below.frame hb _
end
section
variable {P:Program}
theorem XP{k:IntKind}{n:Int}(h:(Lit.int k n).wf=true):k.min≤n∧n≤k.max:=by
 simpa [Lit.wf]using h
theorem wf_u8{n:Int}(h:(Lit.int .u8 n).wf=true):0≤n∧n<256:=by
 obtain⟨h1,h2⟩:=XP h
 have e1:IntKind.min .u8=0:=rfl
 have e2:IntKind.max .u8=255:=rfl
 omega
theorem wf_i64{n:Int}(h:(Lit.int .i64 n).wf=true):-9223372036854775808≤n∧n≤9223372036854775807:=by
 obtain⟨h1,h2⟩:=XP h
 have e1:IntKind.min .i64=-9223372036854775808:=by decide
 have e2:IntKind.max .i64=9223372036854775807:=by decide
 omega
theorem Qm{f t:Nat}{l:List AV}{k:IntKind}(ht:P.underlying t=some (.int k))(h:Sh P f t l):∃n,(Lit.int k n).wf=true∧l=[.v (.int k n)]:=by
 cases f with
 |zero=>exact h.elim
 |succ f=>simpa only[Sh,ht]using h
theorem gT{f t:Nat}{l:List AV}(ht:P.underlying t=some .string)(h:Sh P f t l):∃s,s.length≤maxLen∧l=[.str s]:=by
 cases f with
 |zero=>exact h.elim
 |succ f=>simpa only[Sh,ht]using h
theorem Zs{f t e c:Nat}{l:List AV}(ht:P.underlying t=some (.slice e))(hc:P.cellsOf e=c)(h:Sh P f t l):∃f' ls,ls.length≤maxLen∧(∀x∈ls,Sh P f' e x)∧l=[.sl c ls]∧f=f'+1:=by
 cases f with
 |zero=>exact h.elim
 |succ f =>
  simp only[Sh,ht]at h
  obtain⟨ls,h1,h2,h3⟩:=h
  exact⟨f,ls,h1,h2,by rw[h3,hc],rfl⟩
def NV(P:Program)(t:Nat):Bool:=match P.underlying t with
 |some (.struct _)|some (.array _ _)=>true
 |_=>false
theorem Jv{t:Nat}{a:AV}(ht:NV P t=false)(h:Ai P t a):∃kn,Sh P kn t [a]:=by
 unfold Ai at h
 unfold NV at ht
 split at ht
 ·cases ht
 ·cases ht
 ·split at h
  all_goals first|exact h|(exfalso;simp_all)
theorem gU{t:Nat}{a:AV}(ht:P.underlying t=some (.int .u8))(h:Ai P t a):∃n:Nat,n<256∧a=.v (.int .u8 n):=by
 obtain⟨f,h⟩:=Jv (by simp[NV,ht]) h
 obtain⟨n,hw,e⟩:=Qm ht h
 obtain⟨h1,h2⟩:=wf_u8 hw
 refine⟨n.toNat,by omega,?_⟩
 rw[Int.toNat_of_nonneg h1]
 simpa using e
theorem dV{t:Nat}{a:AV}(ht:P.underlying t=some (.int .i64))(h:Ai P t a):∃n:Int,(-9223372036854775808≤n∧n≤9223372036854775807)∧a=.i n:=by
 obtain⟨f,h⟩:=Jv (by simp[NV,ht]) h
 obtain⟨n,hw,e⟩:=Qm ht h
 exact⟨n,wf_i64 hw,by simpa using e⟩
theorem dW{t:Nat}{a:AV}(ht:P.underlying t=some .string)(h:Ai P t a):∃s:List UInt8,s.length≤maxLen∧a=.str s:=by
 obtain⟨f,h⟩:=Jv (by simp[NV,ht]) h
 obtain⟨s,hl,e⟩:=gT ht h
 exact⟨s,hl,by simpa using e⟩
theorem XQ{t e c:Nat}{a:AV}(ht:P.underlying t=some (.slice e))(hc:P.cellsOf e=c)(h:Ai P t a):∃f ls,ls.length≤maxLen∧(∀x∈ls,Sh P f e x)∧a=.sl c ls:=by
 obtain⟨f,h⟩:=Jv (by simp[NV,ht]) h
 obtain⟨f',ls,h1,h2,h3,_⟩:=Zs ht hc h
 exact⟨f',ls,h1,h2,by simpa using h3⟩
theorem Qn{α:Type}{F:α→List AV}{R:α→Prop}:∀{ls:List (List AV)},(∀x∈ls,∃y,R y∧x=F y)→∃l:List α,ls=l.map F∧∀y∈l,R y
 |[],_=>⟨[],rfl,fun y h=>by cases h⟩
 |x::r,h=>by
  obtain⟨y,hy,e⟩:=h x (by simp)
  obtain⟨l,hl,hr⟩:=Qn (ls:=r) fun z hz=>h z (by simp[hz])
  refine⟨y::l,by simp[e,hl],fun z hz=>?_⟩
  rcases List.mem_cons.1 hz with rfl|hz
  ·exact hy
  ·exact hr z hz
abbrev X9(b:UInt8):List AV:=[.v (.int .u8 b.toNat)]
theorem XR{t e:Nat}{a:AV}(ht:P.underlying t=some (.slice e))(he:P.underlying e=some (.int .u8))(hc:P.cellsOf e=1)(h:Ai P t a):∃l:List UInt8,l.length≤maxLen∧a=.sl 1 (l.map X9):=by
 obtain⟨f,ls,h1,h2,h3⟩:=XQ ht hc h
 obtain⟨l,hl,_⟩:=Qn (F:=X9) (R:=fun _=>True) (ls:=ls) (fun x hx=>by
  obtain⟨n,hw,e⟩:=Qm he (h2 x hx)
  obtain⟨g1,g2⟩:=wf_u8 hw
  refine⟨UInt8.ofNat n.toNat,trivial,?_⟩
  rw[e,X9,UInt8.toNat_ofNat']
  rw[show ((n.toNat % 2 ^ 8:Nat):Int)=n by omega])
 exact⟨l,by rw[hl,List.length_map]at h1;exact h1,by rw[h3,hl]⟩
end
theorem VX{α:Type}{l:List UInt8}{f:UInt8→α}{k:Nat}{F:α→Prop}(h:k<l.length)(kk:∀x,l[k]?=some x→x.toNat<256→F (f x)):S7 (l.map f) (k:Int) F:=Be h fun x hx=>kk x hx x.toNat_lt
theorem XS{α:Type}{l:List UInt8}{f:UInt8→α}{i:Int}{F:α→Prop}(h0:0≤i)(h:i<l.length)(kk:∀x,l[i.toNat]?=some x→x.toNat<256→F (f x)):S7 (l.map f) i F:=Do h0 h fun x hx=>kk x hx x.toNat_lt
theorem dX{l:List UInt8}{i:Int}{F:UInt8→Prop}(h0:0≤i)(h:i<l.length)(kk:∀x,l[i.toNat]?=some x→x.toNat<256→F x):S7 l i F:=Wv h0 h fun x hx=>kk x hx x.toNat_lt
theorem dY{P:Program}{S T:Nat}{k':IntKind}{b:UInt8}{F:AV→Prop}[V7 P T .i64][V7 P S k'](kk:F (.v (.int .i64 b.toNat))):Bu P S T (.v (.int k' b.toNat)) F:=dL (W5 (by have:=b.toNat_lt;omega)) kk
theorem Iy{P:Program}{E:Env}{n:Nat}{ops:Array Oper}{rest:List Oper}{σ:St}{K:St→Prop}{d:Nat}{ty:TypeId}{pos:String}{after:Array Edge}{T len:Nat}{parts:List (Nat×Operand)}(hd:Nat.blt d n=true)
  (h:match CM (H1 σ) parts with
   |some ps=>FQ P T fun e sz _ _=>cond (DC 0 ps && Ae sz (U4 ps) && Nat.beq ps.length len && Nat.blt 0 sz && Nat.blt e R7) (H8 (len*sz≤16777216) (ET σ.hp ps (MI (U4 ps) (J5 σ.nx fun nx=>B5 P E n ops rest ((σ.new (.row e sz 0 (U4 ps))).put d (.row nx 0 len)) K)))) False
   |none=>False):B5 P E n ops (⟨some d,.buildSlice T len ⟨parts⟩,ty,pos,after,none⟩::rest) σ K:=by
 split at h
 ·rename_i ps he
  obtain⟨⟨e,sz,bs,z,ts,tz,tb,hz,h⟩⟩:=h
  obtain⟨hc,h⟩:=cond_false h
  simp only[Bool.and_eq_true,Nat.beq_eq]at hc
  obtain⟨⟨⟨⟨h1,h2⟩,h3⟩,h4⟩,nT⟩:=hc
  obtain⟨h5,h⟩:=h
  obtain⟨h6,h⟩:=AG h
  obtain⟨h7,h⟩:=Ep h
  exact Ly (e:=e) (sz:=sz) (z:=z) he h6 h1 h2 h3 hz h5 (Nat.blt_eq▸h4) h7 (Nat.blt_eq▸nT) hd (F8 h)
 ·exact h.elim
theorem XT{P:Program}{E:Env}{n:Nat}{ops:Array Oper}{rest:List Oper}{σ:St}{K:St→Prop}{d:Nat}{ty:TypeId}{pos:String}{after:Array Edge}{S T e:Nat}{x:Operand}[hS:s8 P S][ts:Q4 P T e 1][he:V7 P e .u8]{l:List UInt8}(hd:Nat.blt d n=true)
  (hx:H1 σ x=some (.str l)) (hl:l.length≤9223372036854775807) (k:J5 σ.nx fun nx=>B5 P E n ops rest ((σ.new (.row (Q0+e) 1 0 (l.map X9))).put d (.row nx 0 l.length)) K) (uC:e<Q0:=by decide) :
  B5 P E n ops (⟨some d,.convert S T x,ty,pos,after,none⟩::rest) σ K:=by
 refine Cb hd (fun θ a w h=>?_) (F8 k) (n9 (FL (by unfold Q0 at uC ⊢;unfold R7;omega)))
 have hv:=(h.rel hx).sval
 have hr:=run_bytes_of_string (P:=P) w S T e ⟨l.toArray⟩ hS.out ts.out.1 he.out
 have hsz:(ByteArray.mk l.toArray).size=l.length:=rfl
 rw[hsz]at hr
 have lT:grownCap w l.length 0 e≤maxLen:=grownCap_le_maxLen w _ 0 e (by unfold maxLen;omega)
 have mw:=grownCap_ge w l.length 0 e
 generalize grownCap w l.length 0 e=cap at hr lT mw
 generalize hC:bytesRow ⟨l.toArray⟩ cap=C at hr
 have hCs:C.size=cap:=by rw[←hC];simp[bytesRow,ByteArray.size];omega
 have xI:C.toList.take l.length=l.map fun b=>Value.int .u8 b.toNat:=by
  rw[←hC];simp[bytesRow]
 refine⟨.slice (some ⟨w.heap.size,0,none⟩) l.length cap,.slice (some ⟨w.heap.size,0,none⟩) l.length cap,w.drew.alloc (.cells C e (C.size,C.size+1)),?_,FM w _,Kz (Nat.le_refl _),fun le=>⟨⟨l.map fun b=>Value.int .u8 b.toNat,⟨by simp,.inr ⟨w.heap.size,cap,C,by simp[cx,G8],.lt (Kw (by unfold Q0 at uC ⊢;unfold R7;omega)),.inr (.inl ⟨Nat.le_add_right _ _,by unfold Q0 at uC ⊢;unfold R7;omega,e,_,heap_alloc_new w.drew _,Nat.le_refl _⟩),by simpa using mw,lT,by omega,by simpa using xI⟩⟩,fun el ke=>?_,fun k el hk j u hu=>?_,.lt (FL (by unfold Q0 at uC ⊢;unfold R7;omega))⟩,.row _ _ _ _ (by simp[cx,St.new]) fun e' kw v' l' nk=>?_⟩⟩
 ·simp only[execOp,hv,Sem.run_bind,hr,Result.andThen_ok,Sem.run_pure]
 ·obtain⟨b,_,rfl⟩:=List.mem_map.1 ke
  rfl
 ·rw[List.getElem?_map,Option.map_eq_some_iff]at hk
  obtain⟨b,hb,rfl⟩:=hk
  cases j with
  |zero =>
   cases hu
   exact⟨.int .u8 b.toNat,by rw[Nat.mul_one,Nat.add_zero,List.getElem?_map,hb];rfl,.v _⟩
  |succ j=>cases hu
 ·simp only[cx,St.new,J3,if_pos]at nk
  cases nk
  exact⟨Nat.le_refl _,fun _=>⟨by simp,by simp[cx,G8]⟩⟩
def Qo:AV→Bool
 |.v x=>VH x
 |.str _|.sl _ _|.iptr _|.fn _ _=>true
 |_=>false
theorem Ki{x:AV}(h:Qo x=true):o0 x:=by
 cases x<;>first|exact Ig h|trivial|cases h
theorem jv{m:List (List AV)}(h:(m.all fun el=>el.all Qo)=true):∀el∈m,∀u∈el,o0 u:=fun el ke u hu =>
 Ki (List.all_eq_true.1 (List.all_eq_true.1 h el ke) u hu)
theorem dZ{α:Type}{l:List α}{f:α→List AV}(h:∀x,(f x).all Qo=true):∀el∈l.map f,∀u∈el,o0 u:=fun el ke u hu=>by
 obtain⟨x,_,rfl⟩:=List.mem_map.1 ke
 exact Ki (List.all_eq_true.1 (h x) u hu)
theorem B6(id:Nat){P:Program}{E:Env}{n:Nat}{ops:Array Oper}{σ:St}{Q:Exit→St→Prop}(h:EL P E n id ops σ Q):EL P E n id ops σ Q:=h
def Tv(o:Oper):Bool:=o.dst.isSome && match o.op with
 |.box ..|.alloc ..|.makeSlice ..|.makeMap ..|.mapUpdate ..|.store ..=>false
 |.call ⟨.builtin .append,_,_⟩=>false
 |_=>true
theorem gV{P:Program}{E:Env}{n:Nat}{ops:Array Oper}{σ:St}{id:Nat}{Q:Exit→St→Prop}[hm:NQ P](hq:ops.toList.all Tv=true)(hd:Er ops=true)(h:DQ P E n ops ops.toList σ fun σ'=>Q .normal σ'):EL P E n id ops σ Q :=
 I6 hd h
theorem F5{P:Program}{E:Env}{n:Nat}{ops:Array Oper}{σ σ':St}{id:Nat}{Q:Exit→St→Prop}(h:St.le E n σ σ')(k:EL P E n id ops σ' Q):EL P E n id ops σ Q:=⟨El h k.h⟩
def EN(sl:List (Nat×AV)):List Nat→List (Nat×AV)
 |[]=>[]
 |s::r=>match look sl s with
  |some x=>(s,x)::EN sl r
  |none=>EN sl r
def y9(hp:Hp):Nat→Hp
 |0=>[]
 |i+1=>match A7 hp i with
  |some b=>(i,some b)::y9 hp i
  |none=>y9 hp i
theorem Hh{sl:List (Nat×AV)}:∀{l:List Nat} {s:Nat} {x:AV},look (EN sl l) s=some x→look sl s=some x
 |[],s,x,h=>by cases h
 |t::r,s,x,h=>by
  unfold EN at h
  cases hx:look sl t with
  |none=>rw[hx]at h;exact Hh h
  |some y =>
   rw[hx]at h
   simp only[I1]at h
   by_cases e:t=s
   ·subst e;rw[if_pos rfl]at h;rw[hx];exact h
   ·rw[if_neg e]at h;exact Hh h
theorem GU{hp:Hp}:∀(m i:Nat),A7 (y9 hp m) i=if i<m then A7 hp i else none
 |0,i=>by simp[y9,A7,look]
 |m+1,i=>by
  unfold y9
  cases hx:A7 hp m with
  |none =>
   simp only
   rw[GU m i]
   by_cases e:i=m
   ·subst e;simp[hx]
   ·by_cases h:i<m
    ·rw[if_pos h,if_pos (by omega)]
    ·rw[if_neg h,if_neg (by omega)]
  |some b =>
   simp only[J3]
   by_cases e:m=i
   ·subst e;simp[hx]
   ·rw[if_neg e,GU m i]
    by_cases h:i<m
    ·rw[if_pos h,if_pos (by omega)]
    ·rw[if_neg h,if_neg (by omega)]
theorem XU{E:Env}{n:Nat}{σ:St}(lh:List Nat):St.le E n σ ⟨EN σ.sl lh,σ.nx,y9 σ.hp σ.nx⟩:=by
 rintro a w ⟨θ,h⟩
 have e:∀i,A7 (y9 σ.hp σ.nx) i=A7 σ.hp i:=by
  intro i
  rw[GU]
  by_cases hi:i<σ.nx
  ·rw[if_pos hi]
  ·rw[if_neg hi]
   cases hx:A7 σ.hp i with
   |none=>rfl
   |some b=>exact absurd (h.owns i b hx).1 hi
 have le:(cx E θ σ w).le (cx E θ ⟨EN σ.sl lh,σ.nx,y9 σ.hp σ.nx⟩ w):=by
  refine⟨Nat.le_refl _,fun i hi=>.inl rfl,fun i hi e' kw v' l' hl=>⟨e',v',l',?_,.inr ⟨rfl,rfl,rfl⟩⟩,Nat.le_refl _,fun k hk _=>rfl,fun k hk hu=>?_⟩
  ·have nk:A7 (y9 σ.hp σ.nx) i=some (.row e' kw v' l'):=hl
   rw[e i]at nk;exact nk
  ·rcases hu with hu|⟨i,b,hi,lW⟩
   ·exact .inl hu
   ·have ln:A7 (y9 σ.hp σ.nx) i=some b:=hi
    rw[e i]at ln
    exact .inr ⟨i,b,ln,lW⟩
 refine⟨θ,h.size,h.defers,h.fr,fun s x hs=>(h.slots s x (Hh hs)).mono le,fun i b hi=>?_,fun i j b b' k hi hj=>?_,fun i b k hi=>?_,h.X,⟨h.base.1,fun i hi=>(h.base.2 i hi).imp id fun ⟨h1,h2⟩=>⟨h1,fun ⟨e',sz,v,l,hl,hk⟩=>h2 ⟨e',sz,v,l,by rw[←e i];exact hl,hk⟩⟩⟩⟩
 ·have ln:A7 (y9 σ.hp σ.nx) i=some b:=hi
  rw[e i]at ln
  exact⟨(h.owns i b ln).1,(h.owns i b ln).2.mono le rfl (fun _=>rfl) fun k _=>rfl⟩
 ·have ln:A7 (y9 σ.hp σ.nx) i=some b:=hi
  have oU:A7 (y9 σ.hp σ.nx) j=some b':=hj
  rw[e i]at ln
  rw[e j]at oU
  exact h.apart i j b b' k ln oU
 ·have ln:A7 (y9 σ.hp σ.nx) i=some b:=hi
  rw[e i]at ln
  exact h.mine i b k ln
def VY(σ:St)(lh:List Nat)(F:St→Prop):Prop:=Bv (EN σ.sl lh) fun sl=>J5 σ.nx fun nx=>Y7 (y9 σ.hp nx) fun hp=>F ⟨sl,nx,hp⟩
theorem OZ{σ:St}{lh:List Nat}{F:St→Prop}(h:VY σ lh F):F ⟨EN σ.sl lh,σ.nx,y9 σ.hp σ.nx⟩:=Y8 (F:=fun hp=>F ⟨EN σ.sl lh,σ.nx,hp⟩) (F8 (F:=fun nx=>Y7 (y9 σ.hp nx) fun hp=>F ⟨EN σ.sl lh,nx,hp⟩) (Y6 h))
section rules
variable {P:Program} {E:Env} {n:Nat} {ops:Array Oper} {rest:List Oper} {σ:St} {K:St→Prop} {Q:Exit→St→Prop}
theorem FV{l:List Oper}(lh:List Nat)(h:VY σ lh fun σ'=>B5 P E n ops l σ' K):B5 P E n ops l σ K:=Dp (XU lh) (OZ (F:=fun σ'=>B5 P E n ops l σ' K) h)
theorem Zt{c:Code}(lh:List Nat)(h:VY σ lh fun σ'=>MN P E n c σ' Q):MN P E n c σ Q:=⟨El (XU lh) (OZ (F:=fun σ'=>MN P E n c σ' Q) h).h⟩
theorem da{o:Oper}{l:List AV}(i:Nat)(lh:List Nat)(h:VY (σ.frz i) lh fun σ'=>B5 P E n ops (o::rest) σ' K):n6 P E n ops o rest l σ K:=s4 i (FV lh h)
end rules
class W6(G:Prop) where
 sub:Prop
 imp:sub→G
theorem kW{G:Prop}[s:W6 G](h:s.sub):G:=s.imp h
section
variable {P:Program} {E:Env} {n:Nat} {ops:Array Oper} {l:List Oper} {σ:St} {K:St→Prop} {Q:Exit→St→Prop} {c:Code} {S T f:Nat}
instance:W6 (B5 P E n ops l σ K):=⟨gE P E n ops l σ K,Gk⟩
instance:W6 (E8 P E n c σ Q):=⟨VL P E n c σ Q,XH⟩
instance:W6 (DQ P E n ops l σ K):=⟨Zg P E n ops l σ K,jT⟩
instance {ag:Bool}{sz:Nat}{F:Bool→Nat→Prop}[K1 P T ag sz]:W6 (Ic P T F):=⟨F ag sz,jM⟩
instance {z:List Value}{F:List AV→Prop}[K4 P T z]:W6 (VD P T F):=⟨F (z.map w8),fv⟩
instance {off sz:Nat}{F:Nat→Nat→Prop}[J6 P S f off sz]:W6 (NO P S f F):=⟨F off sz,jN⟩
instance {e sz:Nat}{F:Nat→Nat→Prop}[Q4 P T e sz]:W6 (IJ P T F):=⟨F e sz,jp⟩
instance {len e sz:Nat}{F:Nat→Nat→Prop}[IM P T len e sz]:W6 (VE P T F):=⟨F len sz,jO (e:=e)⟩
instance {A:Prop}[s8 P T]:W6 (EJ P T A):=⟨A,fw⟩
instance {A:Prop}[Lk P T]:W6 (cO P T A):=⟨A,jq⟩
instance {A:Prop}[Jn P T]:W6 (MF P T A):=⟨A,dJ⟩
instance {A:Prop}[EQ P T]:W6 (Gi P T A):=⟨A,dG⟩
instance {A:Prop}{k1 k2 k3:IntKind}[HK P T k1 k2 k3]:W6 (ME P T k1 k2 k3 A):=⟨A,dH⟩
instance {A:Prop}{k:IntKind}[FE P T k]:W6 (HW P T k A):=⟨A,jP⟩
instance {A:Prop}{k1 k2:IntKind}[HJ P T k1 k2]:W6 (MD P T k1 k2 A):=⟨A,dI⟩
instance {zs:List Value}{pl:List (Nat×Nat)}{F:List AV→List (Nat×Nat)→Prop}[K4 P T zs][R8 P T pl]:W6 (Ie P T F):=⟨F (zs.map w8) pl,dK⟩
instance {e sz bs:Nat}{z:List Value}{F:Nat→Nat→Nat→List AV→Prop}[Q4 P T e sz][K4 P e z][Q8 P e bs]:W6 (FQ P T F):=⟨H8 (z.length=sz) (F e sz bs (z.map w8)),fun h=>jQ h.h h.k⟩
instance {k e:Nat}{t:TypeDesc}{z:Value}{F:TypeDesc→AV→Prop}[Fw P T k e t z]:W6 (VF P T F):=⟨F t (w8 z),jR⟩
instance (priority:=low) {α:Type}{l:List α}{F:Nat→Prop}:W6 (NN l F):=⟨F l.length,jL⟩
instance {α β:Type}{l:List β}{f:β→α}{F:Nat→Prop}:W6 (NN (l.map f) F):=⟨F l.length,dD⟩
instance (priority:=low) {k:IntKind}{m:Int}{F:AV→Prop}[V7 P S k][s8 P T]:W6 (Bu P S T (.v (.int k m)) F):=⟨F (.str (Utf8.encode m).data.toList),Wx⟩
instance {k k':IntKind}{m:Int}{F:AV→Prop}[V7 P T k][V7 P S k']:W6 (Bu P S T (.v (.int k' m)) F):=⟨F (.v (.int k (k.wrap m))),ZK⟩
instance (priority:=high) {k':IntKind}{b:UInt8}{F:AV→Prop}[V7 P T .i64][V7 P S k']:W6 (Bu P S T (.v (.int k' b.toNat)) F):=⟨F (.v (.int .i64 b.toNat)),dY⟩
variable {A B p:Prop} {b:Bool}
instance (priority:=low):W6 (S3 b true A B):=⟨(b=true→A)∧(b=false→B),fun h=>Za h.1 h.2⟩
instance (priority:=low):W6 (S3 b false A B):=⟨(b=false→A)∧(b=true→B),fun h=>Zb h.1 h.2⟩
instance (priority:=low):W6 (CV b A B):=⟨(b=true→A)∧(b=false→B),fun h=>fu h.1 h.2⟩
instance:W6 (S3 (!b) true A B):=⟨(b=false→A)∧(b=true→B),fun h=>XF h.1 h.2⟩
instance:W6 (S3 (!b) false A B):=⟨(b=true→A)∧(b=false→B),fun h=>XG h.1 h.2⟩
instance:W6 (CV (!b) A B):=⟨(b=false→A)∧(b=true→B),fun h=>dF h.1 h.2⟩
instance [Decidable p]:W6 (S3 (decide p) true A B):=⟨(p→A)∧(¬p→B),fun h=>ZY h.1 h.2⟩
instance [Decidable p]:W6 (S3 (decide p) false A B):=⟨(¬p→A)∧(p→B),fun h=>ZZ h.1 h.2⟩
instance [Decidable p]:W6 (CV (decide p) A B):=⟨(p→A)∧(¬p→B),fun h=>ft h.1 h.2⟩
instance (priority:=high) [Decidable p]:W6 (S3 (!decide p) true A B):=⟨(¬p→A)∧(p→B),fun h=>XD h.1 h.2⟩
instance (priority:=high) [Decidable p]:W6 (S3 (!decide p) false A B):=⟨(p→A)∧(¬p→B),fun h=>XE h.1 h.2⟩
instance (priority:=high) [Decidable p]:W6 (CV (!decide p) A B):=⟨(¬p→A)∧(p→B),fun h=>dE h.1 h.2⟩
instance {F:List (Nat×AV)→Prop}:W6 (gP F):=⟨∀ex,F ex,ju⟩
variable {α β:Type}
class Oa(G:Prop) where
 side:Prop
 sub:Prop
 imp:side→sub→G
instance (priority:=low) {l:List α}{i:Int}{F:α→Prop}:Oa (S7 l i F):=⟨0≤i∧i<l.length,∀x,l[i.toNat]?=some x→F x,fun h k=>Wv h.1 h.2 k⟩
instance {l:List β}{f:β→α}{i:Int}{F:α→Prop}:Oa (S7 (l.map f) i F):=⟨0≤i∧i<l.length,∀x,l[i.toNat]?=some x→F (f x),fun h k=>Do h.1 h.2 k⟩
instance (priority:=1010) {l:List β}{f:β→α}{k:Nat}{F:α→Prop}:Oa (S7 (l.map f) (k:Int) F):=⟨0≤k∧k<l.length,∀x,l[k]?=some x→F (f x),fun h kk=>Be h.2 kk⟩
instance (priority:=1020) {l:List UInt8}{i:Int}{F:UInt8→Prop}:Oa (S7 l i F):=⟨0≤i∧i<l.length,∀x,l[i.toNat]?=some x→x.toNat<256→F x,fun h k=>dX h.1 h.2 k⟩
instance (priority:=1020) {l:List UInt8}{f:UInt8→α}{i:Int}{F:α→Prop}:Oa (S7 (l.map f) i F):=⟨0≤i∧i<l.length,∀x,l[i.toNat]?=some x→x.toNat<256→F (f x),fun h k=>XS h.1 h.2 k⟩
instance (priority:=high) {l:List UInt8}{f:UInt8→α}{k:Nat}{F:α→Prop}:Oa (S7 (l.map f) (k:Int) F):=⟨0≤k∧k<l.length,∀x,l[k]?=some x→x.toNat<256→F (f x),fun h kk=>VX h.2 kk⟩
instance {e sz:Nat}{l:List UInt8}{F:AV→Prop}[Q4 P S e sz][V7 P e .u8][s8 P T]:W6 (Bu P S T (.sl 1 (l.map fun b=>[.v (.int .u8 b.toNat)])) F):=⟨F (.str l),Ww (e:=e) (sz:=sz)⟩
instance {e sz:Nat}{l:List UInt8}{F:AV→Prop}[s8 P S][Q4 P T e sz][V7 P e .u8]:Oa (Bu P S T (.str l) F):=⟨0≤l.length∧l.length≤9223372036854775807,F (.sl 1 (l.map fun b=>[.v (.int .u8 b.toNat)])),fun h k=>VG (e:=e) (sz:=sz) h.2 k⟩
class gW(G:Prop)(α β:outParam Type)(l:outParam (List β))(f:outParam (β→α))(i:outParam Int)(F:outParam (α→Prop)):Prop where
 eq:G=S7 (l.map f) i F
instance {l:List β}{f:β→α}{i:Int}{F:α→Prop}:gW (S7 (l.map f) i F) α β l f i F:=⟨rfl⟩
class gX(G:Prop)(α:outParam Type)(l:outParam (List α))(i:outParam Int)(F:outParam (α→Prop)):Prop where
 eq:G=S7 l i F
instance {l:List α}{i:Int}{F:α→Prop}:gX (S7 l i F) α l i F:=⟨rfl⟩
theorem Z1{G:Prop}{l:List β}{f:β→α}{i:Int}{x:β}{F:α→Prop}[s:gW G α β l f i F](kk:F (f x))(h:l[i.toNat]?=some x:=by assumption)(h0:0≤i:=by omega):G:=s.eq▸A2 h h0 kk
theorem Z2{G:Prop}{l:List α}{i:Int}{x:α}{F:α→Prop}[s:gX G α l i F](kk:F x)(h:l[i.toNat]?=some x:=by assumption)(h0:0≤i:=by omega):G:=s.eq▸o8 h h0 kk
class gY(G:Prop)(p A:outParam Prop):Prop where
 imp:p→A→G
instance:gY (H8 p A) p A:=⟨E0⟩
theorem Z3{G:Prop}[s:gY G p A](k:A)(h:p:=by first|omega|exact Eq.refl _|exact⟨Eq.refl _,by omega⟩|(simp only[List.length_map];omega)|exact jv rfl|exact dZ fun _=>rfl|(constructor<;>(simp only[U4,J8,List.length_cons,List.length_nil,List.length_map];omega))):G:=s.imp h k
theorem Z4{G:Prop}[s:Oa G](k:s.sub)(h:s.side:=by (conv=>whnf);omega):G:=s.imp h k
class XV(G:Prop) where
 side:Prop
 sub:Prop
 imp:side→sub→G
instance {kn:Nat}{l:List Bool}:XV (E5 P E n ops kn l σ K):=⟨Nat.beq l.length ops.size=true∧Region.noSelect ops=true,gK P E n ops kn l σ K,fun h k=>dN h.2 h.1 k⟩
instance {done:List Bool}{mb:List MB}:XV (E1 P E n ops done mb σ K):=⟨Nat.beq done.length ops.size=true∧FH ops=true,gQ P E n ops done mb σ K,fun h k=>OV h.1 h.2 k⟩
instance {done:List Bool}{mb:List MB}{base:List (Nat×AV)}{k:Nat}{ex:List (Nat×AV)}{rG:Hp}{σ':St}:XV (MU P E n ops done mb K base k ex rG σ') :=
 ⟨(σ'.sl,(BH mb).map (look (σ'.sl.take k)),Bw n (σ'.sl.take k) mb,(FT mb).map (A7 σ'.hp))=(σ'.sl.take k++ex,(BH mb).map (look base),true,(FT mb).map (A7 rG))∧true=true,
  Bv (σ'.sl.take k) fun tI=>Y7 σ'.hp fun nZ=>J5 σ'.nx fun pi=>Jr done fun pR=>Pe mb fun ur=>E1 P E n ops pR ur ⟨tI,pi,nZ⟩ K,
  fun h k=>dT (congrArg (·.2.2.2) h.1) (congrArg (·.1) h.1) (congrArg (·.2.1) h.1) (congrArg (·.2.2.1) h.1) k⟩
instance {id:Nat}[hm:NQ P]:XV (EL P E n id ops σ Q):=⟨ops.toList.all Tv=true∧Er ops=true,DQ P E n ops ops.toList σ fun σ'=>Q .normal σ',fun h k=>gV h.1 h.2 k⟩
theorem Z5{G:Prop}[s:XV G](k:s.sub)(h:s.side:=by exact⟨by rfl,by kernel_rfl⟩):G:=s.imp h k
theorem S1{G H:Prop}(k:H)(h:H→G:=by first|exact ZU|exact ZV|exact ZW|exact ZX|exact fm|exact fq|exact XH|exact kW):G:=h k
theorem D0{f:Nat}{fn:Func}{code:Code}{args:List AV}{r:AV}{rs:Array ResultVar}(hf:P.funcs[f]?=some fn)(n:Nat)
  (h : (∀ a ∈ args,Rd a) → ∀ E,E.n0 = 0 → E8 P E n code ⟨EK args 0,0,[]⟩ (E7 P rs r)) (mT : (fn.name == "runtime.NumGoroutine") = false := by kernel_rfl) (hb : fn.body = some code := by rfl) (hn : fn.ntmps = n := by rfl) (qF : fn.results = rs := by rfl)
  (lO:Nat.ble args.length n=true:=by rfl) (ku:O2 r=true:=by rfl) (mV:∀t T,rs=#[.cell t T]→∃sz,K1 P T true sz∧∀l,r=.agg l→l.length=sz:=by intro t T h;cases h):A4 P f args r :=
 Su hf mT hb hn qF lO ku mV h
theorem G4{f:Nat}{fn:Func}{code:Code}{args:List AV}{r:AV}{rs:Array ResultVar}{m0 m1:Nat}{kv hp1:Hp}(hf:P.funcs[f]?=some fn)(n:Nat)
  (h : ∀ E,E.n0 = m0 → E8 P E n code ⟨EK args 0,m0,kv⟩ (E9 P E n rs m1 hp1 r)) (mT : (fn.name == "runtime.NumGoroutine") = false := by kernel_rfl) (hb : fn.body = some code := by rfl) (hn : fn.ntmps = n := by rfl) (qF : fn.results = rs := by rfl)
  (lO:Nat.ble args.length n=true:=by rfl):A9 P f m0 kv args m1 hp1 r :=
 Sw hf mT hb hn qF lO h
theorem nc{d f:Nat}{xs:List Operand}{ts:Array TypeId}{L args l:List AV}{r:AV}{m0 m1:Nat}{kv hp1:Hp}{ty:TypeId}{pos:String}{after:Array Edge}{rest:List Oper}(ι off:List Nat)(hc:A9 P f m0 kv args m1 hp1 r)
  (nV:s9 (H1 σ) xs=some L) (hL:Cf (N6 ι) (N6 off) args=L) (hB:(b9 m0 args && Nat.beq ι.length m0 && EM ι σ.nx && CP kv hp1 m0 && K9 m0 kv && K9 m1 hp1 && Nat.ble m0 m1 && Nat.blt d n)=true) (mC:Et σ.hp kv ι off m0)
  (k:V9 (Q1 (gρ ι m0 σ.nx) (gs ι m0 σ.hp) r) fun r2=>Y7 (c7 (gρ ι m0 σ.nx) (gs ι m0 σ.hp) hp1++σ.hp) fun nZ=>J5 (σ.nx+(m1-m0)) fun pi=>B5 P E n ops rest (St.put ⟨σ.sl,pi,nZ⟩ d r2) K) :
  n6 P E n ops ⟨some d,.call ⟨.value (.func f),⟨xs⟩,ts⟩,ty,pos,after,none⟩ rest l σ K:=by
 simp only[Bool.and_eq_true]at hB
 obtain⟨⟨⟨⟨⟨⟨⟨h1,h2⟩,h3⟩,h4⟩,h5⟩,h6⟩,h7⟩,h8⟩:=hB
 exact⟨C4 ι off hc nV hL h1 h2 h3 mC h4 h5 h6 h7 h8 k⟩
end
theorem S2{G H:Prop}(k:H)(h:PLift H→G:=by intro k;(first|refine Gk ?_|refine S1 ?_|refine Z1 ?_|refine Z2 ?_|refine Z3 ?_|refine Z4 ?_|refine Z5 ?_|(refine gN ?_ ?_;exact⟨by kernel_rfl,by decide⟩)|(refine OV ?_ ?_ ?_;kernel_rfl;kernel_rfl));(try (conv=>whnf));exact k.down):G:=h ⟨k⟩
theorem V1{c A:Prop}(h:c)(f:c→False:=by first|(intro h0;omega)|exact absurd rfl):A:=(f h).elim
theorem T5{G A B:Prop}(a:A)(b:B)(h:A→B→G:=by first|exact gM|exact dS):G:=h a b
theorem T6{a b:Prop}(x:a)(y:b):a∧b:=⟨x,y⟩
theorem T4{G:Prop}(h:G:=by first|exact gL|exact dQ):G:=h
theorem B2{E:Env}{n m:Nat}{σ σ':St}(h0:E.n0=m)(hm:Nat.ble m σ'.nx=true:=by rfl)(hs:HT σ σ'.hp σ'.sl:=by (repeat' (first|exact trivial|exact rfl|refine And.intro ?_ ?_|exact⟨_,rfl⟩));done)(hh:Eo σ σ'.hp σ'.hp:=by (repeat' (first|exact trivial|exact rfl|refine And.intro ?_ ?_|exact⟨_,rfl⟩));done)(hn:Nat.ble σ'.nx σ.nx=true:=by rfl)(hl:QK σ'.nx σ'.sl=true:=by rfl)(hb:K9 σ'.nx σ'.hp=true:=by rfl):St.le E n σ σ':=B0 h0 hm hs hh hn hl hb
end Go.Av
