/- Regions that draw their order, of quiet operations. Blocks under other numbers; calls that are handed memory of one's own. Regions that draw their order and write: every order, pure operations first. Regions that draw their order: what only makes or reads what nobody writes may happen at any time. What came in, read as abstract values; and a law's contract out of a call. One word for many steps of the walk: what a goal asks instead. -/
import Derived.Test.YtiphlhoclaogjaaGreatDoorRE2
import Derived.Orders
import Derived.Carry
import Derived.RowKit
import Derived.OpenShut
import Derived.KernelRfl
set_option linter.unusedSimpArgs false
set_option linter.unusedVariables false
set_option linter.unnecessarySimpa false
set_option maxHeartbeats 64000000
namespace Go.Av
open Go Go.RowKit
class Io(P:Program):Prop where
 out:P.follows .mixedOrders=true
section congr
variable {P:Program} {hp:Hp} {ev ev':Operand→Option AV} {F:AV→Prop}
theorem Fc:∀{l:List Operand},(∀x∈l,ev x=ev' x)→m4 ev l=m4 ev' l
 |[],_=>rfl
 |x::r,h=>by simp only[m4,h x (by simp),Fc (l:=r) fun y hy=>h y (by simp[hy])]
theorem Ip:∀{l:List (Nat×Operand)},(∀x∈l.map (·.2),ev x=ev' x)→BP ev l=BP ev' l
 |[],_=>rfl
 |(i,x)::r,h=>by simp only[BP,h x (by simp),Ip (l:=r) fun y hy=>h y (by simp at hy ⊢;exact .inr hy)]
theorem PZ{m:Nat}{o:Option Operand}(h:∀x,o=some x→ev x=ev' x):AX ev m o=AX ev' m o:=by
 cases o with
 |none=>rfl
 |some x=>simp only[AX,h x rfl]
theorem ZZ{op:Op}(h:∀x∈op.operands.toList,ev x=ev' x)(ho:Fb P op ev hp F):Fb P op ev' hp F:=by
 unfold Fb at ho
 split at ho
 ·rename_i x;rw[h x (by simp[Op.operands])]at ho;exact ho
 ·rename_i x;rw[h x (by simp[Op.operands])]at ho;exact ho
 ·rename_i c a b
  rw[h c (by simp[Op.operands]),h a (by simp[Op.operands]),h b (by simp[Op.operands])]at ho;exact ho
 ·rename_i op T x y T2;rw[h x (by simp[Op.operands]),h y (by simp[Op.operands])]at ho;exact ho
 ·rename_i T x;rw[h x (by simp[Op.operands])]at ho;exact ho
 ·rename_i T x;rw[h x (by simp[Op.operands])]at ho;exact ho
 ·rename_i T x;rw[h x (by simp[Op.operands])]at ho;exact ho
 ·rename_i S x f;rw[h x (by simp[Op.operands])]at ho;exact ho
 ·rename_i T x y;rw[h x (by simp[Op.operands]),h y (by simp[Op.operands])]at ho;exact ho
 ·rename_i T x y;rw[h x (by simp[Op.operands]),h y (by simp[Op.operands])]at ho;exact ho
 ·rename_i x;rw[h x (by simp[Op.operands])]at ho;exact ho
 ·rename_i S T x;rw[h x (by simp[Op.operands])]at ho;exact ho
 ·rename_i x T;rw[h x (by simp[Op.operands,Call.operands])]at ho;exact ho
 ·rename_i x y T U;rw[h x (by simp[Op.operands,Call.operands]),h y (by simp[Op.operands,Call.operands])]at ho;exact ho
 ·rename_i x y T U;rw[h x (by simp[Op.operands,Call.operands]),h y (by simp[Op.operands,Call.operands])]at ho;exact ho
 ·rename_i f args ts
  rw[Fc (ev':=ev') (fun x hx=>h x (by simp[Op.operands,Call.operands];exact .inr hx))]at ho;exact ho
 ·rename_i t args ts
  rw[h (.tmp t) (by simp[Op.operands,Call.operands]),Fc (ev':=ev') (fun x hx=>h x (by simp[Op.operands,Call.operands];exact .inr hx))]at ho;exact ho
 ·rename_i T parts
  rw[Ip (ev':=ev') (fun x hx=>h x (by simpa [Op.operands]using hx))]at ho;exact ho
 ·rename_i T len parts
  rw[Ip (ev':=ev') (fun x hx=>h x (by simpa [Op.operands]using hx))]at ho;exact ho
 ·rename_i T x y ok;rw[h x (by simp[Op.operands]),h y (by simp[Op.operands])]at ho;exact ho
 ·rename_i T x lo hi
  have e1:∀m,AX ev m lo=AX ev' m lo:=fun m=>PZ fun y hy=>h y (by subst hy;simp[Op.operands])
  have e2:∀m,AX ev m hi=AX ev' m hi:=fun m=>PZ fun y hy=>h y (by subst hy;simp[Op.operands])
  unfold Mn at ho
  simp only[e1,e2]at ho
  rw[h x (by simp[Op.operands])]at ho
  exact ho
 ·rename_i x k;rw[h x (by simp[Op.operands])]at ho;exact ho
 ·rename_i f xs
  rw[Fc (ev':=ev') (fun x hx=>h x (by simpa [Op.operands]using hx))]at ho;exact ho
 ·exact ho.elim
end congr
def Iq(f:Nat→Option AV):Operand→Option AV
 |.tmp t=>f t
 |.const c=>some (g8 c)
 |.global g=>some (Wg g)
 |.func f=>some (.v (.func (.func f) #[] #[]))
theorem OQ(σ:St):F5 σ=Iq (look σ.sl):=by funext x;cases x<;>rfl
open Classical in
noncomputable def rs(op:Op)(ev:Operand→Option AV):Operand→Option AV:=fun x=>if x∈op.operands.toList then ev x else none
def Cb(f:Nat→Option AV)(d:Nat)(a:AV):Nat→Option AV:=fun s=>if d=s then some a else f s
section quiet
variable {P:Program} {E:Env} {n nx:Nat} {hp:Hp} {ev:Operand→Option AV} {ops:Array Oper} {σ:St} {K:(Nat→Option AV)→Prop} {f f':Nat→Option AV}
theorem cM{op:Op}{ty:Nat}{av:AV}{ev ev':Operand→Option AV}(h:∀x a,ev x=some a→ev' x=some a)(hq:G7 P E nx hp ev op ty av):G7 P E nx hp ev' op ty av :=
 fun d pos after θ a w K hs hk=>hq d pos after θ a w K ⟨hs.fr,hs.owns,hs.X,fun hx=>hs.rel (h _ _ hx),hs.apart,hs.fresh,hs.tab⟩ hk
theorem Za{op:Op}{ty:Nat}{F:AV→Prop}(h:Fb P op ev hp F):∃av,G7 P E nx hp (rs op ev) op ty av∧F av :=
 er (ZZ (fun x hx=>by simp[rs,hx]) h)
def QS(P:Program)(E:Env)(nx:Nat)(hp:Hp)(ops:Array Oper)(o:Oper)(f:Nat→Option AV)(av:AV):Prop :=
 match o.guard with
 |none=>G7 P E nx hp (rs o.op (Iq f)) o.op o.type av
 |some (j,g)=>∃dj,(ops[j]?).bind (·.dst)=some dj∧((f dj=some (.v (.bool g))∧G7 P E nx hp (rs o.op (Iq f)) o.op o.type av)∨(f dj=some (.v (.bool (!g)))∧av=.v undef)∨∃t,f dj=some (.v (.tuple t))∧av=.v undef)
theorem cN{op:Op}(h:∀x∈op.operands.toList,Iq f x=Iq f' x):rs op (Iq f)=rs op (Iq f'):=by
 funext x
 unfold rs
 split
 ·rename_i hx;exact h x hx
 ·rfl
theorem QS.congr{o:Oper}{av:AV}(h:∀d∈o.looksAt ops,f d=f' d)(hq:QS P E nx hp ops o f av):QS P E nx hp ops o f' av:=by
 have hr:rs o.op (Iq f)=rs o.op (Iq f'):=cN fun x hx=>by
  cases x with
  |tmp t=>exact h t (List.mem_append_left _ (List.mem_filterMap.2 ⟨.tmp t,hx,rfl⟩))
  |_=>rfl
 unfold QS at hq ⊢
 split at hq
 ·rw[←hr];exact hq
 ·rename_i j g hg
  obtain⟨dj,hj,hq⟩:=hq
  have hd:f dj=f' dj:=h dj (by simp[Oper.looksAt,hg,hj])
  refine⟨dj,hj,?_⟩
  rw[←hr,←hd]
  exact hq
def QW(P:Program)(E:Env)(n nx:Nat)(hp:Hp)(ops:Array Oper):List Oper→(Nat→Option AV)→((Nat→Option AV)→Prop)→Prop
 |[],f,K=>K f
 |o::r,f,K=>∃d av,o.dst=some d∧d<n∧QS P E nx hp ops o f av∧QW P E n nx hp ops r (Cb f d av) K
theorem Zb{d e:Nat}{a b:AV}(h:d≠e):Cb (Cb f d a) e b=Cb (Cb f e b) d a:=by
 funext s
 unfold Cb
 by_cases h1:e=s
 ·subst h1;simp[h]
 ·simp[h1]
theorem QW.swap{x y:Oper}{r:List Oper}(pm:x.apart ops y=true)(h:QW P E n nx hp ops (x::y::r) f K):QW P E n nx hp ops (y::x::r) f K:=by
 obtain⟨dx,ax,zG,mq,hqx,dy,ay,yE,hny,hqy,hr⟩:=h
 obtain⟨h1,h2,h3⟩:=Oper.apart_spec pm
 have hne:dx≠dy:=fun e=>h2 dx zG (e▸yE)
 have hy:QS P E nx hp ops y f ay:=hqy.congr fun s hs=>by
  have:dx≠s:=fun e=>h1 dx zG (e▸hs)
  simp[Cb,this]
 have hx:QS P E nx hp ops x (Cb f dy ay) ax:=hqx.congr fun s hs=>by
  have:dy≠s:=fun e=>h3 dy yE (e▸hs)
  simp[Cb,this]
 exact⟨dy,ay,yE,hny,hy,dx,ax,zG,mq,hx,by rw[←Zb hne];exact hr⟩
theorem QW.first{o:Oper}:∀{pre post:List Oper} {f:Nat→Option AV},(∀p∈pre,p.apart ops o=true)→QW P E n nx hp ops (pre++o::post) f K→QW P E n nx hp ops (o::(pre++post)) f K
 |[],post,f,_,h=>h
 |p::pre,post,f,pm,h=>by
  obtain⟨d,av,hd,hn,hq,hr⟩:=h
  have:=QW.first (pre:=pre) (fun q hq=>pm q (by simp[hq])) hr
  exact QW.swap (pm p (by simp)) ⟨d,av,hd,hn,hq,this⟩
def ey(ops:Array Oper)(i j:Nat):Bool :=
 match ops[i]?,ops[j]? with
 |some oi,some oj=>oi.after.any (fun e=>Region.binds .any e && Nat.beq e.on j) || oj.apart ops oi
 |_,_=>true
def ez(ops:Array Oper)(i:Nat):Bool :=
 match ops[i]? with
 |some o=>o.after.all fun e=>!Region.binds .any e || Nat.blt e.on i
 |none=>true
def EO(ops:Array Oper):Bool:=(List.range ops.size).all fun i=>ez ops i && (List.range i).all fun j=>ey ops i j
theorem XD(h:EO ops=true){i j:Nat}{oi oj:Oper}(qq:j<i)(hi:ops[i]?=some oi)(hj:ops[j]?=some oj):(∃e∈oi.after,Region.binds .any e=true∧e.on=j)∨oj.apart ops oi=true:=by
 have mM:i<ops.size:=(Array.getElem?_eq_some_iff.1 hi).1
 unfold EO at h
 rw[List.all_eq_true]at h
 have h1:=h i (List.mem_range.2 mM)
 rw[Bool.and_eq_true,List.all_eq_true]at h1
 have h2:=h1.2 j (List.mem_range.2 qq)
 unfold ey at h2
 rw[hi,hj]at h2
 simp only[Bool.or_eq_true]at h2
 rcases h2 with h2|h2
 ·left
  obtain⟨k,hk,h3⟩:=Array.any_eq_true.1 h2
  simp only[Bool.and_eq_true]at h3
  exact⟨oi.after[k],Array.getElem_mem hk,h3.1,Nat.eq_of_beq_eq_true h3.2⟩
 ·exact .inr h2
theorem XE(h:EO ops=true){i:Nat}{oi:Oper}(hi:ops[i]?=some oi):∀e∈oi.after,Region.binds .any e=true→e.on<i:=by
 have mM:i<ops.size:=(Array.getElem?_eq_some_iff.1 hi).1
 unfold EO at h
 rw[List.all_eq_true]at h
 have h1:=h i (List.mem_range.2 mM)
 rw[Bool.and_eq_true]at h1
 have h2:=h1.1
 unfold ez at h2
 rw[hi]at h2
 intro e he hb
 simp only[Array.all_eq_true_iff_forall_mem,Bool.or_eq_true]at h2
 have:=h2 e he
 rw[hb]at this
 simpa [Nat.blt_eq]using this
def left(ops:Array Oper)(listed:Array Bool):List Nat:=(List.range ops.size).filter fun i=>!listed.getD i true
def XF(E:Env)(n nx:Nat)(hp:Hp)(f:Nat→Option AV)(a:Act)(w:World):Prop:=∃σ:St,(∀s,look σ.sl s=f s)∧σ.nx=nx∧σ.hp=hp∧j7 E n σ a w
theorem kz{o:Oper}{d:Nat}{av:AV}{a:Act}{w:World}{Q:Exit→Act→World→Prop}{C:Act→World→Prop}{i:Nat}(hi:ops[i]?=some o)(hd:o.dst=some d)(hn:d<n)(hq:QS P E nx hp ops o f av)(hs:XF E n nx hp f a w)
  (hk:∀a' w',XF E n nx hp (Cb f d av) a' w'→C a' w'):wpOp P ops Q i C a w:=by
 obtain⟨σ,hl,rfl,rfl,θ,hs⟩:=hs
 have om:Iq f=F5 σ:=by rw[OQ];congr 1;funext s;exact(hl s).symm
 have step:∀{v:Value} {w':World},Below w.heap.size w w'→E0 (cx E θ σ w') av v→C (a.put (some d) v) w':=fun hb hr =>
  hk _ _ ⟨σ.put d av,fun s=>by simp only[St.put,E9,Cb,hl],rfl,rfl,θ,(hs.below hb).put hn hr⟩
 unfold wpOp
 simp only[hi]
 have uB:∀{t:Nat} {b:Bool},f t=some (.v (.bool b))→a.tmps[t]?=some (.bool b):=by
  intro t b hb
  have h1:=(hs.slots t _ (by rw[hl];exact hb)).val
  rw[Array.getD_eq_getD_getElem?]at h1
  cases hg:a.tmps[t]? with
  |none=>rw[hg]at h1;exact absurd h1 (by simp[undef])
  |some v=>rw[hg]at h1;simp at h1;rw[h1]
 have run:G7 P E σ.nx σ.hp (rs o.op (Iq f)) o.op o.type av→o.wp P a w C Q:=by
  intro hq
  have zH:G7 P E σ.nx σ.hp (F5 σ) o.op o.type av:=cM (fun x b hx=>by
   unfold rs at hx
   split at hx
   ·rw[←om];exact hx
   ·cases hx) hq
  have hv:=zH o.dst o.pos o.after θ a w (fun v w'=>Below w.heap.size w w'∧E0 (cx E θ σ w') av v) hs.evT fun v w' hb hr=>⟨hb,hr⟩
  have xY:IU P o a w (fun v w'=>Below w.heap.size w w'∧E0 (cx E θ σ w') av v):=by
   have e:IU P o a w=IU P ⟨o.dst,o.op,o.type,o.pos,o.after,none⟩ a w:=by
    funext K
    unfold IU
    have:execOp a.eval o=execOp a.eval ⟨o.dst,o.op,o.type,o.pos,o.after,none⟩:=by
     obtain⟨_,op,_,_,_,_⟩:=o
     cases op<;>rfl
    rw[this]
   rw[e]
   exact hv
  exact RX xY fun v w' hv=>by rw[hd];exact step hv.1 hv.2
 unfold QS at hq
 split at hq
 ·rename_i hg
  rw[if_pos (by simp[Region.wanted,hg])]
  exact .inl (run hq)
 ·rename_i j g hg
  obtain⟨dj,hj,hq⟩:=hq
  rcases hq with ⟨hb,hq⟩|⟨hb,rfl⟩|⟨t,hb,rfl⟩
  ·have:yielded ops a.tmps j=some g:=by simp[yielded,hj,uB hb]
   rw[if_pos (by simp[Region.wanted,hg,this])]
   exact .inl (run hq)
  ·have:yielded ops a.tmps j=some (!g):=by simp[yielded,hj,uB hb]
   rw[if_neg (by simp[Region.wanted,hg,this])]
   rw[hd]
   exact step (Below.refl _ _) (.im (.v _))
  ·have:yielded ops a.tmps j=none:=by
    have h1:=(hs.slots dj _ (by rw[hl];exact hb)).val
    rw[Array.getD_eq_getD_getElem?]at h1
    unfold yielded
    rw[hj]
    simp only[Option.bind_some]
    cases hg:a.tmps[dj]? with
    |none=>rfl
    |some v=>rw[hg]at h1;simp at h1;rw[h1]
   rw[if_neg (by simp[Region.wanted,hg,this])]
   rw[hd]
   exact step (Below.refl _ _) (.im (.v _))
theorem Cz(p:Nat→Bool)(m:Nat){pre post:List Nat}{i:Nat}(h:(List.range m).filter p=pre++i::post):(∀j∈pre,j<i)∧i∉pre∧i∉post:=by
 have hs:((List.range m).filter p).Pairwise (·<·):=List.Pairwise.filter _ (List.pairwise_lt_range)
 rw[h,List.pairwise_append]at hs
 obtain⟨_,h2,h3⟩:=hs
 rw[List.pairwise_cons]at h2
 have h4:∀j∈pre,j<i:=fun j hj=>h3 j hj i (by simp)
 exact⟨h4,fun hc=>Nat.lt_irrefl _ (h4 i hc),fun hc=>Nat.lt_irrefl _ (h2.1 i hc)⟩
theorem SE{listed:Array Bool}{i:Nat}{pre post:List Nat}(h:left ops listed=pre++i::post):left ops (listed.setIfInBounds i true)=pre++post:=by
 obtain⟨_,h2,h3⟩:=Cz _ _ h
 have e:left ops (listed.setIfInBounds i true)=(left ops listed).filter (fun j=>decide (j≠i)):=by
  unfold left
  rw[List.filter_filter]
  congr 1
  funext j
  by_cases hj:j=i
  ·subst hj
   by_cases mM:j<listed.size
   ·simp[Array.getD,mM]
   ·simp[Array.getD,mM]
  ·have:(listed.setIfInBounds i true).getD j true=listed.getD j true:=by
    rw[Array.getD_eq_getD_getElem?,Array.getD_eq_getD_getElem?,Array.getElem?_setIfInBounds_ne (Ne.symm hj)]
   rw[this]
   simp[hj]
 rw[e,h,List.filter_append,List.filter_cons_of_neg (by simp)]
 congr 1
 ·exact List.filter_eq_self.2 fun j hj=>by simp;exact fun e=>h2 (e▸hj)
 ·exact List.filter_eq_self.2 fun j hj=>by simp;exact fun e=>h3 (e▸hj)
def opsOf(ops:Array Oper)(l:List Nat):List Oper:=l.filterMap fun i=>ops[i]?
theorem Mr{listed:Array Bool}{j:Nat}(hj:j∈Region.ready .any ops listed):j∈left ops listed:=by
 obtain⟨h1,o,ho,_⟩:=mem_ready.1 hj
 exact List.mem_filter.2 ⟨List.mem_range.2 (Array.getElem?_eq_some_iff.1 ho).1,by rw[h1];rfl⟩
theorem Ir(l m:List Nat):opsOf ops (l++m)=opsOf ops l++opsOf ops m:=List.filterMap_append ..
theorem XG{i:Nat}{o:Oper}(h:ops[i]?=some o)(m:List Nat):opsOf ops (i::m)=o::opsOf ops m:=by simp[opsOf,h]
theorem cO(oN:EO ops=true){listed:Array Bool}(hsz:listed.size=ops.size){i:Nat}{r:List Nat}(h:left ops listed=i::r):i∈Region.ready .any ops listed:=by
 have hi:i∈left ops listed:=by rw[h];simp
 obtain⟨h1,h2⟩:=List.mem_filter.1 hi
 have mM:=List.mem_range.1 h1
 refine mem_ready.2 ⟨by simpa using h2,ops[i],Array.getElem?_eq_getElem mM,fun e he hb=>?_⟩
 have pp:=XE oN (Array.getElem?_eq_getElem mM) e he hb
 cases hx:listed.getD e.on false with
 |true=>rfl
 |false =>
  exfalso
  have pP:e.on<listed.size:=by omega
  have pD:listed.getD e.on true=false:=by
   simp[Array.getD,pP]at hx ⊢;exact hx
  have hm:e.on∈left ops listed:=List.mem_filter.2 ⟨List.mem_range.2 (by omega),by rw[pD];rfl⟩
  have hs:(left ops listed).Pairwise (·<·):=List.Pairwise.filter _ (List.pairwise_lt_range)
  rw[h]at hm hs
  rcases List.mem_cons.1 hm with h3|h3
  ·omega
  ·have:=(List.pairwise_cons.1 hs).1 _ h3
   omega
theorem jK(oN:EO ops=true){Q:Exit→Act→World→Prop}(hK:∀f' a' w',K f'→XF E n nx hp f' a' w'→Q .normal a' w'):∀(mN:Nat) (listed:Array Bool) (f:Nat→Option AV) (a:Act) (w:World),listed.size=ops.size →
  (left ops listed).length≤mN→QW P E n nx hp ops (opsOf ops (left ops listed)) f K→XF E n nx hp f a w→wpAny P .any ops Q mN listed a w:=by
 intro mN
 induction mN with
 |zero =>
  intro listed f a w hsz mL hq hs
  have oR:left ops listed=[]:=List.eq_nil_of_length_eq_zero (by omega)
  rw[oR]at hq
  refine⟨?_,hK f a w hq hs⟩
  cases hr:Region.ready .any ops listed with
  |nil=>rfl
  |cons j r=>have:=Mr (ops:=ops) (listed:=listed) (j:=j) (by rw[hr];simp);rw[oR]at this;cases this
 |succ mN ih =>
  intro listed f a w hsz mL hq hs
  refine⟨fun hr=>?_,fun i hi=>?_⟩
  ·cases hl:left ops listed with
   |nil=>rw[hl]at hq;exact hK f a w hq hs
   |cons i r=>have:=cO oN hsz hl;rw[hr]at this;cases this
  ·obtain⟨pre,post,oq⟩:=List.append_of_mem (Mr hi)
   obtain⟨xn,oi,za,yb⟩:=mem_ready.1 hi
   have yZ:=(Cz _ _ oq).1
   rw[oq,Ir,XG za]at hq
   have zH:=QW.first (fun p hp=>by
    obtain⟨j,hj,zh⟩:=List.mem_filterMap.1 hp
    rcases XD oN (yZ j hj) za zh with ⟨e,he,hb,rfl⟩|h
    ·exfalso
     have h1:=yb e he hb
     have h2:e.on∈left ops listed:=by rw[oq];simp[hj]
     have h3:=(List.mem_filter.1 h2).2
     have h4:listed.getD e.on true=false:=by simpa using h3
     by_cases mM:e.on<listed.size
     ·simp[Array.getD,mM]at h1 h4;rw[h1]at h4;cases h4
     ·simp[Array.getD,mM]at h1
    ·exact h) hq
   obtain⟨d,av,hd,hn,hqs,hr⟩:=zH
   refine kz za hd hn hqs hs fun a' w' nU=>ih _ _ a' w' (by simpa using hsz) ?_ ?_ nU
   ·rw[SE oq]
    rw[oq]at mL
    simp at mL ⊢
    omega
   ·rw[SE oq,Ir]
    exact hr
def DQ(P:Program)(E:Env)(n:Nat)(ops:Array Oper)(l:List Oper)(σ:St)(K:St→Prop):Prop :=
 QW P E n σ.nx σ.hp ops l (look σ.sl) fun f=>∃τ:St,(∀s,look τ.sl s=f s)∧τ.nx=σ.nx∧τ.hp=σ.hp∧K τ
theorem cP(σ:St)(d:Nat)(a:AV):look (σ.put d a).sl=Cb (look σ.sl) d a:=by
 funext s;simp only[St.put,E9,Cb]
theorem Ms{l:List Oper}{d:Nat}{av:AV}{K:St→Prop}:DQ P E n ops l (σ.put d av) K→QW P E n σ.nx σ.hp ops l (Cb (look σ.sl) d av) fun f=>∃τ:St,(∀s,look τ.sl s=f s)∧τ.nx=σ.nx∧τ.hp=σ.hp∧K τ:=by
 intro h
 unfold DQ at h
 rw[cP]at h
 exact h
theorem SG{d:Nat}{a:AV}(h:look σ.sl d=some a):look (σ.put d a).sl=look σ.sl:=by
 funext s
 simp only[St.put,E9]
 by_cases e:d=s
 ·subst e;rw[if_pos rfl,h]
 ·rw[if_neg e]
def cQ(P:Program)(E:Env)(n:Nat)(ops:Array Oper)(l:List Oper)(σ:St)(K:St→Prop):Prop :=
 match l with
 |[]=>K σ
 |⟨some d,op,_,_,_,none⟩::rest=>cond (Nat.blt d n) (Fb P op (F5 σ) σ.hp fun av=>DQ P E n ops rest (σ.put d av) K) False
 |⟨some d,op,_,_,_,some (j,g)⟩::rest=>match (ops[j]?).bind (·.dst)with
  |some dj=>cond (Nat.blt d n) (match look σ.sl dj with
   |some (.v (.bool b))=>P6 b g (Fb P op (F5 (σ.put dj (.v (.bool g)))) σ.hp fun av=>DQ P E n ops rest ((σ.put dj (.v (.bool g))).put d av) K)
     (DQ P E n ops rest ((σ.put dj (.v (.bool !g))).put d (.v undef)) K)
   |some (.v (.tuple t))=>DQ P E n ops rest (σ.put d (.v undef)) K
   |_=>False) False
  |none=>False
 |_=>False
theorem lC{l:List Oper}{K:St→Prop}(h:cQ P E n ops l σ K):DQ P E n ops l σ K:=by
 unfold cQ at h
 split at h
 ·exact⟨σ,fun _=>rfl,rfl,rfl,h⟩
 ·rename_i d op ty pos after rest
  obtain⟨hd,h⟩:=cond_false h
  obtain⟨av,hq,h⟩:=Za (E:=E) (nx:=σ.nx) (ty:=ty) h
  exact⟨d,av,rfl,Nat.blt_eq▸hd,by unfold QS;rw[←OQ];exact hq,Ms h⟩
 ·rename_i d op ty pos after j g rest
  split at h
  ·rename_i dj hj
   obtain⟨hd,h⟩:=cond_false h
   split at h
   ·rename_i b hb
    cases tA:(b == g)with
    |true =>
     have tA:b=g:=by simpa using tA
     subst tA
     have h1:=h.t rfl
     obtain⟨av,hq,h2⟩:=Za (E:=E) (nx:=σ.nx) (ty:=ty) h1
     have e:look (σ.put dj (.v (.bool b))).sl=look σ.sl:=SG hb
     rw[OQ,e]at hq
     refine⟨d,av,rfl,Nat.blt_eq▸hd,⟨dj,hj,.inl ⟨hb,hq⟩⟩,?_⟩
     have h3:=Ms h2
     rw[e]at h3
     exact h3
    |false =>
     have tA:b=!g:=by cases b<;>cases g<;>simp_all
     have h1:=h.f tA
     have e:look (σ.put dj (.v (.bool !g))).sl=look σ.sl:=SG (tA▸hb)
     refine⟨d,_,rfl,Nat.blt_eq▸hd,⟨dj,hj,.inr (.inl ⟨tA▸hb,rfl⟩)⟩,?_⟩
     have h3:=Ms h1
     rw[e]at h3
     exact h3
   ·rename_i t hb
    exact⟨d,_,rfl,Nat.blt_eq▸hd,⟨dj,hj,.inr (.inr ⟨t,hb,rfl⟩)⟩,Ms h⟩
   ·exact h.elim
  ·exact h.elim
 ·exact h.elim
theorem B0{id:Nat}{Q:Exit→St→Prop}[hm:Io P](oN:EO ops=true)(h:DQ P E n ops ops.toList σ fun σ'=>Q .normal σ'):Ca P E n id ops σ Q:=by
 refine⟨fun a w ⟨θ,hs⟩=>wp_region_any hm.out ?_⟩
 have hb:Below w.heap.size w { w with drawn:=w.drawn+1 }:=Below.drew (Below.refl _ _)
 refine jK oN (K:=fun f=>∃τ:St,(∀s,look τ.sl s=f s)∧τ.nx=σ.nx∧τ.hp=σ.hp∧Q .normal τ) (fun f' a' w' hk nU=>?_) ops.size _ (look σ.sl) a _ (by simp) ?_ ?_ ⟨σ,fun _=>rfl,rfl,rfl,θ,hs.below hb⟩
 ·obtain⟨τ,h1,h2,h3,h4⟩:=hk
  obtain⟨σ2,g1,g2,g3,θ2,mR⟩:=nU
  refine⟨τ,h4,θ2,?_⟩
  have e1:σ2.nx=τ.nx:=by rw[g2,h2]
  have e2:σ2.hp=τ.hp:=by rw[g3,h3]
  have e3:∀s,look τ.sl s=look σ2.sl s:=fun s=>by rw[h1,g1]
  have ec:cx E θ2 σ2 w'=cx E θ2 τ w':=by unfold cx;rw[e1,e2]
  exact⟨mR.size,mR.defers,mR.fr,fun s x hx=>by rw[←ec];exact mR.slots s x (by rw[←e3];exact hx),fun i b hi=>by rw[←ec,←e1];exact mR.owns i b (by rw[e2];exact hi),fun i j b b' k hi hj=>mR.apart i j b b' k (by rw[e2];exact hi) (by rw[e2];exact hj),fun i b k hi=>mR.mine i b k (by rw[e2];exact hi),mR.X,by rw[←e1,←e2];exact mR.base⟩
 ·unfold left
  exact Nat.le_trans (List.length_filter_le _ _) (by simp)
 ·have e:left ops (Array.replicate ops.size false)=List.range ops.size:=by
   unfold left
   refine List.filter_eq_self.2 fun i hi=>?_
   have:=List.mem_range.1 hi
   simp[Array.getD,this]
  rw[e]
  have e2:opsOf ops (List.range ops.size)=ops.toList:=by
   unfold opsOf
   apply List.ext_getElem?
   intro i
   have:∀(m:Nat),m≤ops.size→(List.range m).filterMap (fun i=>ops[i]?)=ops.toList.take m:=by
    intro m
    induction m with
    |zero=>intro _;simp
    |succ m ih =>
     intro hm
     rw[List.range_succ,List.filterMap_append,ih (by omega),List.take_add_one]
     congr 1
     have mM:m<ops.size:=by omega
     simp[mM]
   rw[this ops.size (Nat.le_refl _)]
   congr 1
   exact List.take_of_length_le (by simp)
  rw[e2]
  exact h
end quiet
def RE{α:Type}:List α→(List α→Prop)→Prop
 |[],F=>F []
 |a::r,F=>RE r fun s=>F (a::s)
theorem HL{α:Type}:∀{l:List α} {F:List α→Prop},RE l F→F l
 |[],F,h=>h
 |a::r,F,h=>HL (l:=r) (F:=fun s=>F (a::s)) h
mutual
def V2:AV→(AV→Prop)→Prop
 |.agg l,F=>BQ l fun l2=>F (.agg l2)
 |.tup l,F=>BQ l fun l2=>F (.tup l2)
 |.fo f l,F=>BQ l fun l2=>F (.fo f l2)
 |.ref i o,F=>H0 i fun i2=>H0 o fun o2=>F (.ref i2 o2)
 |.row i v m,F=>H0 i fun i2=>H0 v fun v2=>F (.row i2 v2 m)
 |.elt i v k o,F=>H0 i fun i2=>H0 v fun v2=>F (.elt i2 v2 k o)
 |.sub i v k o,F=>H0 i fun i2=>H0 v fun v2=>F (.sub i2 v2 k o)
 |.mp i,F=>H0 i fun i2=>F (.mp i2)
 |.any,F=>F .any
 |.v x,F=>F (.v x)
 |.str l,F=>F (.str l)
 |.iptr l,F=>F (.iptr l)
 |.sl sz l,F=>F (.sl sz l)
 |.fn f l,F=>F (.fn f l)
 |.err,F=>F .err
 |.own e sz l,F=>F (.own e sz l)
def BQ:List AV→(List AV→Prop)→Prop
 |[],F=>F []
 |x::r,F=>V2 x fun x2=>BQ r fun r2=>F (x2::r2)
end
mutual
theorem EP:∀{a:AV} {F:AV→Prop},V2 a F→F a
 |.agg l,F,h=>BS (l:=l) (F:=fun l2=>F (.agg l2)) (by simpa only[V2]using h)
 |.tup l,F,h=>BS (l:=l) (F:=fun l2=>F (.tup l2)) (by simpa only[V2]using h)
 |.fo f l,F,h=>BS (l:=l) (F:=fun l2=>F (.fo f l2)) (by simpa only[V2]using h)
 |.ref i o,F,h=>by simp only[V2]at h;exact E3 (E3 h)
 |.row i v m,F,h=>by simp only[V2]at h;exact E3 (E3 h)
 |.elt i v k o,F,h=>by simp only[V2]at h;exact E3 (E3 h)
 |.sub i v k o,F,h=>by simp only[V2]at h;exact E3 (E3 h)
 |.mp i,F,h=>by simp only[V2]at h;exact E3 h
 |.any,F,h=>by simpa only[V2]using h
 |.v x,F,h=>by simpa only[V2]using h
 |.str l,F,h=>by simpa only[V2]using h
 |.iptr l,F,h=>by simpa only[V2]using h
 |.sl sz l,F,h=>by simpa only[V2]using h
 |.fn f l,F,h=>by simpa only[V2]using h
 |.err,F,h=>by simpa only[V2]using h
 |.own e sz l,F,h=>by simpa only[V2]using h
theorem BS:∀{l:List AV} {F:List AV→Prop},BQ l F→F l
 |[],F,h=>by simpa only[BQ]using h
 |x::r,F,h=>by
  simp only[BQ]at h
  exact BS (l:=r) (F:=fun r2=>F (x::r2)) (EP (a:=x) (F:=fun x2=>BQ r fun r2=>F (x2::r2)) h)
end
def Cc:List (Nat×AV)→(List (Nat×AV)→Prop)→Prop
 |[],F=>F []
 |(k,x)::r,F=>V2 x fun x2=>Cc r fun s=>F ((k,x2)::s)
theorem m5:∀{l:List (Nat×AV)} {F:List (Nat×AV)→Prop},Cc l F→F l
 |[],F,h=>h
 |(k,x)::r,F,h=>m5 (l:=r) (F:=fun s=>F ((k,x)::s)) (EP (a:=x) (F:=fun x2=>Cc r fun s=>F ((k,x2)::s)) h)
def Js:List Bool→(List Bool→Prop)→Prop
 |[],F=>F []
 |true::r,F=>Js r fun s=>F (true::s)
 |false::r,F=>Js r fun s=>F (false::s)
theorem EQ:∀{l:List Bool} {F:List Bool→Prop},Js l F→F l
 |[],F,h=>h
 |true::r,F,h=>EQ (l:=r) (F:=fun s=>F (true::s)) h
 |false::r,F,h=>EQ (l:=r) (F:=fun s=>F (false::s)) h
def V3:Hp→(Hp→Prop)→Prop
 |[],F=>F []
 |(k,some (.bx τ l))::r,F=>H0 k fun k=>BQ l fun l2=>V3 r fun s=>F ((k,some (.bx τ l2))::s)
 |(k,some (.row e sz v l))::r,F=>H0 k fun k=>H0 v fun v2=>V3 r fun s=>F ((k,some (.row e sz v2 l))::s)
 |(k,some (.map m))::r,F=>H0 k fun k=>V3 r fun s=>F ((k,some (.map m))::s)
 |(k,some (.it t p))::r,F=>H0 k fun k=>V3 r fun s=>F ((k,some (.it t p))::s)
 |(k,none)::r,F=>H0 k fun k=>V3 r fun s=>F ((k,none)::s)
theorem S9:∀{l:Hp} {F:Hp→Prop},V3 l F→F l
 |[],F,h=>h
 |(k,some (.bx τ l))::r,F,h=>S9 (l:=r) (F:=fun s=>F ((k,some (.bx τ l))::s)) (BS (l:=l) (F:=fun l2=>V3 r fun s=>F ((k,some (.bx τ l2))::s)) (E3 (F:=fun k=>BQ l fun l2=>V3 r fun s=>F ((k,some (.bx τ l2))::s)) h))
 |(k,some (.row e sz v l))::r,F,h=>S9 (l:=r) (F:=fun s=>F ((k,some (.row e sz v l))::s)) (E3 (F:=fun v2=>V3 r fun s=>F ((k,some (.row e sz v2 l))::s)) (E3 (F:=fun k=>H0 v fun v2=>V3 r fun s=>F ((k,some (.row e sz v2 l))::s)) h))
 |(k,some (.map m))::r,F,h=>S9 (l:=r) (F:=fun s=>F ((k,some (.map m))::s)) (E3 (F:=fun k=>V3 r fun s=>F ((k,some (.map m))::s)) h)
 |(k,some (.it t p))::r,F,h=>S9 (l:=r) (F:=fun s=>F ((k,some (.it t p))::s)) (E3 (F:=fun k=>V3 r fun s=>F ((k,some (.it t p))::s)) h)
 |(k,none)::r,F,h=>S9 (l:=r) (F:=fun s=>F ((k,none)::s)) (E3 (F:=fun k=>V3 r fun s=>F ((k,none)::s)) h)
mutual
def N9(ρ s:Nat→Nat):AV→AV
 |.ref i off=>.ref (ρ i) off
 |.row i v len=>.row (ρ i) (v+s i) len
 |.elt i v k off=>.elt (ρ i) (v+s i) k off
 |.sub i v k off=>.sub (ρ i) (v+s i) k off
 |.mp i=>.mp (ρ i)
 |.agg l=>.agg (Ah ρ s l)
 |.tup l=>.tup (Ah ρ s l)
 |.fo f l=>.fo f (Ah ρ s l)
 |x=>x
def Ah(ρ s:Nat→Nat):List AV→List AV
 |[]=>[]
 |x::r=>N9 ρ s x::Ah ρ s r
end
theorem Q7(ρ s:Nat→Nat):∀l,Ah ρ s l=l.map (N9 ρ s)
 |[]=>by simp[Ah]
 |x::r=>by simp[Ah,Q7 ρ s r]
def j9(ρ s:Nat→Nat)(i:Nat):C4→C4
 |.bx τ l=>.bx τ (Ah ρ s l)
 |.row e sz v l=>.row e sz (v+s i) l
 |.map m=>.map m
 |.it t p=>.it t p
structure Ren(c c':Cx)(ρ s:Nat→Nat):Prop where
 nx:∀i,i<c.nx→ρ i<c'.nx
 θ:∀i,i<c.nx→c'.θ (ρ i)=c.θ i
 N:∀i,i<c.nx→c'.θ.N (ρ i)=c.θ.N i
 w:c'.w=c.w
 U:∀k,c'.U k→c.U k
 rows:∀i,i<c.nx→∀e sz v' l,A5 c'.hp (ρ i)=some (.row e sz v' l)→∃v,A5 c.hp i=some (.row e sz v l)∧v'=v+s i
theorem Ren.im{c c':Cx}{ρ s:Nat→Nat}(h:Ren c c' ρ s){a:AV}{x:Value}(hi:Im c.U c.w a x):Im c'.U c'.w a x:=hi.mono (fun k _ _=>by rw[h.w]) fun k _ hu=>h.U k hu
theorem jL{c c':Cx}{ρ s:Nat→Nat}(h:Ren c c' ρ s){a:AV}{x:Value}(hi:Im c.U c.w a x):N9 ρ s a=a∨E0 c' (N9 ρ s a) x:=by
 induction hi with
 |v x=>exact .inl rfl
 |str l=>exact .inl rfl
 |fn f l cs hl hc ih=>exact .inl rfl
 |iptr l a f hu hc hh ih=>exact .inl rfl
 |err t p=>exact .inl rfl
 |any x=>exact .inl rfl
 |own e sz l x=>exact .inl rfl
 |slnil sz=>exact .inl rfl
 |sl sz l a cap f nK hm hu hsz hc hh ih=>exact .inl rfl
 |agg l cs hl hc ih =>
  refine .inr ?_
  simp only[N9,Q7]
  refine .agg _ cs (by simp[hl]) fun j u z hu hz=>?_
  simp only[List.getElem?_map,Option.map_eq_some_iff]at hu
  obtain⟨u0,oS,rfl⟩:=hu
  rcases ih j u0 z oS hz with e|e
  ·rw[e];exact .im (h.im (hc j u0 z oS hz))
  ·exact e
 |tup l cs hl hc ih =>
  refine .inr ?_
  simp only[N9,Q7]
  refine .tup _ cs (by simp[hl]) fun j u z hu hz=>?_
  simp only[List.getElem?_map,Option.map_eq_some_iff]at hu
  obtain⟨u0,oS,rfl⟩:=hu
  rcases ih j u0 z oS hz with e|e
  ·rw[e];exact .im (h.im (hc j u0 z oS hz))
  ·exact e
theorem OR{c c':Cx}{ρ s:Nat→Nat}(h:Ren c c' ρ s){a:AV}{x:Value}(r:E0 c a x):E0 c' (N9 ρ s a) x:=by
 induction r with
 |any x=>exact .any x
 |im hi =>
  rcases jL h hi with e|e
  ·rw[e];exact .im (h.im hi)
  ·exact e
 |agg l cs hl _ ih =>
  simp only[N9,Q7]
  refine .agg _ cs (by simp[hl]) fun j u z hu hz=>?_
  simp only[List.getElem?_map,Option.map_eq_some_iff]at hu
  obtain⟨u0,oS,rfl⟩:=hu
  exact ih j u0 z oS hz
 |tup l cs hl _ ih =>
  simp only[N9,Q7]
  refine .tup _ cs (by simp[hl]) fun j u z hu hz=>?_
  simp only[List.getElem?_map,Option.map_eq_some_iff]at hu
  obtain⟨u0,oS,rfl⟩:=hu
  exact ih j u0 z oS hz
 |fo f l cs hl _ ih =>
  simp only[N9,Q7]
  refine .fo f _ cs (by simp[hl]) fun j u z hu hz=>?_
  simp only[List.getElem?_map,Option.map_eq_some_iff]at hu
  obtain⟨u0,oS,rfl⟩:=hu
  exact ih j u0 z oS hz
 |ref i off b hi hθ=>exact .ref _ off b (h.nx i hi) (by rw[h.θ i hi];exact hθ)
 |row i ver len x hi hr =>
  refine .row _ _ len x (h.nx i hi) fun e sz v' l hl=>?_
  obtain⟨v,hv,rfl⟩:=h.rows i hi e sz v' l hl
  obtain⟨h1,h2⟩:=hr e sz v l hv
  exact⟨by omega,fun e=>by rw[h.θ i hi];exact h2 (by omega)⟩
 |mp i r hi hθ=>exact .mp _ r (h.nx i hi) (by rw[h.θ i hi];exact hθ)
 |sub i ver lo len x hi hr =>
  refine .sub _ _ lo len x (h.nx i hi) fun e sz v' l hl=>?_
  obtain⟨v,hv,rfl⟩:=h.rows i hi e sz v' l hl
  obtain⟨h1,h2⟩:=hr e sz v l hv
  exact⟨by omega,fun e=>by rw[h.θ i hi];exact h2 (by omega)⟩
 |elt i ver k off x hi hr =>
  refine .elt _ _ k off x (h.nx i hi) fun e sz v' l hl=>?_
  obtain⟨v,hv,rfl⟩:=h.rows i hi e sz v' l hl
  obtain⟨h1,h2⟩:=hr e sz v l hv
  exact⟨by omega,fun e=>by rw[h.θ i hi];exact h2 (by omega)⟩
theorem Vl{c c':Cx}{ρ s:Nat→Nat}(h:Ren c c' ρ s){i:Nat}{b:C4}(hi:i<c.nx)(o:L7 c i b):L7 c' (ρ i) (j9 ρ s i b):=by
 cases b with
 |bx τ l =>
  obtain⟨b',mu,T,e1,e2,e3,e4⟩:=o
  refine⟨b',mu,T,by rw[h.θ i hi];exact e1,by rw[h.w];exact e2,by rw[Q7,List.length_map];exact e3,fun j u z hu hz=>?_⟩
  rw[Q7]at hu
  simp only[List.getElem?_map,Option.map_eq_some_iff]at hu
  obtain⟨u0,oS,rfl⟩:=hu
  exact OR h (e4 j u0 z oS hz)
 |row e sz v l =>
  obtain⟨xs,e1,e2,e3,e4⟩:=o
  refine⟨xs,by rw[h.θ i hi,h.w];exact e1,e2,fun k el hk j x hx=>?_,fun hne=>⟨fun k p hk=>by rw[h.w];exact(e4 hne).1 k p (by rw[←h.N i hi];exact hk),fun k el hk j e' mP l' hj=>?_⟩⟩
  ·obtain⟨y,hy,hi⟩:=e3 k el hk j x hx
   exact⟨y,hy,h.im hi⟩
  ·obtain⟨g,m,cap,y,ys,q1,q2,q3,q4,q5,q6,q7⟩:=(e4 hne).2 k el hk j e' mP l' hj
   exact⟨g,m,cap,y,ys,by rw[h.θ i hi];exact q1,by rw[h.w];exact q2,by rw[h.w];exact q3,q4,q5,fun q nl hq j' x hx=>by
    obtain⟨z,hz,hi⟩:=q6 q nl hq j' x hx
    exact⟨z,hz,h.im hi⟩,fun b hb=>by rw[h.N i hi];exact q7 b hb⟩
 |map m =>
  obtain⟨r,es,clock,e1,e2,e3,e4⟩:=o
  exact⟨r,es,clock,by rw[h.θ i hi];exact e1,by rw[h.w];exact e2,e3,fun j q e hj he=>⟨(e4 j q e hj he).1,h.im (e4 j q e hj he).2⟩⟩
 |it t p =>
  obtain⟨r,e1,e2⟩:=o
  exact⟨r,by rw[h.θ i hi];exact e1,by rw[h.w];exact e2⟩
theorem Pa{c c':Cx}{ρ s:Nat→Nat}(hθ:∀i,i<c.nx→c'.θ (ρ i)=c.θ i)(hw:c'.w=c.w)(hU:∀k,c.U k→c'.U k)
  (nG:∀i,i<c.nx→∀e sz v l,A5 c.hp i=some (.row e sz v l)→A5 c'.hp (ρ i)=some (.row e sz (v+s i) l)):∀{a:AV} {x:Value},X0 c.nx a=true→E0 c' (N9 ρ s a) x→E0 c a x:=by
 have tE:∀{a:AV} {x:Value},Im c'.U c'.w a x→Im c.U c.w a x:=fun hi=>hi.mono (fun k _ _=>by rw[hw]) fun k _ hu=>hU k hu
 intro a
 refine AV.rec (motive_1:=fun a=>∀{x:Value},X0 c.nx a=true→E0 c' (N9 ρ s a) x→E0 c a x)
  (motive_2:=fun l=>V0 c.nx l=true→∀(j:Nat) u x,l[j]?=some u→E0 c' (N9 ρ s u) x→E0 c u x)
  (motive_3:=fun _=>True) ?_ ?_ ?_ ?_ ?_ ?_ ?_ ?_ ?_ ?_ ?_ ?_ ?_ ?_ ?_ ?_ ?_ ?_ ?_ ?_ a
 ·intro x _ _;exact .any x
 ·intro v x _ r;cases r with|im hi=>exact .im (tE hi)
 ·intro l x _ r;cases r with|im hi=>exact .im (tE hi)
 ·intro l ih x mM r
  simp only[X0]at mM
  simp only[N9,Q7]at r
  obtain⟨cs,rfl,hl,hr⟩:=Eh r
  refine .agg l cs (by simpa using hl) fun j u z hu hz=>ih mM j u z hu ?_
  exact hr j _ z (by simp[hu]) hz
 ·intro l ih x mM r
  simp only[X0]at mM
  simp only[N9,Q7]at r
  have:∃cs:List Value,x=.tuple cs.toArray∧(l.map (N9 ρ s)).length=cs.length∧∀(j:Nat) u z,(l.map (N9 ρ s))[j]?=some u→cs[j]?=some z→E0 c' u z:=by
   generalize l.map (N9 ρ s)=l' at r
   cases r with
   |im hi=>cases hi with|tup l cs hl hc=>exact⟨cs,rfl,hl,fun j u z hu hz=>.im (hc j u z hu hz)⟩
   |tup l cs hl hc=>exact⟨cs,rfl,hl,hc⟩
  obtain⟨cs,rfl,hl,hr⟩:=this
  refine .tup l cs (by simpa using hl) fun j u z hu hz=>ih mM j u z hu ?_
  exact hr j _ z (by simp[hu]) hz
 ·intro i off x mM r
  simp only[X0,Nat.blt_eq]at mM
  simp only[N9]at r
  obtain⟨b,h1,rfl,_⟩:=k7 r
  exact .ref i off b mM (by rw[←hθ i mM];exact h1)
 ·intro l _ x _ r;cases r with|im hi=>exact .im (tE hi)
 ·intro sz l _ x _ r;cases r with|im hi=>exact .im (tE hi)
 ·intro i ver len x mM r
  simp only[X0,Nat.blt_eq]at mM
  simp only[N9]at r
  refine .row i ver len x mM fun e sz v l hl=>?_
  cases r with
  |im hi=>cases hi
  |row _ _ _ _ hi h =>
   obtain⟨h1,h2⟩:=h e sz _ l (nG i mM e sz v l hl)
   exact⟨by omega,fun e=>by rw[←hθ i mM];exact h2 (by omega)⟩
 ·intro i x mM r
  simp only[X0,Nat.blt_eq]at mM
  simp only[N9]at r
  cases r with
  |im hi=>cases hi
  |mp _ r hi h=>exact .mp i r mM (by rw[←hθ i mM];exact h)
 ·intro i ver k off x mM r
  simp only[X0,Nat.blt_eq]at mM
  simp only[N9]at r
  refine .elt i ver k off x mM fun e sz v l hl=>?_
  cases r with
  |im hi=>cases hi
  |elt _ _ _ _ _ hi h =>
   obtain⟨h1,h2⟩:=h e sz _ l (nG i mM e sz v l hl)
   exact⟨by omega,fun e=>by rw[←hθ i mM];exact h2 (by omega)⟩
 ·intro f l _ x _ r;cases r with|im hi=>exact .im (tE hi)
 ·intro x _ r;cases r with|im hi=>exact .im (tE hi)
 ·intro f l ih x mM r
  simp only[X0]at mM
  simp only[N9,Q7]at r
  have:∃cs:List Value,x=RR f cs.toArray∧(l.map (N9 ρ s)).length=cs.length∧∀(j:Nat) u z,(l.map (N9 ρ s))[j]?=some u→cs[j]?=some z→E0 c' u z:=by
   generalize l.map (N9 ρ s)=l' at r
   cases r with
   |im hi=>cases hi
   |fo f l cs hl hc=>exact⟨cs,rfl,hl,hc⟩
  obtain⟨cs,rfl,hl,hr⟩:=this
  refine .fo f l cs (by simpa using hl) fun j u z hu hz=>ih mM j u z hu ?_
  exact hr j _ z (by simp[hu]) hz
 ·intro e sz l _ x _ _;exact .im (.own e sz l x)
 ·intro i ver lo len x mM r
  simp only[X0,Nat.blt_eq]at mM
  simp only[N9]at r
  refine .sub i ver lo len x mM fun e sz v l hl=>?_
  cases r with
  |im hi=>cases hi
  |sub _ _ _ _ _ hi h =>
   obtain⟨h1,h2⟩:=h e sz _ l (nG i mM e sz v l hl)
   exact⟨by omega,fun e=>by rw[←hθ i mM];exact h2 (by omega)⟩
 ·intro _ j u x hu;simp at hu
 ·intro a l iha rx mM j u x hu r
  simp only[V0,Bool.and_eq_true]at mM
  cases j with
  |zero=>simp at hu;subst hu;exact iha mM.1 r
  |succ j=>exact rx mM.2 j u x (by simpa using hu) r
 ·trivial
 ·intros;trivial
structure IH(X:Nat→Prop)(θ:Th)(nx:Nat)(hp:Hp)(w:World):Prop where
 owns:∀i b,A5 hp i=some b→i<nx∧L7 ⟨θ,nx,hp,X,w⟩ i b
 apart:∀i j b b' k,A5 hp i=some b→A5 hp j=some b'→FP θ i b k→FP θ j b' k→i=j
 fresh:∀i b k,A5 hp i=some b→FP θ i b k→¬X k
def owned(θ:Th)(hp:Hp)(k:Nat):Prop:=∃i b,A5 hp i=some b∧FP θ i b k
theorem IH.nodf{X:Nat→Prop}{θ:Th}{nx:Nat}{hp:Hp}{w:World}(h:IH X θ nx hp w){k:Nat}(ho:owned θ hp k){d:Option (List Deferred)}:w.heap[k]?≠some (Obj.deferred d):=by
 obtain⟨i,b,hi,hk⟩:=ho
 exact(h.owns i b hi).2.nodf hk
theorem Pb(ρ s:Nat→Nat)(i:Nat)(b:C4):V6 (j9 ρ s i b)=V6 b:=by cases b<;>rfl
theorem FP.ren{θ θ':Th}{ρ s:Nat→Nat}{i k:Nat}{b:C4}(h1:θ' (ρ i)=θ i)(h2:θ'.N (ρ i)=θ.N i):FP θ' (ρ i) (j9 ρ s i b) k↔FP θ i b k:=by
 unfold FP
 rw[Pb,h1,h2]
structure ER(X:Nat→Prop)(θ:Th)(w:World)(m0:Nat)(hp0:Hp)(m1:Nat)(hp1:Hp)(r:AV)(e:Ending)(w':World):Prop where
 out:∃v θ',e=.returned v∧E0 ⟨θ',m1,hp1,X,w'⟩ r v∧IH X θ' m1 hp1 w'∧(∀i b k,A5 hp1 i=some b→FP θ' i b k→owned θ hp0 k∨w.heap.size≤k)∧(∀i,i<m0→θ' i=θ i∨(∃x n k,θ i=.slice x n k)∧¬Kept hp1 i)
 os:w'.os=w.os
 tape:w'.tape=w.tape
 output:w'.output=w.output
 size:w.heap.size≤w'.heap.size
 block:∀k,k<w.heap.size→¬owned θ hp0 k→w'.heap[k]?=w.heap[k]?
def B7(P:Program)(f m0:Nat)(hp0:Hp)(args:List AV)(m1:Nat)(hp1:Hp)(r:AV):Prop:=OH P f ∧
 ∀(X:Nat→Prop) (θ:Th) (w:World) (vs:List Value),(∀k,X k→k<w.heap.size)→S3 (fun k=>X k∨owned θ hp0 k) w→IH X θ m0 hp0 w→args.length=vs.length→(∀(j:Nat) a v,args[j]?=some a→vs[j]?=some v→E0 ⟨θ,m0,hp0,X,w⟩ a v) →
  Calls P f vs.toArray w fun e w'=>ER X θ w m0 hp0 m1 hp1 r e w'
def V7:ResultVar→Nat
 |.tmp t=>t
 |.cell t _=>t
def Fd(σ:St):List ResultVar→St
 |[]=>σ
 |.tmp _::r=>Fd σ r
 |.cell t _::r=>match look σ.sl t with
  |some (.ref i 0)=>match A5 σ.hp i with
   |some (.bx _ l)=>Fd (σ.put t (.agg l)) r
   |_=>σ
  |_=>σ
def SH(P:Program)(n:Nat)(σ:St):List ResultVar→Prop
 |[]=>True
 |.tmp _::r=>SH P n σ r
 |.cell t T::r=>∃i l sz,look σ.sl t=some (.ref i 0)∧A5 σ.hp i=some (.box l)∧G6 P T true sz∧l.length=sz∧Nat.blt t n=true∧SH P n (σ.put t (.agg l)) r
def SI:List ResultVar→List AV→List (Nat×AV)
 |v::r,a::s=>(V7 v,a)::SI r s
 |_,_=>[]
def fA:List AV→AV
 |[a]=>a
 |l=>.tup l
def CG:List ResultVar→Bool
 |[]=>true
 |v::r=>(r.all fun u=>!(Nat.beq (V7 u) (V7 v))) && CG r
theorem SJ{tmps tmps':Array Value}{rv:ResultVar}(h:tmps.getD (V7 rv) undef=tmps'.getD (V7 rv) undef):X3 tmps rv=X3 tmps' rv:=by
 cases rv with
 |tmp t=>simp only[X3];rw[show tmps.getD t undef=tmps'.getD t undef from h]
 |cell t T=>simp only[X3];rw[show tmps.getD t undef=tmps'.getD t undef from h]
theorem Kf{a:Act}{d s:Nat}{v:Value}(h:d≠s):(a.put (some d) v).tmps.getD s undef=a.tmps.getD s undef:=by
 simp[Act.put,Array.getD_eq_getD_getElem?,Array.getElem?_setIfInBounds_ne h]
theorem Uh{a:Act}{d:Nat}{v:Value}(h:d<a.tmps.size):(a.put (some d) v).tmps.getD d undef=v:=by
 simp[Act.put,Array.getD,h]
theorem It{P:Program}{E:Env}{n:Nat}{θ:Th}{w:World}:∀{rvs:List ResultVar} {σ:St} {a:Act},J5 E n θ σ a w→SH P n σ rvs→CG rvs=true →
  ∃a',J5 E n θ (Fd σ rvs) a' w∧(∀rv∈rvs,(X3 a.tmps rv).run P w=.ok (a'.tmps.getD (V7 rv) undef) w)∧∀s,(∀rv∈rvs,V7 rv≠s)→a'.tmps.getD s undef=a.tmps.getD s undef
 |[],σ,a,hs,_,_=>⟨a,hs,(fun rv h=>by (cases h)),fun s _=>rfl⟩
 |.tmp t::r,σ,a,hs,np,pm=>by
  simp only[CG,Bool.and_eq_true,List.all_eq_true,Bool.not_eq_true']at pm
  obtain⟨a',h1,h2,h3⟩:=It (rvs:=r) hs np pm.2
  refine⟨a',h1,fun rv sy=>?_,fun s nU=>h3 s fun rv h=>nU rv (by simp[h])⟩
  rcases List.mem_cons.1 sy with rfl|sy
  ·have:=h3 t (fun rv h e=>by
    have h4:=pm.1 rv h
    have e':V7 rv=V7 (.tmp t):=e
    rw[e']at h4
    simp at h4)
   simp[X3,V7,Sem.run_pure,this]
  ·exact h2 rv sy
 |.cell t T::r,σ,a,hs,np,pm=>by
  simp only[CG,Bool.and_eq_true,List.all_eq_true,Bool.not_eq_true']at pm
  obtain⟨i,l,sz,h1,h2,tv,rl,hn,np⟩:=np
  have xX:=Nat.blt_eq▸hn
  obtain⟨b1,hθ,hv,_⟩:=k7 (hs.slots t _ h1)
  obtain⟨b',mu,T',ni,hh,hsz,hr⟩:=(hs.owns i _ h2).2
  have ov:θ i=.pointer (some ⟨b1,0,none⟩):=hθ
  have pc:θ i=.pointer (some ⟨b',0,none⟩):=ni
  rw[ov]at pc
  cases pc
  have vE:w.heap[b1]?=some (.cells mu T' (0,0)):=hh
  have oE:E0 (cx E θ σ w) (.agg l) (.agg mu):=by
   have:=E0.agg (c:=cx E θ σ w) l mu.toList (by simp[hsz]) (fun j x y hx hy=>hr j x y hx (by simpa using hy))
   simpa using this
  have uS:=hs.put xX oE
  have pR:=S5 (P:=P) (T:=T) (sz:=sz) (w:=w) (a:=⟨b1,0,none⟩) (cs:=mu.toList) (by rw[Array.length_toList,hsz,rl]) (fun j v hj=>by rw[H3,J9 vE];simpa using hj)
  obtain⟨a',h3,h4,h5⟩:=It (rvs:=r) uS np pm.2
  have hne:∀rv∈r,V7 rv≠t:=fun rv h e=>by
   have h6:=pm.1 rv h
   have e':V7 rv=V7 (.cell t T):=e
   rw[e']at h6
   simp at h6
  have qF:Fd σ (.cell t T::r)=Fd (σ.put t (.agg l)) r:=by simp only[Fd,h1,h2]
  refine⟨a',qF▸h3,fun rv sy=>?_,fun s nU=>?_⟩
  ·rcases List.mem_cons.1 sy with rfl|sy
   ·have h6:=h5 t hne
    rw[Uh (by rw[hs.size];exact xX)]at h6
    show _=Result.ok (a'.tmps.getD t undef) w
    rw[h6]
    simp[X3,hv,Sem.run_bind,Sem.run_pure,asAddr,pR]
   ·rw[←h4 rv sy]
    rw[SJ (tmps:=a.tmps) (tmps':=(a.put (some t) (.agg mu)).tmps)]
    exact(Kf (Ne.symm (hne rv sy))).symm
  ·rw[h5 s fun rv h=>nU rv (by simp[h]),Kf]
   exact nU (.cell t T) (by simp)
theorem Pc:∀{rvs:List ResultVar} {as:List AV},rvs.length=as.length→CG rvs=true→∀(j:Nat) rv a,rvs[j]?=some rv→as[j]?=some a→look (SI rvs as) (V7 rv)=some a
 |[],_,_,_,j,rv,a,h,_=>by simp at h
 |v::r,[],hl,_,_,_,_,_,_=>by simp at hl
 |v::r,b::s,hl,pm,j,rv,a,hj,ha=>by
  simp only[CG,Bool.and_eq_true,List.all_eq_true,Bool.not_eq_true']at pm
  simp only[SI,E9]
  cases j with
  |zero=>simp at hj ha;subst hj ha;simp
  |succ j =>
   have mi:r[j]?=some rv:=by simpa using hj
   have hne:V7 v≠V7 rv:=fun e=>by
    have h6:=pm.1 rv (List.mem_of_getElem? mi)
    rw[←e]at h6
    simp at h6
   rw[if_neg hne]
   exact Pc (by simpa using hl) pm.2 j rv a mi (by simpa using ha)
def cR(P:Program)(E:Env)(n:Nat)(rs:Array ResultVar)(m1:Nat)(hp1:Hp)(r:AV)(σ:St):Prop :=
 (∃rvs as,rs=rvs.toArray∧SH P n σ rvs∧CG rvs=true∧rvs.length=as.length∧St.le E n (Fd σ rvs) ⟨SI rvs as,m1,hp1⟩∧r=fA as) ∨
 (∃t,rs=#[.tmp t]∧St.le E n σ ⟨[(t,r)],m1,hp1⟩) ∨
 (∃t u a b,rs=#[.tmp t,.tmp u]∧St.le E n σ ⟨[(t,a),(u,b)],m1,hp1⟩∧t≠u∧r=.tup [a,b]) ∨
 (∃t T i τ l sz,rs=#[.cell t T]∧G6 P T true sz∧l.length=sz∧St.le E n σ ⟨[(t,.ref i 0)],m1,hp1⟩∧A5 hp1 i=some (.bx τ l)∧r=.agg l)
def C6(P:Program)(E:Env)(n:Nat)(rs:Array ResultVar)(m1:Nat)(hp1:Hp)(r:AV):Exit→St→Prop
 |.ret,σ=>cR P E n rs m1 hp1 r σ
 |.normal,σ=>cR P E n rs m1 hp1 r σ
 |_,_=>False
section rules
variable {P:Program} {E:Env} {n:Nat} {ops:Array Oper} {rest:List Oper} {σ:St} {K:St→Prop} {Q:Exit→St→Prop}
variable {d:Nat} {ty:TypeId} {pos:String} {after:Array Edge} {x y:Operand}
theorem H4{t m1:Nat}{hp1:Hp}{r:AV}(h:St.le E n σ ⟨[(t,r)],m1,hp1⟩):C6 P E n #[.tmp t] m1 hp1 r .ret σ:=.inr (.inl ⟨t,rfl,h⟩)
theorem L9{rvs:List ResultVar}{vs:List AV}{m1:Nat}{hp1:Hp}{r:AV}(np:SH P n σ rvs)(pm:CG rvs=true)(hl:rvs.length=vs.length)(h:St.le E n (Fd σ rvs) ⟨SI rvs vs,m1,hp1⟩)(hr:fA vs=r):C6 P E n rvs.toArray m1 hp1 r .ret σ:=.inl ⟨rvs,vs,rfl,np,pm,hl,h,hr.symm⟩
theorem Pd{t T i m1 sz τ:Nat}{hp1:Hp}{l:List AV}[tv:G6 P T true sz](hl:l.length=sz)(h:St.le E n σ ⟨[(t,.ref i 0)],m1,hp1⟩)(hb:A5 hp1 i=some (.bx τ l)):C6 P E n #[.cell t T] m1 hp1 (.agg l) .ret σ :=
 .inr (.inr (.inr ⟨t,T,i,τ,l,sz,rfl,tv,hl,h,hb,rfl⟩))
theorem SK{f:Nat}{fn:Func}{code:Code}{args:List AV}{r:AV}{rs:Array ResultVar}{m0 m1:Nat}{hp0 hp1:Hp}(hf:P.funcs[f]?=some fn)(hb:fn.body=some code)(hn:fn.ntmps=n)(rm:fn.results=rs)
  (mm:Nat.ble args.length n=true) {X:Nat→Prop} {θ:Th} {w:World} {vs:List Value} (hX:∀k,X k→k<w.heap.size) (nL:S3 (fun k=>X k∨owned θ hp0 k) w) (pp:IH X θ m0 hp0 w) (hl:args.length=vs.length) (pd:∀(j:Nat) a v,args[j]?=some a→vs[j]?=some v→E0 ⟨θ,m0,hp0,X,w⟩ a v)
  (h:C9 P ⟨w,X,owned θ hp0,θ.v,m0,nL,false⟩ n code ⟨BB args 0,m0,hp0⟩ (C6 P ⟨w,X,owned θ hp0,θ.v,m0,nL,false⟩ n rs m1 hp1 r)):Calls P f vs.toArray w fun e w'=>ER X θ w m0 hp0 m1 hp1 r e w':=by
 subst hn rm
 refine calls_of_wp hf hb ?_
 have nT:args.length≤fn.ntmps:=Nat.ble_eq▸mm
 have start:j7 ⟨w,X,owned θ hp0,θ.v,m0,nL,false⟩ fn.ntmps ⟨BB args 0,m0,hp0⟩ { tmps:=vs.toArray++Array.replicate (fn.ntmps-vs.toArray.size) undef,defers:=[] } w:=by
  refine⟨θ,?_,.nil,⟨rfl,rfl,rfl,Nat.le_refl _,fun _ _ _=>rfl⟩,fun s x hs=>?_,pp.owns,pp.apart,fun i b k hi hk=>⟨pp.fresh i b k hi hk,.inl ⟨i,b,hi,hk⟩⟩,hX,⟨Nat.le_refl _,fun i hi=>.inl rfl⟩⟩
  ·simp;omega
  ·obtain⟨_,hx⟩:=EN args 0 s x hs
   rw[Nat.sub_zero]at hx
   have mM:s<vs.length:=by rw[←hl];exact(List.getElem?_eq_some_iff.1 hx).1
   have hv:vs[s]?=some vs[s]:=List.getElem?_eq_getElem mM
   have e:(vs.toArray++Array.replicate (fn.ntmps-vs.toArray.size) undef).getD s undef=vs[s]:=by
    rw[Array.getD_eq_getD_getElem?,Array.getElem?_append]
    simp[mM]
   rw[e]
   exact pd s x _ hx hv
 refine wp_mono (h _ w start) ?_
 rintro e a w' ⟨σ',hq,qJ⟩
 have fin:cR P ⟨w,X,owned θ hp0,θ.v,m0,nL,false⟩ fn.ntmps fn.results m1 hp1 r σ'→bodyPost P fn (fun e qG=>ER X θ w m0 hp0 m1 hp1 r e qG) .ret a w':=by
  intro sr
  have post:∀{sl:List (Nat×AV)} {v:Value} {θ':Th},J5 ⟨w,X,owned θ hp0,θ.v,m0,nL,false⟩ fn.ntmps θ' ⟨sl,m1,hp1⟩ a w'→E0 ⟨θ',m1,hp1,X,w'⟩ r v→ER X θ w m0 hp0 m1 hp1 r (.returned v) w':=by
   intro sl v θ' hs hv
   exact⟨⟨v,θ',rfl,hv,⟨hs.owns,hs.apart,fun i b k hi hk=>(hs.mine i b k hi hk).1⟩,fun i b k hi hk=>(hs.mine i b k hi hk).2,hs.base.2⟩,hs.fr.os,hs.fr.tape,hs.fr.output,hs.fr.size,hs.fr.block⟩
  rcases sr with ⟨rvs,as,h1,np,pm,mL,h2,hr⟩|⟨t,h1,h2⟩|⟨t,u,a1,b1,h1,h2,hne,rfl⟩|⟨t,T,i,τ,l,sz,h1,tv,mL,h2,h3,rfl⟩
  ·obtain⟨θ0,tV⟩:=qJ
   obtain⟨a',uS,mw,_⟩:=It tV np pm
   obtain⟨θ',hs⟩:=h2 a' w' ⟨θ0,uS⟩
   have oE:∀(j:Nat) rv b,rvs[j]?=some rv→as[j]?=some b→E0 ⟨θ',m1,hp1,X,w'⟩ b (a'.tmps.getD (V7 rv) undef):=fun j rv b hj hb=>hs.slots _ b (Pc mL pm j rv b hj hb)
   have uL:∀{v:Value},E0 ⟨θ',m1,hp1,X,w'⟩ r v→ER X θ w m0 hp0 m1 hp1 r (.returned v) w':=fun hv =>
    ⟨⟨_,θ',rfl,hv,⟨hs.owns,hs.apart,fun i b k hi hk=>(hs.mine i b k hi hk).1⟩,fun i b k hi hk=>(hs.mine i b k hi hk).2,hs.base.2⟩,hs.fr.os,hs.fr.tape,hs.fr.output,hs.fr.size,hs.fr.block⟩
   have tup:rvs.length≠1→r=.tup as→∃v,(results fn a.tmps).run P w'=.ok v w'∧ER X θ w m0 hp0 m1 hp1 r (.returned v) w':=by
    intro hne hr
    refine⟨_,Kd (vs:=rvs.map fun rv=>a'.tmps.getD (V7 rv) undef) h1 hne (by simp) (fun j rv v hj hv=>?_),uL ?_⟩
    ·simp only[List.getElem?_map,hj,Option.map_some,Option.some.injEq]at hv
     subst hv
     exact mw rv (List.mem_of_getElem? hj)
    ·rw[hr]
     refine .tup as _ (by simp[mL]) fun j b v hb hv=>?_
     simp only[List.getElem?_map,Option.map_eq_some_iff]at hv
     obtain⟨rv,hj,rfl⟩:=hv
     exact oE j rv b hj hb
   match rvs,as,mL,hr,h1,mw,oE,tup with
   |[rv],[b],_,hr,h1,mw,oE,_ =>
    have hr:r=b:=hr
    subst hr
    exact⟨tV.defers.1 rfl,_,Rz h1 (mw rv (by simp)),uL (oE 0 rv _ rfl rfl)⟩
   |[],[],_,hr,_,_,_,tup=>obtain⟨v,tj,pu⟩:=tup (by simp) hr;exact⟨tV.defers.1 rfl,v,tj,pu⟩
   |_::_::_,_::_::_,_,hr,_,_,_,tup=>obtain⟨v,tj,pu⟩:=tup (by simp) hr;exact⟨tV.defers.1 rfl,v,tj,pu⟩
  ·obtain⟨θ',hs⟩:=h2 a w' qJ
   exact⟨hs.defers.1 rfl,_,results_tmp h1 _ _ _,post hs (hs.slots t r (by simp[look]))⟩
  ·obtain⟨θ',hs⟩:=h2 a w' qJ
   refine⟨hs.defers.1 rfl,_,results_tmp2 h1 _ _ _,post hs (.tup [a1,b1] [_,_] rfl fun j x y hx hy=>?_)⟩
   match j,hx,hy with
   |0,hx,hy=>cases hx;cases hy;exact hs.slots t _ (by simp[look])
   |1,hx,hy=>cases hx;cases hy;exact hs.slots u _ (by rw[E9,if_neg hne,E9,if_pos rfl])
  ·obtain⟨θ',hs⟩:=h2 a w' qJ
   obtain⟨b,hθ,hv,_⟩:=k7 (hs.slots t (.ref i 0) (by simp[look]))
   obtain⟨b',mu,T',ni,hh,hsz,hr⟩:=(hs.owns i _ h3).2
   have ov:θ' i=.pointer (some ⟨b,0,none⟩):=hθ
   have pc:θ' i=.pointer (some ⟨b',0,none⟩):=ni
   rw[ov]at pc
   cases pc
   have vE:w'.heap[b]?=some (.cells mu T' (0,0)):=hh
   refine⟨hs.defers.1 rfl,.agg mu,?_,post hs ?_⟩
   ·have pR:=S5 (P:=P) (T:=T) (sz:=sz) (w:=w') (a:=⟨b,0,none⟩) (cs:=mu.toList) (by rw[Array.length_toList,hsz,mL]) (fun j v hj=>by rw[H3,J9 vE];simpa using hj)
    rw[Array.getD_eq_getD_getElem?]at hv
    simp[results,h1,hv,Sem.run_bind,Sem.run_pure,asAddr,pR]
   ·have:=E0.agg (c:=⟨θ',m1,hp1,X,w'⟩) l mu.toList (by simp[hsz]) (fun j x y hx hy=>hr j x y hx (by simpa using hy))
    simpa using this
 cases e with
 |normal=>exact fin hq
 |ret=>exact fin hq
 |exit id=>exact hq.elim
 |goto l=>exact hq.elim
 |panic c=>exact hq.elim
 |outgrown=>exact hq.elim
theorem Ui {f : Nat} {fn : Func} {code : Code} {args : List AV} {r : AV} {rs : Array ResultVar} {m0 m1 : Nat} {hp0 hp1 : Hp} (hf : P.funcs[f]? = some fn) (oF : (fn.name == "runtime.NumGoroutine") = false) (hb : fn.body = some code) (hn : fn.ntmps = n) (rm : fn.results = rs)
  (mm:Nat.ble args.length n=true) (h:∀E,E.n0=m0→C9 P E n code ⟨BB args 0,m0,hp0⟩ (C6 P E n rs m1 hp1 r)):B7 P f m0 hp0 args m1 hp1 r :=
 ⟨⟨fn,hf,oF,by rw[hb];rfl⟩,fun X θ w vs hX nL pp hl pd=>SK hf hb hn rm mm hX nL pp hl pd (h _ rfl)⟩
def V4(ρ s:Nat→Nat):Hp→Hp
 |[]=>[]
 |(k,b)::r=>(ρ k,b.map (j9 ρ s k))::V4 ρ s r
theorem HM{ρ s:Nat→Nat}{m:Nat}(tr:∀i j,i<m→j<m→ρ i=ρ j→i=j):∀(hp h:Hp),K8 m hp=true→∀j,j<m→look (V4 ρ s hp++h) (ρ j)=match look hp j with
  |some b=>some (b.map (j9 ρ s j))
  |none=>look h (ρ j)
 |[],h,_,j,hj=>rfl
 |(k,b)::r,h,mM,j,hj=>by
  have hk:k<m∧K8 m r=true:=by
   match b,mM with
   |none,mM=>simp only[K8,Bool.and_eq_true,Nat.blt_eq]at mM;exact mM
   |some (.bx τ l),mM=>simp only[K8,Bool.and_eq_true,Nat.blt_eq]at mM;exact⟨mM.1.1,mM.2⟩
   |some (.row ..),mM=>simp only[K8,Bool.and_eq_true,Nat.blt_eq]at mM;exact mM
   |some (.map ..),mM=>simp only[K8,Bool.and_eq_true,Nat.blt_eq]at mM;exact mM
   |some (.it ..),mM=>simp only[K8,Bool.and_eq_true,Nat.blt_eq]at mM;exact mM
  simp only[V4,List.cons_append,E9]
  by_cases e:k=j
  ·subst e;simp
  ·have:ρ k≠ρ j:=fun h2=>e (tr k j hk.1 hj h2)
   simp only[if_neg this,if_neg e]
   exact HM tr r h hk.2 j hj
theorem Bn{ρ s:Nat→Nat}{m:Nat}:∀(hp h:Hp),K8 m hp=true→∀i,(∀j,j<m→ρ j≠i)→look (V4 ρ s hp++h) i=look h i
 |[],h,_,i,_=>rfl
 |(k,b)::r,h,mM,i,hi=>by
  have hk:k<m∧K8 m r=true:=by
   match b,mM with
   |none,mM=>simp only[K8,Bool.and_eq_true,Nat.blt_eq]at mM;exact mM
   |some (.bx τ l),mM=>simp only[K8,Bool.and_eq_true,Nat.blt_eq]at mM;exact⟨mM.1.1,mM.2⟩
   |some (.row ..),mM=>simp only[K8,Bool.and_eq_true,Nat.blt_eq]at mM;exact mM
   |some (.map ..),mM=>simp only[K8,Bool.and_eq_true,Nat.blt_eq]at mM;exact mM
   |some (.it ..),mM=>simp only[K8,Bool.and_eq_true,Nat.blt_eq]at mM;exact mM
  simp only[V4,List.cons_append,E9,if_neg (hi k hk.1)]
  exact Bn r h hk.2 i hi
def K3(ι:List Nat)(i:Nat):Nat:=ι.getD i 0
def XH(h:Hp)(i:Nat):Nat:=match A5 h i with
 |some (.row e _ v _)=>cond (c8 e) v (v+1)
 |_=>0
def Da(h hp0:Hp)(ι off:List Nat):Nat→Prop
 |0=>True
 |m+1=>A5 h (K3 ι m)=(A5 hp0 m).map (j9 (K3 ι) (K3 off) m)∧Da h hp0 ι off m
theorem Mt{h hp0:Hp}{ι off:List Nat}:∀{m:Nat},Da h hp0 ι off m→∀i,i<m→A5 h (K3 ι i)=(A5 hp0 i).map (j9 (K3 ι) (K3 off) i)
 |0,_,i,hi=>absurd hi (Nat.not_lt_zero _)
 |m+1,hb,i,hi=>by
  by_cases e:i=m
  ·subst e;exact hb.1
  ·exact Mt hb.2 i (by omega)
def Ai(hp0 hp1:Hp):Nat→Bool
 |0=>true
 |m+1=>(look hp1 m).isSome && (match A5 hp1 m,A5 hp0 m with
  |some (.row e sz _ _),some (.row e' mP _ _)=>Nat.beq sz mP && (c8 e == c8 e')
  |some (.row ..),_=>false
  |_,_=>true) && Ai hp0 hp1 m
theorem Kg{hp0 hp1:Hp}:∀{m:Nat},Ai hp0 hp1 m=true→∀i,i<m→(look hp1 i).isSome=true∧∀e sz v l,A5 hp1 i=some (.row e sz v l)→∃e' v' l',A5 hp0 i=some (.row e' sz v' l')∧c8 e=c8 e'
 |0,_,i,hi=>absurd hi (Nat.not_lt_zero _)
 |m+1,hb,i,hi=>by
  simp only[Ai,Bool.and_eq_true]at hb
  by_cases e:i=m
  ·subst e
   refine⟨hb.1.1,fun e sz v l hl=>?_⟩
   have h2:=hb.1.2
   rw[hl]at h2
   split at h2
   ·rename_i h3 h4
    cases h3
    rw[Bool.and_eq_true]at h2
    refine⟨_,_,_,by rw[h4,Nat.eq_of_beq_eq_true h2.1],?_⟩
    exact eq_of_beq h2.2
   ·cases h2
   ·rename_i h4 h3
    first|exact absurd rfl (h3 e sz v l)|exact absurd rfl (h4 e sz v l)|exact(h3 e sz v l rfl).elim|exact(h4 e sz v l rfl).elim
  ·exact Kg hb.2 i (by omega)
def Cd(ι:List Nat)(nx:Nat):Bool:=match ι with
 |[]=>true
 |i::r=>Nat.blt i nx && !(r.contains i) && Cd r nx
theorem Mu:∀{ι:List Nat} {nx:Nat},Cd ι nx=true→(∀i,i<ι.length→K3 ι i<nx)∧∀i j,i<ι.length→j<ι.length→K3 ι i=K3 ι j→i=j
 |[],nx,_=>⟨fun i hi=>absurd hi (Nat.not_lt_zero _),fun i j hi=>absurd hi (Nat.not_lt_zero _)⟩
 |a::r,nx,h=>by
  simp only[Cd,Bool.and_eq_true,Nat.blt_eq,Bool.not_eq_true']at h
  obtain⟨h1,h2⟩:=Mu h.2
  have nE:∀i,i<r.length→K3 r i∈r:=fun i hi=>by simp[K3,List.getD,hi]
  have xl:a∉r:=by simpa using h.1.2
  refine⟨fun i hi=>?_,fun i j hi hj he=>?_⟩
  ·cases i with
   |zero=>exact h.1.1
   |succ i=>exact h1 i (by simpa using hi)
  ·cases i with
   |zero =>
    cases j with
    |zero=>rfl
    |succ j=>exact absurd (show a∈r from (show a=K3 r j from he)▸nE j (by simpa using hj)) xl
   |succ i =>
    cases j with
    |zero=>exact absurd (show a∈r from (show K3 r i=a from he)▸nE i (by simpa using hi)) xl
    |succ j=>exact congrArg (·+1) (h2 i j (by simpa using hi) (by simpa using hj) he)
def gρ(ι:List Nat)(m0 nx:Nat)(i:Nat):Nat:=cond (Nat.blt i m0) (K3 ι i) (nx+(i-m0))
def gs(ι:List Nat)(m0:Nat)(h:Hp)(i:Nat):Nat:=cond (Nat.blt i m0) (XH h (K3 ι i)) 0
theorem Jt{ι:List Nat}{m0 nx i:Nat}(h:i<m0):gρ ι m0 nx i=K3 ι i:=by
 have:Nat.blt i m0=true:=Nat.blt_eq▸h
 simp[gρ,this]
theorem HN{ι:List Nat}{m0 nx i:Nat}(h:¬i<m0):gρ ι m0 nx i=nx+(i-m0):=by
 have:Nat.blt i m0=false:=by
  cases hb:Nat.blt i m0
  ·rfl
  ·exact absurd (Nat.blt_eq▸hb) h
 simp[gρ,this]
theorem Zc{c c':Cx}{ρ s:Nat→Nat}(hθ:∀i,i<c.nx→c'.θ (ρ i)=c.θ i)(hN:∀i,i<c.nx→c'.θ.N (ρ i)=c.θ.N i)(hw:c'.w=c.w)(hU:∀k,c.U k→c'.U k)
  (nG:∀i,i<c.nx→∀e sz v l,A5 c.hp i=some (.row e sz v l)→A5 c'.hp (ρ i)=some (.row e sz (v+s i) l))
  {i:Nat} {b:C4} (hi:i<c.nx) (yq:∀τ l,b=.bx τ l→V0 c.nx l=true) (o:L7 c' (ρ i) (j9 ρ s i b)):L7 c i b:=by
 have tE:∀{a:AV} {x:Value},Im c'.U c'.w a x→Im c.U c.w a x:=fun hi=>hi.mono (fun k _ _=>by rw[hw]) fun k _ hu=>hU k hu
 cases b with
 |bx τ l =>
  obtain⟨b',mu,T,e1,e2,e3,e4⟩:=o
  refine⟨b',mu,T,by rw[←hθ i hi];exact e1,by rw[←hw];exact e2,by rw[Q7,List.length_map]at e3;exact e3,fun j u z hu hz=>?_⟩
  refine Pa hθ hw hU nG (Ae (yq τ l rfl) u (List.mem_of_getElem? hu)) (e4 j _ z ?_ hz)
  rw[Q7];simp[hu]
 |row e sz v l =>
  obtain⟨xs,e1,e2,e3,e4⟩:=o
  refine⟨xs,by rw[←hθ i hi,←hw];exact e1,e2,fun k el hk j x hx=>?_,fun hne=>⟨fun k p hk=>by rw[←hw];exact(e4 hne).1 k p (by rw[hN i hi];exact hk),fun k el hk j e' mP l' hj=>?_⟩⟩
  ·obtain⟨y,hy,hi⟩:=e3 k el hk j x hx
   exact⟨y,hy,tE hi⟩
  ·obtain⟨g,m,cap,y,ys,q1,q2,q3,q4,q5,q6,q7⟩:=(e4 hne).2 k el hk j e' mP l' hj
   exact⟨g,m,cap,y,ys,by rw[←hθ i hi];exact q1,by rw[←hw];exact q2,by rw[←hw];exact q3,q4,q5,fun q nl hq j' x hx=>by
    obtain⟨z,hz,hi⟩:=q6 q nl hq j' x hx
    exact⟨z,hz,tE hi⟩,fun b hb=>by rw[←hN i hi];exact q7 b hb⟩
 |map m =>
  obtain⟨r,es,clock,e1,e2,e3,e4⟩:=o
  exact⟨r,es,clock,by rw[←hθ i hi];exact e1,by rw[←hw];exact e2,e3,fun j q e hj he=>⟨(e4 j q e hj he).1,tE (e4 j q e hj he).2⟩⟩
 |it t p =>
  obtain⟨r,e1,e2⟩:=o
  exact⟨r,by rw[←hθ i hi];exact e1,by rw[←hw];exact e2⟩
theorem Zd{C:Cx}{A B:List AV}{x y:List Value}(h1:A.length=x.length)(ha:∀(j:Nat) u v,A[j]?=some u→x[j]?=some v→E0 C u v)(hb:∀(j:Nat) u v,B[j]?=some u→y[j]?=some v→E0 C u v):∀(j:Nat) u v,(A++B)[j]?=some u→(x++y)[j]?=some v→E0 C u v:=fun j u v hu hv=>by
 by_cases hj:j<A.length
 ·rw[List.getElem?_append_left hj]at hu
  rw[List.getElem?_append_left (by omega)]at hv
  exact ha j u v hu hv
 ·rw[List.getElem?_append_right (by omega)]at hu
  rw[List.getElem?_append_right (by omega),←h1]at hv
  exact hb _ u v hu hv
theorem HO{Cl:List Value→World→(Ending→World→Prop)→Prop}(vd:∀{vs:List Value} {w:World} {R R':Ending→World→Prop},Cl vs w R→(∀e w',R e w'→R' e w')→Cl vs w R')
  {A args:List AV} {r:AV} {m0 m1:Nat} {hp0 hp1:Hp} (ι off:List Nat) {θ:Th} {a:Act} {w:World} (hs:J5 E n θ σ a w) {vs:List Value} (hAl:A.length=vs.length) (hr:∀(j:Nat) x v,A[j]?=some x→vs[j]?=some v→E0 (cx E θ σ w) x v)
  (hL:Ah (K3 ι) (K3 off) args=A) (mm:V0 m0 args=true) (hι:Nat.beq ι.length m0=true) (tH:Cd ι σ.nx=true) (nF:Da σ.hp hp0 ι off m0) (mo:Ai hp0 hp1 m0=true)
  (rE:K8 m0 hp0=true) (oH:K8 m1 hp1=true) (hm:Nat.ble m0 m1=true)
  (hc:∀(X:Nat→Prop) (θc:Th),(∀k,X k→k<w.heap.size)→S3 (fun k=>X k∨owned θc hp0 k) w→IH X θc m0 hp0 w→(∀k,owned θc hp0 k→(cx E θ σ w).own k)→(∀k,E.X k→X k)→(∀k,X k→(cx E θ σ w).U k)→args.length=vs.length→(∀(j:Nat) a v,args[j]?=some a→vs[j]?=some v→E0 ⟨θc,m0,hp0,X,w⟩ a v) →
   Cl vs w (ER X θc w m0 hp0 m1 hp1 r)) :
  Cl vs w fun e w'=>∃v Θ,e=.returned v∧J5 E n Θ ⟨σ.sl,σ.nx+(m1-m0),V4 (gρ ι m0 σ.nx) (gs ι m0 σ.hp) hp1++σ.hp⟩ a w' ∧
   E0 (cx E Θ ⟨σ.sl,σ.nx+(m1-m0),V4 (gρ ι m0 σ.nx) (gs ι m0 σ.hp) hp1++σ.hp⟩ w') (N9 (gρ ι m0 σ.nx) (gs ι m0 σ.hp) r) v∧w.heap.size≤w'.heap.size∧∀k,k<w.heap.size→¬(cx E θ σ w).own k→w'.heap[k]?=w.heap[k]?:=by
 have hι:=Nat.eq_of_beq_eq_true hι
 have hm:=Nat.ble_eq▸hm
 obtain⟨tK,sQ⟩:=Mu tH
 rw[hι]at tK sQ
 have nF:=Mt nF
 have mo:=Kg mo
 let C:=cx E θ σ w
 let θc:Th:=⟨fun i=>θ (K3 ι i),fun i=>θ.N (K3 ι i)⟩
 let Xc:Nat→Prop:=fun k=>C.U k∧¬owned θc hp0 k
 let c0:Cx:=⟨θc,m0,hp0,Xc,w⟩
 have ow:∀k,owned θc hp0 k→∃i b0,i<m0∧A5 hp0 i=some b0∧A5 σ.hp (K3 ι i)=some (j9 (K3 ι) (K3 off) i b0)∧FP θ (K3 ι i) (j9 (K3 ι) (K3 off) i b0) k:=by
  rintro k ⟨i,b,hi,hk⟩
  have mM:=(CE rE hi).1
  exact⟨i,b,mM,hi,by rw[nF i mM,hi];rfl,(FP.ren (θ:=θc) rfl rfl).2 hk⟩
 have yQ:∀k,c0.U k→C.U k:=by
  rintro k (hk|hk)
  ·exact hk.1
  ·obtain⟨i,b0,_,_,h1,h2⟩:=ow k hk
   exact .inr ⟨_,_,h1,h2⟩
 have qD:∀i,i<c0.nx→∀e sz v l,A5 c0.hp i=some (.row e sz v l)→A5 C.hp (K3 ι i)=some (.row e sz (v+K3 off i) l):=by
  intro i hi e sz v l hl
  have:=nF i hi
  have nB:A5 hp0 i=some (.row e sz v l):=hl
  rw[nB]at this
  exact this
 have mL:args.length=vs.length:=by
  have:=congrArg List.length hL
  rw[Q7,List.length_map]at this
  rw[this,hAl]
 have vn:IH Xc θc m0 hp0 w:=by
  refine⟨fun i b hi=>?_,fun i j b b' k hi hj tC vw=>?_,fun i b k hi hk hX=>hX.2 ⟨i,b,hi,hk⟩⟩
  ·obtain⟨mM,zW⟩:=CE rE hi
   have h1:A5 σ.hp (K3 ι i)=some (j9 (K3 ι) (K3 off) i b):=by rw[nF i mM,hi];rfl
   exact⟨mM,Zc (c:=c0) (c':=C) (fun i _=>rfl) (fun i _=>rfl) rfl yQ qD mM zW (hs.owns _ _ h1).2⟩
  ·have h1:=(CE rE hi).1
   have h2:=(CE rE hj).1
   refine sQ i j h1 h2 (hs.apart _ _ (j9 (K3 ι) (K3 off) i b) (j9 (K3 ι) (K3 off) j b') k (by rw[nF i h1,hi];rfl) (by rw[nF j h2,hj];rfl) ((FP.ren (θ:=θc) rfl rfl).2 tC) ((FP.ren (θ:=θc) rfl rfl).2 vw))
 have vZ:∀k,owned θc hp0 k→C.own k:=fun k hk=>by
  obtain⟨i,b0,_,_,h1,h2⟩:=ow k hk
  exact⟨_,_,h1,h2⟩
 have qX:=hc Xc θc (fun k hk=>hs.evT.Ult k hk.1) (hs.evT.tab.mono (fun k _ hk=>hk.elim (fun h=>h.1) (fun h=>yQ k (.inr h))) fun _ _ _=>rfl) vn vZ (fun k hk=>⟨.inl hk,fun ho=>by
  obtain⟨i,b0,_,_,h1,h2⟩:=ow k ho
  exact(hs.mine _ _ k h1 h2).1 hk⟩) (fun _ hk=>hk.1) mL fun j av v hj hv=>by
  refine Pa (c:=c0) (c':=C) (ρ:=K3 ι) (s:=K3 off) (fun i _=>rfl) rfl yQ qD (Ae mm av (List.mem_of_getElem? hj)) (hr j _ v ?_ hv)
  rw[←hL,Q7];simp[hj]
 refine vd qX ?_
 rintro e w' ⟨⟨v,θ',rfl,hv,qi,mx,ni⟩,rS,pO,qb,mY,nj⟩
 let ρ:=gρ ι m0 σ.nx
 let s:=gs ι m0 σ.hp
 have se:∀i j,i<m1→j<m1→ρ i=ρ j→i=j:=by
  intro i j hi hj he
  by_cases h1:i<m0<;>by_cases h2:j<m0
  ·exact sQ i j h1 h2 (by simpa only[ρ,Jt h1,Jt h2]using he)
  ·have:=tK i h1
   simp only[ρ,Jt h1,HN h2]at he
   omega
  ·have:=tK j h2
   simp only[ρ,HN h1,Jt h2]at he
   omega
  ·simp only[ρ,HN h1,HN h2]at he
   omega
 have vh:∀j,j<m1→ρ j<σ.nx+(m1-m0):=by
  intro j hj
  by_cases h1:j<m0
  ·have:=tK j h1;simp only[ρ,Jt h1];omega
  ·simp only[ρ,HN h1];omega
 have sX:∀j,j<m1→ρ j<σ.nx→j<m0:=by
  intro j hj mM
  by_cases h1:j<m0
  ·exact h1
  ·simp only[ρ,HN h1]at mM;omega
 let Θ:Th:=⟨fun i=>open Classical in if h:∃j,j<m1∧ρ j=i then θ' (Classical.choose h)else θ i,fun i=>open Classical in if h:∃j,j<m1∧ρ j=i then θ'.N (Classical.choose h)else θ.N i⟩
 have vr:∀j,j<m1→Θ (ρ j)=θ' j:=by
  intro j hj
  have hex:∃j',j'<m1∧ρ j'=ρ j:=⟨j,hj,rfl⟩
  have:Classical.choose hex=j:=se _ _ (Classical.choose_spec hex).1 hj (Classical.choose_spec hex).2
  simp only[Θ,dif_pos hex,this]
 have vP:∀j,j<m1→Θ.N (ρ j)=θ'.N j:=by
  intro j hj
  have hex:∃j',j'<m1∧ρ j'=ρ j:=⟨j,hj,rfl⟩
  have:Classical.choose hex=j:=se _ _ (Classical.choose_spec hex).1 hj (Classical.choose_spec hex).2
  simp only[Θ,dif_pos hex,this]
 have vC:∀i,(∀j,j<m1→ρ j≠i)→Θ.N i=θ.N i:=by
  intro i hi
  have:¬∃j,j<m1∧ρ j=i:=fun ⟨j,hj,he⟩=>hi j hj he
  simp only[Θ,dif_neg this]
 have wz:∀i,(∀j,j<m1→ρ j≠i)→Θ i=θ i:=by
  intro i hi
  have:¬∃j,j<m1∧ρ j=i:=fun ⟨j,hj,he⟩=>hi j hj he
  simp only[Θ,dif_neg this]
 have us:∀{j:Nat} {b:C4} {k:Nat},j<m1→FP Θ (ρ j) (j9 ρ s j b) k→FP θ' j b k:=fun hj h=>(FP.ren (vr _ hj) (vP _ hj)).1 h
 have vA:∀{i:Nat} {b:C4} {k:Nat},(∀j,j<m1→ρ j≠i)→FP Θ i b k→FP θ i b k:=fun hi h=>by
  unfold FP at h ⊢
  rwa[wz _ hi,vC _ hi]at h
 let HP:=V4 ρ s hp1++σ.hp
 let σ':St:=⟨σ.sl,σ.nx+(m1-m0),HP⟩
 have pU:∀i,σ.nx≤i→A5 σ.hp i=none:=by
  intro i hi
  cases hx:A5 σ.hp i with
  |none=>rfl
  |some b=>have:=(hs.owns i b hx).1;omega
 have pV:∀j,j<m1→A5 HP (ρ j)=(A5 hp1 j).map (j9 ρ s j):=by
  intro j hj
  have:=HM (ρ:=ρ) (s:=s) se hp1 σ.hp oH j hj
  unfold A5
  rw[this]
  cases hx:look hp1 j with
  |some b=>cases b<;>rfl
  |none =>
   simp only[Option.map_none]
   have pK:¬j<m0:=fun h=>by have:=(mo j h).1;rw[hx]at this;cases this
   have h2:=pU (ρ j) (by simp only[ρ,HN pK];omega)
   exact h2
 have oh:∀i,(∀j,j<m1→ρ j≠i)→A5 HP i=A5 σ.hp i:=by
  intro i hi
  unfold A5
  rw[Bn (ρ:=ρ) (s:=s) hp1 σ.hp oH i hi]
 have qC:∀j,j<m0→ρ j=K3 ι j:=fun j hj=>Jt hj
 have uI:∀k,owned θc hp0 k→C.own k:=fun k hk=>by
  obtain⟨i,b0,_,_,h1,h2⟩:=ow k hk
  exact⟨_,_,h1,h2⟩
 have sd:∀k,owned θc hp0 k→¬E.X k∧(E.O k∨E.w0.heap.size≤k):=fun k hk=>by
  obtain⟨i,b0,_,_,h1,h2⟩:=ow k hk
  exact hs.mine _ _ k h1 h2
 have qB:∀i b k,A5 σ.hp i=some b→(∀j,j<m1→ρ j≠i)→FP θ i b k→¬owned θc hp0 k:=fun i b k hi mc hk ho=>by
  obtain⟨j,b0,hj,_,h1,h2⟩:=ow k ho
  have:=hs.apart _ _ _ _ k hi h1 hk h2
  exact mc j (by omega) (by rw[qC j hj];exact this.symm)
 let C':=cx E Θ σ' w'
 have le:C.le C':=by
  refine⟨Nat.le_add_right _ _,fun i hi=>?_,fun i hi e' mP v' l' hl=>?_,mY,fun k hk hu=>nj k hk fun ho=>hu (.inr (uI k ho)),fun k hk hu=>?_⟩
  ·by_cases hex:∃j,j<m1∧ρ j=i
   ·obtain⟨j,hj,rfl⟩:=hex
    have oo:=sX j hj hi
    have h1:=ni j oo
    have h2:θc j=θ (ρ j):=by rw[qC j oo]
    rw[h2]at h1
    show Θ (ρ j)=θ (ρ j)∨_
    rw[vr j hj]
    exact h1.imp id (·.1)
   ·exact .inl (wz i fun j hj he=>hex ⟨j,hj,he⟩)
  ·by_cases hex:∃j,j<m1∧ρ j=i
   ·obtain⟨j,hj,rfl⟩:=hex
    have oo:=sX j hj hi
    have h1:A5 HP (ρ j)=some (.row e' mP v' l'):=hl
    rw[pV j hj,Option.map_eq_some_iff]at h1
    obtain⟨b,hb,oZ⟩:=h1
    cases b with
    |bx τ l=>cases oZ
    |map m=>cases oZ
    |it _ _=>cases oZ
    |row e1 sz1 v1 l1 =>
     simp only[j9]at oZ
     cases oZ
     obtain⟨e0,v0,l0,h0,nu⟩:=(mo j oo).2 _ _ _ _ hb
     have h3:=qD j oo e0 mP v0 l0 h0
     refine⟨e0,v0+K3 off j,l0,by rw[qC j oo];exact h3,?_⟩
     have pt:A5 σ.hp (K3 ι j)=some (.row e0 mP (v0+K3 off j) l0):=h3
     have mj:Nat.blt j m0=true:=Nat.blt_eq▸oo
     by_cases hk:c8 e0=true
     ·have hsj:s j=v0+K3 off j:=by
       simp only[s,gs,mj,XH,pt,hk,cond]
      by_cases hv0:v1=0
      ·have xb:θ' j=θ (K3 ι j):=(ni j oo).resolve_right fun h=>h.2 ⟨_,_,_,_,hb,nu.trans hk⟩
       obtain⟨x1,o1,_⟩:=(qi.owns j _ hb).2
       obtain⟨x2,o2,_⟩:=(hs.owns _ _ pt).2
       have o1':S0 w' e' mP (θ' j) l'.length x1:=o1
       have o2':S0 w e0 mP (θ (K3 ι j)) l0.length x2:=o2
       rw[xb]at o1'
       refine .inr ⟨by rw[hsj];omega,o2'.len o1',?_⟩
       show Θ (ρ j)=θ (ρ j)
       rw[vr j hj,xb,qC j oo]
      ·exact .inl (by rw[hsj];omega)
     ·have:s j=v0+K3 off j+1:=by
       have mW:c8 e0=false:=by
        cases hx:c8 e0 with
        |false=>rfl
        |true=>exact absurd hx hk
       simp only[s,gs,mj,XH,pt,mW,cond]
      exact .inl (by omega)
   ·have h1:A5 HP i=some (.row e' mP v' l'):=hl
    have mc:∀j,j<m1→ρ j≠i:=fun j hj he=>hex ⟨j,hj,he⟩
    rw[oh i mc]at h1
    exact⟨e',v',l',h1,.inr ⟨rfl,rfl,wz i mc⟩⟩
  ·rcases hu with hu|⟨i,b,hi,nH⟩
   ·exact .inl hu
   ·have nZ:A5 HP i=some b:=hi
    have mW:FP Θ i b k:=nH
    by_cases hex:∃j,j<m1∧ρ j=i
    ·obtain⟨j,hj,rfl⟩:=hex
     rw[pV j hj,Option.map_eq_some_iff]at nZ
     obtain⟨b1,no,rfl⟩:=nZ
     rcases mx j b1 k no (us hj mW)with h|h
     ·exact .inr (uI k h)
     ·have pG:k<w.heap.size:=hk
      omega
    ·have mc:∀j,j<m1→ρ j≠i:=fun j hj he=>hex ⟨j,hj,he⟩
     rw[oh i mc]at nZ
     exact .inr ⟨i,b,nZ,vA mc mW⟩
 have ren:Ren ⟨θ',m1,hp1,Xc,w'⟩ C' ρ s:=by
  refine⟨vh,vr,vP,rfl,fun k hu=>?_,fun j hj e sz v' l hl=>?_⟩
  ·rcases hu with hu|⟨i,b,hi,hk⟩
   ·exact .inl ⟨.inl hu,fun ho=>(sd k ho).1 hu⟩
   ·have nZ:A5 HP i=some b:=hi
    have mW:FP Θ i b k:=hk
    by_cases hex:∃j,j<m1∧ρ j=i
    ·obtain⟨j,hj,rfl⟩:=hex
     rw[pV j hj,Option.map_eq_some_iff]at nZ
     obtain⟨b1,no,rfl⟩:=nZ
     exact .inr ⟨j,b1,no,us hj mW⟩
    ·have mc:∀j,j<m1→ρ j≠i:=fun j hj he=>hex ⟨j,hj,he⟩
     rw[oh i mc]at nZ
     have mW:=vA mc mW
     exact .inl ⟨.inr ⟨i,b,nZ,mW⟩,qB i b k nZ mc mW⟩
  ·have h1:A5 HP (ρ j)=some (.row e sz v' l):=hl
   rw[pV j hj,Option.map_eq_some_iff]at h1
   obtain⟨b,hb,oZ⟩:=h1
   cases b with
   |bx τ l=>cases oZ
   |map m=>cases oZ
   |it _ _=>cases oZ
   |row e1 sz1 v1 l1 =>
    simp only[j9]at oZ
    cases oZ
    exact⟨v1,hb,rfl⟩
 have pw:J5 E n Θ σ' a w':=by
  refine⟨hs.size,hs.defers.mono fun k hd=>nj k (Gz hd) fun ho=>(vn.nodf ho) hd,⟨rS.trans hs.fr.os,pO.trans hs.fr.tape,qb.trans hs.fr.output,Nat.le_trans hs.fr.size mY,fun k hk hO=>?_⟩,fun t x hx=>(hs.slots t x hx).mono le,fun i b hi=>?_,fun i1 i2 b1 b2 k h1 h2 oX mW=>?_,fun i b k hi hk=>?_,hs.X,⟨by have:=hs.base.1;show E.n0≤σ.nx+_;omega,fun i hi=>?_⟩⟩
  ·have h1:=hs.fr.size
   rw[nj k (by omega) fun ho=>?_]
   ·exact hs.fr.block k hk hO
   ·rcases(sd k ho).2 with h2|h2
    ·exact hO h2
    ·omega
  ·have nZ:A5 HP i=some b:=hi
   by_cases hex:∃j,j<m1∧ρ j=i
   ·obtain⟨j,hj,rfl⟩:=hex
    rw[pV j hj,Option.map_eq_some_iff]at nZ
    obtain⟨b1,no,rfl⟩:=nZ
    exact⟨vh j hj,Vl ren hj (qi.owns j b1 no).2⟩
   ·have mc:∀j,j<m1→ρ j≠i:=fun j hj he=>hex ⟨j,hj,he⟩
    rw[oh i mc]at nZ
    obtain⟨h1,h2⟩:=hs.owns i b nZ
    refine⟨by show i<σ.nx+_;omega,h2.mono le (wz i mc) (fun k=>congrFun (vC i mc) k) fun k hk=>nj k (h2.lt hk) (qB i b k nZ mc hk)⟩
  ·have my:A5 HP i1=some b1:=h1
   have nI:A5 HP i2=some b2:=h2
   by_cases e1:∃j,j<m1∧ρ j=i1<;>by_cases e2:∃j,j<m1∧ρ j=i2
   ·obtain⟨j1,uh,rfl⟩:=e1
    obtain⟨j2,pb,rfl⟩:=e2
    rw[pV j1 uh,Option.map_eq_some_iff]at my
    rw[pV j2 pb,Option.map_eq_some_iff]at nI
    obtain⟨c1,ol,rfl⟩:=my
    obtain⟨c2,oG,rfl⟩:=nI
    rw[qi.apart j1 j2 c1 c2 k ol oG (us uh oX) (us pb mW)]
   ·obtain⟨j1,uh,rfl⟩:=e1
    have mc:∀j,j<m1→ρ j≠i2:=fun j hj he=>e2 ⟨j,hj,he⟩
    rw[pV j1 uh,Option.map_eq_some_iff]at my
    obtain⟨c1,ol,rfl⟩:=my
    have oX:=us uh oX
    rw[oh i2 mc]at nI
    have mW:=vA mc mW
    rcases mx j1 c1 k ol oX with h|h
    ·exact absurd h (qB i2 b2 k nI mc mW)
    ·have:=(hs.owns i2 b2 nI).2.lt mW
     have h3:k<w.heap.size:=this
     omega
   ·obtain⟨j2,pb,rfl⟩:=e2
    have mc:∀j,j<m1→ρ j≠i1:=fun j hj he=>e1 ⟨j,hj,he⟩
    rw[pV j2 pb,Option.map_eq_some_iff]at nI
    obtain⟨c2,oG,rfl⟩:=nI
    have mW:=us pb mW
    rw[oh i1 mc]at my
    have oX:=vA mc oX
    rcases mx j2 c2 k oG mW with h|h
    ·exact absurd h (qB i1 b1 k my mc oX)
    ·have:=(hs.owns i1 b1 my).2.lt oX
     have h3:k<w.heap.size:=this
     omega
   ·have sM:∀j,j<m1→ρ j≠i1:=fun j hj he=>e1 ⟨j,hj,he⟩
    have wi:∀j,j<m1→ρ j≠i2:=fun j hj he=>e2 ⟨j,hj,he⟩
    rw[oh i1 sM]at my
    rw[oh i2 wi]at nI
    exact hs.apart i1 i2 b1 b2 k my nI (vA sM oX) (vA wi mW)
  ·have nZ:A5 HP i=some b:=hi
   by_cases hex:∃j,j<m1∧ρ j=i
   ·obtain⟨j,hj,rfl⟩:=hex
    rw[pV j hj,Option.map_eq_some_iff]at nZ
    obtain⟨c1,ol,rfl⟩:=nZ
    rcases mx j c1 k ol (us hj hk)with h|h
    ·exact sd k h
    ·have h1:=hs.fr.size
     exact⟨fun hx=>by have:=hs.X k hx;omega,.inr (by omega)⟩
   ·have mc:∀j,j<m1→ρ j≠i:=fun j hj he=>hex ⟨j,hj,he⟩
    rw[oh i mc]at nZ
    exact hs.mine i b k nZ (vA mc hk)
  ·have mq:i<σ.nx:=by have:=hs.base.1;omega
   show Θ i=_∨_∧¬Kept HP i
   by_cases hex:∃j,j<m1∧ρ j=i
   ·obtain⟨j,hj,rfl⟩:=hex
    have oo:=sX j hj mq
    have h1:=ni j oo
    have h2:θc j=θ (ρ j):=by rw[qC j oo]
    rw[h2]at h1
    rw[vr j hj]
    by_cases hkp:Kept HP (ρ j)
    ·obtain⟨e,sz,v,l,hl,hk⟩:=hkp
     have mt:=hl
     rw[pV j hj,Option.map_eq_some_iff]at mt
     obtain⟨b,hb,oZ⟩:=mt
     cases b with
     |bx _ _=>cases oZ
     |map _=>cases oZ
     |it _ _=>cases oZ
     |row e1 sz1 v1 l1 =>
      simp only[j9]at oZ
      cases oZ
      have xb:=h1.resolve_right fun h=>h.2 ⟨_,_,_,_,hb,hk⟩
      obtain⟨e0,v0,l0,h0,nu⟩:=(mo j oo).2 _ _ _ _ hb
      have h3:=qD j oo _ _ _ _ h0
      rw[xb]
      rcases hs.base.2 (ρ j) hi with h4|⟨_,h4⟩
      ·exact .inl h4
      ·exact absurd ⟨_,_,_,_,(by rw[qC j oo];exact h3),nu.symm.trans hk⟩ h4
    ·rcases h1 with h1|⟨⟨x,m,k,h1⟩,_⟩
     ·rw[h1]
      exact(hs.base.2 _ hi).imp id fun h=>⟨h.1,hkp⟩
     ·rcases hs.base.2 _ hi with h4|⟨h4,_⟩
      ·exact .inr ⟨⟨x,m,k,by rw[←h4,h1]⟩,hkp⟩
      ·exact .inr ⟨h4,hkp⟩
   ·have mc:∀j,j<m1→ρ j≠i:=fun j hj he=>hex ⟨j,hj,he⟩
    rw[wz i mc]
    refine(hs.base.2 i hi).imp id fun ⟨h1,h2⟩=>⟨h1,fun ⟨e,sz,v,l,hl,hk⟩=>h2 ⟨e,sz,v,l,?_,hk⟩⟩
    rw[←oh i mc];exact hl
 exact⟨v,Θ,rfl,pw,OR ren hv,mY,fun k hk mc=>nj k hk fun ho=>mc (vZ k ho)⟩
theorem Pe{f:Nat}{g:Operand}{xs:List Operand}{ts:Array TypeId}{L args caps capF:List AV}{r:AV}{m0 m1:Nat}{hp0 hp1:Hp}(ι off:List Nat)(hc:B7 P f m0 hp0 args m1 hp1 r)
  (hg:(capF=[]∧caps=[]∧g=.func f)∨(capF=[]∧f<Gv∧F5 σ g=some (.fo f caps))∨(caps=[]∧F5 σ g=some (.fo (Gv+f) capF))) (om:m4 (F5 σ) xs=some L) (hL:Ah (K3 ι) (K3 off) args=capF++L++caps) (mm:V0 m0 args=true) (hι:Nat.beq ι.length m0=true) (tH:Cd ι σ.nx=true) (nF:Da σ.hp hp0 ι off m0) (mo:Ai hp0 hp1 m0=true)
  (rE:K8 m0 hp0=true) (oH:K8 m1 hp1=true) (hm:Nat.ble m0 m1=true) (hd:Nat.blt d n=true)
  (k:B3 P E n ops rest (St.put ⟨σ.sl,σ.nx+(m1-m0),V4 (gρ ι m0 σ.nx) (gs ι m0 σ.hp) hp1++σ.hp⟩ d (N9 (gρ ι m0 σ.nx) (gs ι m0 σ.hp) r)) K) :
  B3 P E n ops (⟨some d,.call ⟨.value g,⟨xs⟩,ts⟩,ty,pos,after,none⟩::rest) σ K:=by
 intro a w ⟨θ,hs⟩
 obtain⟨hl,nh⟩:=Bk hs.evT xs L om
 let C:=cx E θ σ w
 obtain⟨cf,cs,pK,nV,wP,mf,nr⟩:∃cf cs:List Value,a.eval g=.func (.func f) cf.toArray cs.toArray∧capF.length=cf.length∧(∀(j:Nat) x c,capF[j]?=some x→cf[j]?=some c→E0 C x c)∧caps.length=cs.length∧∀(j:Nat) x c,caps[j]?=some x→cs[j]?=some c→E0 C x c:=by
  rcases hg with ⟨rfl,rfl,rfl⟩|⟨rfl,hf,hg⟩|⟨rfl,hg⟩
  ·exact⟨[],[],rfl,rfl,fun j x c hx=>by simp at hx,rfl,fun j x c hx=>by simp at hx⟩
  ·have:=hs.ev hg
   generalize a.eval g=v at this
   cases this with
   |im hi=>cases hi
   |fo f l cs hl hc=>exact⟨[],cs,by unfold RR;rw[if_pos hf],rfl,fun j x c hx=>by simp at hx,hl,hc⟩
  ·have:=hs.ev hg
   generalize a.eval g=v at this
   generalize hF:Gv+f=F at this
   cases this with
   |im hi=>cases hi
   |fo F l cs hl hc=>exact⟨cs,[],by unfold RR;rw[if_neg (by omega),←hF,Nat.add_sub_cancel_left],hl,hc,rfl,fun j x c hx=>by simp at hx⟩
 have ul:L.length=(xs.map a.eval).length:=by rw[List.length_map,←hl]
 have hr:∀(j:Nat) x v,(capF++L++caps)[j]?=some x→(cf++xs.map a.eval++cs)[j]?=some v→E0 C x v :=
  Zd (by rw[List.length_append,List.length_append,nV,ul]) (Zd nV wP nh) nr
 unfold wpList
 rw[if_pos (by simp[Region.wanted])]
 left
 simp only[Oper.wp]
 rw[ZG hc.1 pK]
 simp only[Oper.upon]
 rw[show cf.toArray++(xs.map a.eval).toArray++cs.toArray=(cf++xs.map a.eval++cs).toArray by simp]
 refine Calls.mono (HO (Cl:=fun vs w R=>Calls P f vs.toArray w R) (fun h hr=>Calls.mono h hr) (args:=args) (r:=r) (hp1:=hp1) ι off hs (by rw[List.length_append,List.length_append,List.length_append,List.length_append,ul,nV,mf]) hr hL mm hι tH nF mo rE oH hm fun X θc hX ht hb _ _ _ hl hv=>hc.2 X θc w _ hX ht hb hl hv) ?_
 rintro e w' ⟨v,Θ,rfl,pw,oE,_⟩
 exact k _ _ ⟨Θ,pw.put (Nat.blt_eq▸hd) oE⟩
theorem f9{f:Nat}{xs:List Operand}{ts:Array TypeId}{L args:List AV}{r:AV}{m0 m1:Nat}{hp0 hp1:Hp}(ι off:List Nat)(hc:B7 P f m0 hp0 args m1 hp1 r)
  (om:m4 (F5 σ) xs=some L) (hL:Ah (K3 ι) (K3 off) args=L) (mm:V0 m0 args=true) (hι:Nat.beq ι.length m0=true) (tH:Cd ι σ.nx=true) (nF:Da σ.hp hp0 ι off m0) (mo:Ai hp0 hp1 m0=true)
  (rE:K8 m0 hp0=true) (oH:K8 m1 hp1=true) (hm:Nat.ble m0 m1=true) (hd:Nat.blt d n=true)
  (k:B3 P E n ops rest (St.put ⟨σ.sl,σ.nx+(m1-m0),V4 (gρ ι m0 σ.nx) (gs ι m0 σ.hp) hp1++σ.hp⟩ d (N9 (gρ ι m0 σ.nx) (gs ι m0 σ.hp) r)) K) :
  B3 P E n ops (⟨some d,.call ⟨.value (.func f),⟨xs⟩,ts⟩,ty,pos,after,none⟩::rest) σ K :=
 Pe (caps:=[]) (capF:=[]) ι off hc (.inl ⟨rfl,rfl,rfl⟩) om (by rw[List.append_nil,List.nil_append];exact hL) mm hι tH nF mo rE oH hm hd k
theorem F7{f:Nat}{xs:List Operand}{ts:Array TypeId}{L args:List AV}{r:AV}{m0 m1:Nat}{hp0 hp1:Hp}(ι off:List Nat)(hc:B7 P f m0 hp0 args m1 hp1 r)
  (om:m4 (F5 σ) xs=some L) (hL:Ah (K3 ι) (K3 off) args=L) (mm:V0 m0 args=true) (hι:Nat.beq ι.length m0=true) (tH:Cd ι σ.nx=true) (nF:Da σ.hp hp0 ι off m0) (mo:Ai hp0 hp1 m0=true)
  (rE:K8 m0 hp0=true) (oH:K8 m1 hp1=true) (hm:Nat.ble m0 m1=true) (hd:Nat.blt d n=true)
  (k:V2 (N9 (gρ ι m0 σ.nx) (gs ι m0 σ.hp) r) fun r2=>V3 (V4 (gρ ι m0 σ.nx) (gs ι m0 σ.hp) hp1++σ.hp) fun hp2=>H0 (σ.nx+(m1-m0)) fun ry=>B3 P E n ops rest (St.put ⟨σ.sl,ry,hp2⟩ d r2) K) :
  B3 P E n ops (⟨some d,.call ⟨.value (.func f),⟨xs⟩,ts⟩,ty,pos,after,none⟩::rest) σ K :=
 f9 ι off hc om hL mm hι tH nF mo rE oH hm hd (E3 (S9 (EP k)))
theorem Vm{f:Nat}{g:Operand}{xs:List Operand}{ts:Array TypeId}{L args caps:List AV}{r:AV}{m0 m1:Nat}{hp0 hp1:Hp}(ι off:List Nat)(hc:B7 P f m0 hp0 args m1 hp1 r)
  (hg:F5 σ g=some (.fo f caps)) (om:m4 (F5 σ) xs=some L) (hL:Ah (K3 ι) (K3 off) args=L++caps) (mm:V0 m0 args=true) (hι:Nat.beq ι.length m0=true) (tH:Cd ι σ.nx=true) (nF:Da σ.hp hp0 ι off m0) (mo:Ai hp0 hp1 m0=true)
  (rE:K8 m0 hp0=true) (oH:K8 m1 hp1=true) (hm:Nat.ble m0 m1=true) (hd:Nat.blt d n=true)
  (k:V2 (N9 (gρ ι m0 σ.nx) (gs ι m0 σ.hp) r) fun r2=>V3 (V4 (gρ ι m0 σ.nx) (gs ι m0 σ.hp) hp1++σ.hp) fun hp2=>H0 (σ.nx+(m1-m0)) fun ry=>B3 P E n ops rest (St.put ⟨σ.sl,ry,hp2⟩ d r2) K) (hf:Nat.blt f Gv=true:=by rfl) :
  B3 P E n ops (⟨some d,.call ⟨.value g,⟨xs⟩,ts⟩,ty,pos,after,none⟩::rest) σ K :=
 Pe (capF:=[]) ι off hc (.inr (.inl ⟨rfl,by simpa using hf,hg⟩)) om (by rw[List.nil_append];exact hL) mm hι tH nF mo rE oH hm hd (E3 (S9 (EP k)))
theorem LV{f:Nat}{xs:List Operand}{caps l:List AV}(ha:m4 (F5 σ) xs=some caps)(hd:Nat.blt d n=true)(k:B3 P E n ops rest (σ.put d (.fo f caps)) K)(hf:Nat.blt f Gv=true:=by rfl):
  g9 P E n ops ⟨some d,.makeFunc (.func f) ⟨[]⟩ ⟨xs⟩,ty,pos,after,none⟩ rest l σ K :=
 ⟨IV (Rq ha (by simpa using hf)) hd k⟩
end rules
section pure
variable {P:Program} {E:Env} {nx:Nat} {hp:Hp} {ev:Operand→Option AV} {ty:TypeId} {x y:Operand} {F:AV→Prop} {T T2:TypeId}
theorem jM{av:AV}(hx:ev x=some av):Dl P E nx hp ev (.move x) ty av:=fun _ _ _ _ _ _ h=>⟨_,fun _=>rfl,h.rel hx⟩
theorem cS{av:AV}(hx:ev x=some av):Dl P E nx hp ev (.assign x) ty av:=fun _ _ _ _ _ _ h=>⟨_,fun _=>rfl,h.rel hx⟩
theorem SL{op:BinOp}{k:IntKind}{a b:Int}{r:Value}(hx:ev x=some (.v (.int k a)))(hy:ev y=some (.v (.int k b)))(hr:CU op k a b=some r):
  Dl P E nx hp ev (.binOp op T x y T2) ty (.v r) :=
 fun _ _ _ _ _ _ h=>⟨r,fun w=>K1 (by rw[(h.rel hx).val,(h.rel hy).val];exact AA ..) (by rw[(h.rel hx).val,(h.rel hy).val];exact RZ hr T w),.im (.v _)⟩
theorem jN{a b:List UInt8}(hx:ev x=some (.str a))(hy:ev y=some (.str b))(hr:a.length+b.length≤9223372036854775807):
  Dl P E nx hp ev (.binOp .add T x y T2) ty (.str (a++b)) :=
 fun _ _ _ _ _ _ h=>⟨_,fun w=>K1 (by rw[(h.rel hx).sval,(h.rel hy).sval];exact Fx ..) (by rw[(h.rel hx).sval,(h.rel hy).sval];exact Ra hr T w),.im (.str _)⟩
theorem Uj{S f off sz:Nat}[tf:D8 P S f off sz]{i o:Nat}(hx:ev x=some (.ref i o))(hz:Nat.blt 0 sz=true):Dl P E nx hp ev (.fieldAddr S x f) ty (.ref i (o+off)) :=
 fun _ _ _ θ a w h=>by
  obtain⟨b,hθ,hv,mq⟩:=k7 (h.rel hx)
  refine⟨.pointer (some ⟨b,o+off,none⟩),fun w=>?_,.ref i _ b mq hθ⟩
  simp only[execOp,hv,Sem.run_bind,AB (P:=P) (S:=S) (f:=f) (off:=off) (sz:=sz) (Nat.blt_eq▸hz),Result.andThen_ok,H3]
  rfl
theorem SM{S f off sz:Nat}[tf:D8 P S f off sz]{l:List AV}(hx:ev x=some (.iptr l))(hz:Nat.blt 0 sz=true):Dl P E nx hp ev (.fieldAddr S x f) ty (.iptr (l.drop off)) :=
 fun _ _ _ θ a w h=>by
  obtain⟨p,g,hv,hu,hc,hr⟩:=El (h.rel hx)
  refine⟨.pointer (some (p.add off)),fun w=>?_,.im (.iptr _ _ (fun j=>g (off+j)) (fun hne=>?_) (fun j hj=>?_) fun j u qH=>?_)⟩
  ·simp only[execOp,hv,Sem.run_bind,AB (P:=P) (S:=S) (f:=f) (off:=off) (sz:=sz) (Nat.blt_eq▸hz),Result.andThen_ok]
   rfl
  ·rw[l9];exact hu (by rintro rfl;simp at hne)
  ·rw[DF];exact hc _ (by simp at hj;omega)
  ·rw[List.getElem?_drop]at qH;exact hr _ _ qH
theorem Uk{S f off sz:Nat}[tf:D8 P S f off sz]{i ver k o e wJ:Nat}{l:List (List AV)}(hx:ev x=some (.elt i ver k o))(hb:A5 hp i=some (.row e wJ ver l))(hz:Nat.blt 0 sz=true):Dl P E nx hp ev (.fieldAddr S x f) ty (.elt i ver k (o+off)) :=
 fun _ _ _ θ a w h=>by
  obtain⟨g,m,cap,hθ,hv,mq⟩:=CA (h.rel hx) hb
  refine⟨.pointer (some ⟨g,k*wJ+o+off,none⟩),fun w=>?_,.elt i ver k _ _ mq fun e' mP v' l' nB=>?_⟩
  ·simp only[execOp,hv,Sem.run_bind,AB (P:=P) (S:=S) (f:=f) (off:=off) (sz:=sz) (Nat.blt_eq▸hz),Result.andThen_ok,H3]
   rfl
  ·have:A5 hp i=some (.row e' mP v' l'):=nB
   rw[hb]at this
   cases this
   exact⟨Nat.le_refl _,fun _=>⟨g,m,cap,hθ,by rw[Nat.add_assoc]⟩⟩
theorem lD{b:Bool}(hx:ev x=some (.v (.bool b))):Dl P E nx hp ev (.unOp .not T x) ty (.v (.bool (!b))) :=
 fun _ _ _ _ _ _ h=>⟨_,fun w=>by simp[execOp,Op.unary,(h.rel hx).val,Sem.run_bind,Sem.run_pure],.im (.v _)⟩
theorem Ze[ts:j8 P T]{l:List UInt8}(hx:ev x=some (.str l)):Dl P E nx hp ev (.call ⟨.builtin .len,#[x],#[T]⟩) ty (.i l.length) :=
 fun _ _ _ _ _ _ h=>⟨_,fun w=>by rw[S6,(h.rel hx).sval];simp[builtin,run_len_string w T ty _ ts.out,Sem.run_bind,Sem.run_pure,goInt,ByteArray.size],.im (.v _)⟩
theorem cT{e sz:Nat}[ts:L3 P T e sz]{mP:Nat}{l:List (List AV)}(hx:ev x=some (.sl mP l)):Dl P E nx hp ev (.call ⟨.builtin .len,#[x],#[T]⟩) ty (.i l.length) :=
 fun _ _ _ _ _ _ h=>by
  obtain⟨_,p,cap,hv⟩:=ZB (h.rel hx)
  exact⟨_,fun w=>by rw[S6,hv];simp[builtin,run_len_slice ts.out.1,Sem.run_bind,Sem.run_pure],.im (.v _)⟩
theorem Zf{e sz:Nat}[ts:L3 P T e sz]{i ver len e' mP:Nat}{l:List (List AV)}(hx:ev x=some (.row i ver len))(hb:A5 hp i=some (.row e' mP ver l)):Dl P E nx hp ev (.call ⟨.builtin .len,#[x],#[T]⟩) ty (.i len) :=
 fun _ _ _ θ a w h=>by
  obtain⟨hl,hv,_⟩:=s9 (h.rel hx) hb
  obtain⟨xs,mO,_⟩:=h.row hb
  obtain⟨p,cap,hs,_⟩:=k8 mO
  have nY:a.eval x=.slice p l.length cap:=by rw[hv];exact hs
  exact⟨_,fun w=>by rw[S6,nY,hl];simp[builtin,run_len_slice ts.out.1,Sem.run_bind,Sem.run_pure],.im (.v _)⟩
theorem Ul{e sz:Nat}[ts:L3 P T e sz]{i ver len e':Nat}{l:List (List AV)}{k:IntKind}{j:Int}(hx:ev x=some (.row i ver len))(hb:A5 hp i=some (.row e' sz ver l))(hy:ev y=some (.v (.int k j)))(h0:0≤j)(h1:j<len):
  Dl P E nx hp ev (.indexAddr T x y) ty (.elt i ver j.toNat 0) :=
 fun _ _ _ θ a w h=>by
  obtain⟨hl,hv,mq⟩:=s9 (h.rel hx) hb
  obtain⟨xs,mO,hsz,_⟩:=h.row hb
  have hj:=(h.rel hy).val
  rcases mO.2 with ⟨hθ,hn⟩|⟨g,cap,mQ,hθ,_,hg,_⟩
  ·omega
  ·have nY:a.eval x=.slice (some ⟨g,0,none⟩) l.length cap:=by rw[hv];exact hθ
   refine⟨.pointer (some ⟨g,j.toNat*sz,none⟩),fun w=>?_,.elt i ver _ 0 _ mq fun e2 oB v2 l2 mt=>?_⟩
   ·simp only[execOp,nY,hj,Sem.run_bind]
    rw[DW (P:=P) (T:=T) (e:=e) (sz:=sz) h0 (by omega),H3,Nat.zero_add]
    rfl
   ·have:A5 hp i=some (.row e2 oB v2 l2):=mt
    rw[hb]at this
    cases this
    exact⟨Nat.le_refl _,fun _=>⟨g,l.length,cap,hθ,by simp⟩⟩
theorem XI{e sz:Nat}[ts:L3 P T e sz]{l:List (List AV)}{k:IntKind}{i:Int}{el:List AV}(hx:ev x=some (.sl sz l))(hy:ev y=some (.v (.int k i)))(h0:0≤i)(mI:l[i.toNat]?=some el):Dl P E nx hp ev (.indexAddr T x y) ty (.iptr el) :=
 fun _ _ _ θ a w h=>by
  have mM:i.toNat<l.length:=(List.getElem?_eq_some_iff.1 mI).1
  have hi:=(h.rel hy).val
  rcases Em (h.rel hx)with ⟨_,e⟩|⟨p,cap,f,hv,h3,h4,h5,h6,h7,h8⟩
  ·subst e;simp at mM
  ·have hsz:=h6 _ (List.mem_of_getElem? mI)
   refine⟨.pointer (some (p.add (i.toNat*sz))),fun w=>?_,.im (.iptr _ _ (f i.toNat) (fun hne=>?_) (fun j hj=>?_) fun j u hu=>h8 _ _ mI j u hu)⟩
   ·simp only[execOp,hv,hi,Sem.run_bind]
    rw[DW (P:=P) (T:=T) (e:=e) (sz:=sz) h0 (by omega)]
    rfl
   ·rw[l9]
    refine h5 (by intro e;simp[e]at mM) ?_
    have h9:=List.length_pos_iff.2 hne
    omega
   ·rw[DF]
    exact h7 _ mM _ (by omega)
def cU:Op→Bool
 |.move _|.assign _|.fieldAddr ..|.build ..=>true
 |.binOp .quo ..|.binOp .rem ..|.binOp .shl ..|.binOp .shr ..=>false
 |.binOp ..=>true
 |_=>false
def Zg(ev:Operand→Option AV):Op→Bool
 |.indexAddr _ x _=>match ev x with
  |some (.row ..)=>true
  |some (.sl ..)=>true
  |_=>false
 |.call ⟨.builtin .len,⟨[x]⟩,_⟩=>match ev x with
  |some (.row ..)=>true
  |some (.sl ..)=>true
  |some (.str ..)=>true
  |_=>false
 |.unOp .not _ x=>match ev x with
  |some (.v (.bool _))=>true
  |_=>false
 |op=>cU op
def PV(P:Program)(op:Op)(ev:Operand→Option AV)(hp:Hp)(F:AV→Prop):Prop :=
 match op with
 |.move x=>Y5 (ev x) F
 |.assign x=>Y5 (ev x) F
 |.binOp op _ x y _=>match op,ev x,ev y with
  |.add,some (.v (.int .i64 a)),some (.v (.int .i64 b))=>G5 (-9223372036854775808≤a+b∧a+b≤9223372036854775807) (F (.v (.int .i64 (a+b))))
  |.sub,some (.v (.int .i64 a)),some (.v (.int .i64 b))=>G5 (-9223372036854775808≤a-b∧a-b≤9223372036854775807) (F (.v (.int .i64 (a-b))))
  |.add,some (.str a),some (.str b)=>G5 (a.length+b.length≤9223372036854775807) (F (.str (a++b)))
  |op,some (.v (.int k a)),some (.v (.int k' b))=>cond (decide (k=k')) (match CU op k a b with
   |some r=>F (.v r)
   |none=>False) False
  |_,_,_=>False
 |.fieldAddr S x f=>OO P S f fun off sz=>cond (Nat.blt 0 sz) (match ev x with
  |some (.ref i o)=>F (.ref i (o+off))
  |some (.iptr l)=>F (.iptr (l.drop off))
  |some (.elt i ver k o)=>(match A5 hp i with
   |some (.row _ _ mz _)=>G5 (ver=mz) (F (.elt i ver k (o+off)))
   |_=>False)
  |_=>False) False
 |.build T ⟨parts⟩=>match BP ev parts with
  |some ps=>Ig P T fun zs pl=>Dn hp ps (Y5 ((Be pl zs ps).map AV.agg) F)
  |none=>False
 |.indexAddr T x y=>(match ev x,ev y with
  |some (.sl sz l),some (.v (.int _ i))=>IG P T fun _ mP=>cond (Nat.beq sz mP) (Q1 l i fun el=>F (.iptr el)) False
  |some (.row r ver len),some (.v (.int _ i))=>(match A5 hp r with
   |some (.row _ sz mz _)=>G5 (ver=mz) (IG P T fun _ mP=>cond (Nat.beq sz mP) (G5 (0≤i∧i<len) (F (.elt r ver i.toNat 0))) False)
   |_=>False)
  |_,_=>False)
 |.call ⟨.builtin .len,⟨[x]⟩,⟨[T]⟩⟩=>(match ev x with
  |some (.sl _ l)=>IG P T fun _ _=>ON l fun m=>F (.i m)
  |some (.str s)=>DZ P T (F (.i s.length))
  |some (.row r ver len)=>(match A5 hp r with
   |some (.row _ _ mz _)=>G5 (ver=mz) (IG P T fun _ _=>F (.i len))
   |_=>False)
  |_=>False)
 |.unOp .not _ x=>(match ev x with
  |some (.v (.bool b))=>F (.v (.bool (!b)))
  |_=>False)
 |_=>False
theorem jO{op:Op}(h:PV P op ev hp F):∃av,Dl P E nx hp ev op ty av∧F av:=by
 unfold PV at h
 split at h
 ·obtain⟨a,hx,h⟩:=J8 h;exact⟨a,jM hx,h⟩
 ·obtain⟨a,hx,h⟩:=J8 h;exact⟨a,cS hx,h⟩
 ·split at h
  ·rename_i hx hy;exact⟨_,SL hx hy (by simp only[CU,Q0 h.h]),h.k⟩
  ·rename_i hx hy;exact⟨_,SL hx hy (by simp only[CU,Q0 h.h]),h.k⟩
  ·rename_i hx hy;exact⟨_,jN hx hy h.h,h.k⟩
  ·rename_i hx hy
   obtain⟨hk,hq⟩:=cond_false h
   have hk:=of_decide_eq_true hk
   subst hk
   split at hq
   ·rename_i hr;exact⟨_,SL hx hy hr,hq⟩
   ·exact hq.elim
  ·exact h.elim
 ·obtain⟨⟨off,sz,tf,h⟩⟩:=h
  obtain⟨hz,h⟩:=cond_false h
  split at h
  ·rename_i hx;exact⟨_,Uj (off:=off) (sz:=sz) hx hz,h⟩
  ·rename_i hx;exact⟨_,SM (off:=off) (sz:=sz) hx hz,h⟩
  ·rename_i hx
   split at h
   ·rename_i hb
    obtain⟨rfl,h⟩:=h
    exact⟨_,Uk (off:=off) (sz:=sz) hx hb hz,h⟩
   ·exact h.elim
  ·exact h.elim
 ·split at h
  ·rename_i ps rj
   obtain⟨⟨zs,pl,tz,tp,h⟩⟩:=h
   obtain⟨hf,h⟩:=p7 h
   obtain⟨a,ha,h⟩:=J8 h
   rw[Option.map_eq_some_iff]at ha
   obtain⟨l,hl,rfl⟩:=ha
   exact⟨_,Vc (T:=_) rj hf hl,h⟩
  ·exact h.elim
 ·split at h
  ·rename_i hx hy
   obtain⟨⟨e,mP,ts,h⟩⟩:=h
   obtain⟨hc,hq⟩:=cond_false h
   have hc:=Nat.eq_of_beq_eq_true hc
   subst hc
   obtain⟨h0,h1,hk⟩:=hq
   rename_i sz l kk i
   have mM:i.toNat<l.length:=by omega
   have mI:l[i.toNat]?=some l[i.toNat]:=List.getElem?_eq_getElem mM
   exact⟨_,XI (e:=e) hx hy h0 mI,hk _ mI⟩
  ·rename_i hx hy
   split at h
   ·rename_i hb
    obtain⟨rfl,h⟩:=h
    obtain⟨⟨e,mP,ts,h⟩⟩:=h
    obtain⟨hc,hq⟩:=cond_false h
    have hc:=Nat.eq_of_beq_eq_true hc
    subst hc
    exact⟨_,Ul (e:=e) hx hb hy hq.h.1 hq.h.2,hq.k⟩
   ·exact h.elim
  ·exact h.elim
 ·split at h
  ·rename_i hx
   obtain⟨⟨e,mP,ts,h⟩⟩:=h
   exact⟨_,cT (e:=e) (sz:=mP) hx,h.k⟩
  ·rename_i hx
   obtain⟨ts,h⟩:=h
   exact⟨_,Ze hx,h⟩
  ·rename_i hx
   split at h
   ·rename_i hb
    obtain⟨rfl,h⟩:=h
    obtain⟨⟨e,mP,ts,h⟩⟩:=h
    exact⟨_,Zf (e:=e) (sz:=mP) hx hb,h⟩
   ·exact h.elim
  ·exact h.elim
 ·split at h
  ·rename_i hx;exact⟨_,lD hx,h⟩
  ·exact h.elim
 ·exact h.elim
end pure
def l6(ops:Array Oper):List (List Nat):=ops.toList.map fun o=>(o.after.toList.filter fun e=>Region.binds .any e).map (·.on)
def i6(all:List Bool):Nat→List (List Nat)→List Bool→List Nat
 |k,e::es,b::bs=>cond b (i6 all (k+1) es bs) (cond (e.all fun j=>all.getD j false) (k::i6 all (k+1) es bs) (i6 all (k+1) es bs))
 |_,_,_=>[]
theorem Ce{all:List Bool}:∀(es:List (List Nat)) (bs:List Bool) (k i:Nat),i∈i6 all k es bs↔∃j e,i=k+j∧es[j]?=some e∧bs[j]?=some false∧(∀x∈e,all.getD x false=true)
 |[],bs,k,i=>by simp[i6]
 |e::es,[],k,i=>by simp[i6]
 |e::es,b::bs,k,i=>by
  have ih:=Ce (all:=all) es bs (k+1) i
  have key:(∃j e',i=k+j∧(e::es)[j]?=some e'∧(b::bs)[j]?=some false∧(∀x∈e',all.getD x false=true))↔(i=k∧b=false∧∀x∈e,all.getD x false=true)∨i∈i6 all (k+1) es bs:=by
   rw[ih]
   constructor
   ·rintro ⟨j,e',h1,h2,h3,h4⟩
    cases j with
    |zero=>simp at h2 h3;subst h2;exact .inl ⟨by omega,h3,h4⟩
    |succ j=>exact .inr ⟨j,e',by omega,by simpa using h2,by simpa using h3,h4⟩
   ·rintro (⟨h1,h2,h3⟩|⟨j,e',h1,h2,h3,h4⟩)
    ·exact⟨0,e,by omega,rfl,by simp[h2],h3⟩
    ·exact⟨j+1,e',by omega,by simpa using h2,by simpa using h3,h4⟩
  rw[key]
  have mh:(e.all fun j=>all.getD j false)=true↔∀x∈e,all.getD x false=true:=by rw[List.all_eq_true]
  cases b with
  |true=>simp[i6]
  |false =>
   simp only[i6,Bool.cond_false]
   cases ha:e.all fun j=>all.getD j false with
   |true =>
    rw[ha]at mh
    simp only[true_iff]at mh
    simp only[Bool.cond_true,List.mem_cons]
    constructor
    ·intro h
     rcases h with h|h
     ·exact Or.inl ⟨h,by first|trivial|rfl,by first|exact mh|trivial⟩
     ·exact Or.inr h
    ·intro h
     rcases h with h|h
     ·exact Or.inl h.1
     ·exact Or.inr h
   |false =>
    rw[ha]at mh
    simp only[Bool.false_eq_true,false_iff]at mh
    simp only[Bool.cond_false]
    constructor
    ·exact Or.inr
    ·intro h
     rcases h with h|h
     ·exact absurd h.2.2 mh
     ·exact h
theorem X4{ops:Array Oper}{l:List Bool}(hl:l.length=ops.size)(i:Nat):i∈Region.ready .any ops l.toArray↔i∈i6 l 0 (l6 ops) l:=by
 rw[mem_ready,Ce]
 constructor
 ·rintro ⟨h1,o,ho,h2⟩
  have mM:i<ops.size:=(Array.getElem?_eq_some_iff.1 ho).1
  refine⟨i,_,by omega,by simp[l6,ho];rfl,?_,?_⟩
  ·have pP:i<l.length:=by omega
   simp[pP]at h1 ⊢
   exact h1
  ·intro x hx
   simp only[List.mem_map,List.mem_filter,Array.mem_toList_iff]at hx
   obtain⟨e,⟨he,hb⟩,rfl⟩:=hx
   have:=h2 e he hb
   simpa using this
 ·rintro ⟨j,e,h0,h1,h2,h3⟩
  have:j=i:=by omega
  subst this
  simp only[l6,List.getElem?_map,Option.map_eq_some_iff,Array.getElem?_toList]at h1
  obtain⟨o,ho,rfl⟩:=h1
  refine⟨by simp[h2],o,ho,fun e he hb=>?_⟩
  have:=h3 e.on (List.mem_map.2 ⟨e,List.mem_filter.2 ⟨by simpa using he,hb⟩,rfl⟩)
  simpa using this
theorem LW{P:Program}{o:Oper}{a:Act}{w:World}{K K':Act→World→Prop}{Q Q':Exit→Act→World→Prop}(hQ:∀e a w,Q e a w→e=.normal)(h:∀a w,K a w→K' a w)(hh:o.wp P a w K Q):o.wp P a w K' Q':=by
 unfold Oper.wp at *
 generalize (execOp a.eval o).run P w=r at *
 cases r with
 |ok n w' =>
  cases n<;>simp only[Oper.upon]at hh ⊢ <;>
   first
    |exact h _ _ hh
    |exact Calls.mono hh (fun e qG he=>by
      cases e with
      |returned v=>exact h _ _ he
      |panicked c=>exact absurd (hQ _ _ _ he) (by simp)
      |outgrown=>obtain⟨a,w,hx⟩:=he;exact absurd (hQ _ _ _ hx) (by simp))
    |exact Rows.mono hh (fun _ _ he=>h _ _ he)
 |halt x w' =>
  cases x<;>simp only[Oper.upon]at hh ⊢
  exact absurd (hQ _ _ _ hh) (by simp)
theorem OS{P:Program}{ops:Array Oper}{Q Q':Exit→Act→World→Prop}(hQ:∀e a w,Q e a w→e=.normal)(h:∀a w,Q .normal a w→Q' .normal a w):∀(mN:Nat) (listed:Array Bool) (a:Act) (w:World),wpAny P .any ops Q mN listed a w→wpAny P .any ops Q' mN listed a w:=by
 intro mN
 induction mN with
 |zero=>intro l a w hx;exact⟨hx.1,h a w hx.2⟩
 |succ mN ih =>
  intro l a w hx
  refine⟨fun hr=>h a w (hx.1 hr),fun i hi=>?_⟩
  have h1:=hx.2 i hi
  unfold wpOp at h1 ⊢
  split at h1
  ·exact ih _ _ _ h1
  ·split at h1
   ·rename_i hw
    rw[if_pos hw]
    rcases h1 with h1|⟨_,a1,w1,hx⟩
    ·exact .inl (LW hQ (fun a' w' hn=>ih _ _ _ hn) h1)
    ·exact absurd (hQ _ _ _ hx) (by simp)
   ·rename_i hw
    rw[if_neg hw]
    exact ih _ _ _ h1
section rules
variable {P:Program} {E:Env} {n:Nat} {ops:Array Oper} {σ:St} {K:St→Prop} {Q:Exit→St→Prop}
def C7(P:Program)(E:Env)(n:Nat)(ops:Array Oper)(mN:Nat)(l:List Bool)(σ:St)(K:St→Prop):Prop :=
 ∀a w,j7 E n σ a w→wpAny P .any ops (fun e a' w'=>e=.normal∧∃σ',K σ'∧j7 E n σ' a' w') mN l.toArray a w
def cV(P:Program)(E:Env)(n:Nat)(ops:Array Oper)(mN:Nat)(l:List Bool)(σ:St)(K:St→Prop):List Nat→Prop
 |[]=>True
 |i::r=>(match ops[i]? with
  |some o=>B3 P E n ops [o] σ fun σ'=>C7 P E n ops mN (l.set i true) σ' K
  |none=>False)∧cV P E n ops mN l σ K r
theorem SN{mN:Nat}{l:List Bool}:∀{r:List Nat},cV P E n ops mN l σ K r→∀i∈r,∃o,ops[i]?=some o∧B3 P E n ops [o] σ fun σ'=>C7 P E n ops mN (l.set i true) σ' K
 |[],_,i,hi=>by cases hi
 |j::r,h,i,hi=>by
  rcases List.mem_cons.1 hi with rfl|hi
  ·have:=h.1
   split at this
   ·rename_i o ho;exact⟨o,ho,this⟩
   ·exact this.elim
  ·exact SN h.2 i hi
structure XJ(P:Program)(E:Env)(n:Nat)(ops:Array Oper)(mN:Nat)(l:List Bool)(σ:St)(K:St→Prop)(r:List Nat):Prop where
 h:cV P E n ops mN l σ K r
def Iu(ev:Operand→Option AV)(ops:Array Oper)(l:List Bool):List Nat→Option Nat
 |[]=>none
 |i::r=>match ops[i]? with
  |some ⟨some _,op,_,_,_,none⟩=>cond (Zg ev op) (some i) (Iu ev ops l r)
  |_=>Iu ev ops l r
structure XK(p:Prop)(A:Prop):Prop where
 h:p
 k:A
def jP(P:Program)(E:Env)(n:Nat)(ops:Array Oper)(mN:Nat)(l:List Bool)(σ:St)(K:St→Prop):Prop :=
 match i6 l 0 (l6 ops) l with
 |[]=>K σ
 |i::r=>match mN with
  |0=>False
  |mN+1=>match Iu (F5 σ) ops l (i::r)with
   |some i=>match ops[i]? with
    |some ⟨some d,op,_,_,_,none⟩=>XK (Region.free .any ops l.toArray i=true∧i∈i6 l 0 (l6 ops) l) (cond (Nat.blt d n) (PV P op (F5 σ) σ.hp fun av=>C7 P E n ops mN (l.set i true) (σ.put d av) K) False)
    |_=>False
   |none=>XJ P E n ops mN l σ K (i::r)
theorem W7(l:List Bool)(i:Nat):l.toArray.setIfInBounds i true=(l.set i true).toArray:=by simp
theorem fc{mN:Nat}{l:List Bool}(yz:Region.noSelect ops=true)(hl:Nat.beq l.length ops.size=true)(h:jP P E n ops mN l σ K):C7 P E n ops mN l σ K:=by
 have hl:=Nat.eq_of_beq_eq_true hl
 unfold jP at h
 split at h
 ·rename_i hr
  intro a w hs
  have oR:Region.ready .any ops l.toArray=[]:=by
   cases hx:Region.ready .any ops l.toArray with
   |nil=>rfl
   |cons i r=>have:=(X4 hl i).1 (by rw[hx];simp);rw[hr]at this;cases this
  exact wpAny_done oR ⟨rfl,σ,h,hs⟩ _
 ·rename_i i r hr
  split at h
  ·exact h.elim
  ·rename_i mN
   split at h
   ·rename_i i' tZ
    split at h
    ·rename_i d op ty pos after pJ
     obtain⟨⟨hf,ze⟩,h⟩:=h
     obtain⟨hd,h⟩:=cond_false h
     obtain⟨av,hp,h⟩:=jO (E:=E) (nx:=σ.nx) (ty:=ty) h
     rintro a w ⟨θ,hs⟩
     obtain⟨v,tj,pu⟩:=hp (some d) pos after θ a w hs.evT
     refine wpAny_take pJ yz hf (by simpa using (X4 hl i').2 ze) (fun c a w hc=>by cases hc.1) (v:=v) (.inl ⟨by simp[Region.wanted],tj⟩) ?_
     rw[W7]
     exact h _ _ ⟨θ,hs.put (Nat.blt_eq▸hd) pu⟩
    ·exact h.elim
   ·intro a w hs
    refine⟨fun oR=>?_,fun j hj=>?_⟩
    ·have:=(X4 hl i).2 (by rw[hr];simp)
     rw[oR]at this
     cases this
    ·have mi:=(X4 hl j).1 hj
     rw[hr]at mi
     obtain⟨o,ho,hA⟩:=SN h.h j mi
     have hw:=hA a w hs
     unfold wpOp
     simp only[ho]
     unfold wpList at hw
     split
     ·rename_i oC
      rw[if_pos oC]at hw
      rcases hw with hw|⟨_,a1,w1,hx⟩
      ·refine .inl (LW (fun e a w h=>h.1) (fun a' w' hn=>?_) hw)
       obtain⟨_,σ',hk,nU⟩:=hn
       rw[W7]
       exact hk a' w' nU
      ·exact absurd hx.1 (by simp)
     ·rename_i oC
      rw[if_neg oC]at hw
      obtain⟨_,σ',hk,nU⟩:=hw
      rw[W7]
      exact hk _ _ nU
def P7(ops:Array Oper):List Bool:=ops.toList.map fun _=>false
theorem GZ{id:Nat}[hm:Io P](S:St)(h:C7 P E n ops ops.size (P7 ops) σ fun σ'=>St.le E n σ' S)(k:Q .normal S):Ca P E n id ops σ Q:=by
 refine⟨fun a w ⟨θ,hs⟩=>wp_region_any hm.out ?_⟩
 have hb:Below w.heap.size w { w with drawn:=w.drawn+1 }:=Below.drew (Below.refl _ _)
 have h1:=h a { w with drawn:=w.drawn+1 } ⟨θ,hs.below hb⟩
 have e:(P7 ops).toArray=Array.replicate ops.size false:=by
  apply Array.ext'
  simp[P7,List.map_const']
 rw[e]at h1
 exact OS (fun e a w hx=>hx.1) (fun a w hx=>by
  obtain⟨_,σ',nT,nU⟩:=hx
  exact⟨S,k,nT a w nU⟩) _ _ _ _ h1
theorem B9{σ1 σ2 σ3:St}(h:St.le E n σ1 σ2)(h':St.le E n σ2 σ3):St.le E n σ1 σ3:=fun a w hs=>h' a w (h a w hs)
theorem B2{σ1:St}:St.le E n σ1 σ1:=fun a w hs=>hs
def swp(i j k:Nat):Nat:=cond (Nat.beq k i) j (cond (Nat.beq k j) i k)
theorem Ga(i j k:Nat):swp i j k=if k=i then j else if k=j then i else k:=by
 unfold swp
 cases h1:Nat.beq k i with
 |true=>rw[if_pos (Nat.eq_of_beq_eq_true h1)];rfl
 |false =>
  have:k≠i:=by intro e;subst e;simp at h1
  rw[if_neg this]
  cases h2:Nat.beq k j with
  |true=>rw[if_pos (Nat.eq_of_beq_eq_true h2)];rfl
  |false =>
   have:k≠j:=by intro e;subst e;simp at h2
   rw[if_neg this];rfl
theorem DI(i j k:Nat):swp i j (swp i j k)=k:=by
 rw[Ga i j k]
 split
 ·rename_i h;subst h
  rw[Ga]
  split
  ·rename_i h;exact h
  ·rw[if_pos rfl]
 ·split
  ·rename_i h;subst h;rw[Ga,if_pos rfl]
  ·rename_i h1 h2;rw[Ga,if_neg h1,if_neg h2]
theorem Aj(i j:Nat){m:Nat}(h0:E.n0=m)(hb:(Nat.ble m i && Nat.ble m j && Nat.blt i σ.nx && Nat.blt j σ.nx)=true)(mM:K8 σ.nx σ.hp=true):
  St.le E n σ ⟨AY (N9 (swp i j) fun _=>0) σ.sl,σ.nx,V4 (swp i j) (fun _=>0) σ.hp⟩:=by
 simp only[Bool.and_eq_true,Nat.ble_eq,Nat.blt_eq]at hb
 obtain⟨⟨⟨hi0,oo⟩,hi⟩,hj⟩:=hb
 have wE:∀k,k<σ.nx→swp i j k<σ.nx:=fun k hk=>by
  rw[Ga]
  split
  ·exact hj
  ·split
   ·exact hi
   ·exact hk
 have tr:∀a b,a<σ.nx→b<σ.nx→swp i j a=swp i j b→a=b:=fun a b _ _ h=>by rw[←DI i j a,h,DI]
 have tQ:∀q,q<σ.nx→A5 (V4 (swp i j) (fun _=>0) σ.hp) (swp i j q)=(A5 σ.hp q).map (j9 (swp i j) (fun _=>0) q):=by
  intro q hq
  have:=HM (ρ:=swp i j) (s:=fun _=>0) tr σ.hp [] mM q hq
  rw[List.append_nil]at this
  unfold A5
  rw[this]
  cases look σ.hp q with
  |none=>rfl
  |some b=>cases b<;>rfl
 have mc:∀k,σ.nx≤k→A5 (V4 (swp i j) (fun _=>0) σ.hp) k=none:=by
  intro k hk
  have:=Bn (ρ:=swp i j) (s:=fun _=>0) (m:=σ.nx) σ.hp [] mM k (fun q hq he=>by have:=wE q hq;omega)
  rw[List.append_nil]at this
  unfold A5
  rw[this]
  rfl
 rintro a w ⟨θ,hs⟩
 let σ':St:=⟨AY (N9 (swp i j) fun _=>0) σ.sl,σ.nx,V4 (swp i j) (fun _=>0) σ.hp⟩
 let θ':Th:=⟨fun k=>θ (swp i j k),fun k=>θ.N (swp i j k)⟩
 have back:∀k b,A5 σ'.hp k=some b→∃q b0,k=swp i j q∧q<σ.nx∧A5 σ.hp q=some b0∧b=j9 (swp i j) (fun _=>0) q b0∧∀z,FP θ' k b z→FP θ q b0 z:=by
  intro k b hb
  by_cases hk:k<σ.nx
  ·have oW:A5 (V4 (swp i j) (fun _=>0) σ.hp) (swp i j (swp i j k))=some b:=by rw[DI];exact hb
   rw[tQ _ (wE k hk),Option.map_eq_some_iff]at oW
   obtain⟨b0,h1,h2⟩:=oW
   refine⟨swp i j k,b0,(DI i j k).symm,wE k hk,h1,h2.symm,fun z hz=>?_⟩
   subst h2
   unfold FP at hz ⊢
   rwa[Pb]at hz
  ·rw[mc k (by omega)]at hb;cases hb
 have ren:Ren (cx E θ σ w) (cx E θ' σ' w) (swp i j) (fun _=>0):=by
  refine⟨wE,fun k hk=>by show θ (swp i j (swp i j k))=_;rw[DI];rfl,fun k hk=>by show θ.N (swp i j (swp i j k))=_;rw[DI];rfl,rfl,fun k hu=>?_,fun q hq e sz v' l hl=>?_⟩
  ·rcases hu with hu|⟨q,b,hb,hk⟩
   ·exact .inl hu
   ·obtain⟨q',b0,rfl,hq,h1,h2,h3⟩:=back q b hb
    exact .inr ⟨q',b0,h1,h3 k hk⟩
  ·have h1:A5 (V4 (swp i j) (fun _=>0) σ.hp) (swp i j q)=some (.row e sz v' l):=hl
   rw[tQ q hq,Option.map_eq_some_iff]at h1
   obtain⟨b,hb,oZ⟩:=h1
   cases b with
   |bx τ l=>cases oZ
   |map m=>cases oZ
   |it _ _=>cases oZ
   |row e1 sz1 v1 l1 =>
    simp only[j9]at oZ
    cases oZ
    exact⟨v1,hb,rfl⟩
 refine⟨θ',hs.size,hs.defers,hs.fr,fun s x hx=>?_,fun k b hb=>?_,fun k1 k2 b1 b2 k h1 h2 oX mW=>?_,fun k b q hb hk=>?_,hs.X,⟨hs.base.1,fun k hk=>?_⟩⟩
 ·have oz:look (AY (N9 (swp i j) fun _=>0) σ.sl) s=some x:=hx
  rw[CX,Option.map_eq_some_iff]at oz
  obtain⟨x0,h1,rfl⟩:=oz
  exact OR ren (hs.slots s x0 h1)
 ·obtain⟨q,b0,rfl,hq,h1,rfl,h3⟩:=back k b hb
  exact⟨wE q hq,Vl ren hq (hs.owns q b0 h1).2⟩
 ·obtain⟨q1,c1,rfl,_,g1,_,g2⟩:=back k1 b1 h1
  obtain⟨q2,c2,rfl,_,g3,_,g4⟩:=back k2 b2 h2
  rw[hs.apart q1 q2 c1 c2 k g1 g3 (g2 k oX) (g4 k mW)]
 ·obtain⟨q1,c1,rfl,_,g1,_,g2⟩:=back k b hb
  exact hs.mine q1 c1 q g1 (g2 q hk)
 ·have:swp i j k=k:=by rw[Ga,if_neg (by omega),if_neg (by omega)]
  show θ (swp i j k)=_∨_
  rw[this]
  refine(hs.base.2 k hk).imp id fun ⟨h1,h2⟩=>⟨h1,fun ⟨e,sz,v,l,hl,nP⟩=>h2 ?_⟩
  obtain⟨q,b0,hq,_,ns,ov,_⟩:=back k _ hl
  have hqk:q=k:=(DI i j q).symm.trans ((congrArg (swp i j) hq.symm).trans this)
  subst hqk
  cases b0 with
  |bx τ l=>cases ov
  |map m=>cases ov
  |it _ _=>cases ov
  |row e1 sz1 v1 l1 =>
   simp only[j9]at ov
   cases ov
   exact⟨_,_,_,_,ns,nP⟩
theorem jQ{mN:Nat}{l:List Bool}:XJ P E n ops mN l σ K []:=⟨trivial⟩
theorem jR{mN:Nat}{l:List Bool}{i:Nat}{r:List Nat}(h1:match ops[i]? with
  |some o=>B3 P E n ops [o] σ fun σ'=>C7 P E n ops mN (l.set i true) σ' K
  |none=>False) (h2:XJ P E n ops mN l σ K r):XJ P E n ops mN l σ K (i::r):=⟨⟨h1,h2.h⟩⟩
theorem jS{p A:Prop}(h:p)(k:A):XK p A:=⟨h,k⟩
end rules
def MV(P:Program)(op:Op)(ev:Operand→Option AV)(F:AV→Prop):Prop :=
 match op with
 |.move x=>Y5 (ev x) F
 |.assign x=>Y5 (ev x) F
 |.binOp op T x y _=>Rx P T op (ev x) (ev y) F
 |.load T x=>match ev x with
  |some (.iptr l)=>Mm P T [] (some (.iptr l)) F
  |_=>False
 |.fieldAddr S x f=>match ev x with
  |some (.iptr l)=>OO P S f fun off sz=>cond (Nat.blt 0 sz) (F (.iptr (l.drop off))) False
  |some (.ref i o)=>OO P S f fun off sz=>cond (Nat.blt 0 sz) (F (.ref i (o+off))) False
  |_=>False
 |.indexAddr T x y=>match ev x with
  |some (.sl sz l)=>Ik P T [] (some (.sl sz l)) (ev y) F
  |_=>False
 |.call ⟨.builtin .len,⟨[x]⟩,⟨[T]⟩⟩=>match ev x with
  |some (.sl sz l)=>HJ P T [] (some (.sl sz l)) F
  |some (.str s)=>HJ P T [] (some (.str s)) F
  |some (.v (.slice none 0 0))=>HJ P T [] (some (.v (.slice none 0 0))) F
  |_=>False
 |.call ⟨.value (.func f),⟨args⟩,_⟩=>match m4 ev args with
  |some l=>cond (I9 l) (RC P f (l++[]) F) False
  |none=>False
 |.build T ⟨parts⟩=>match BP ev parts with
  |some ps=>Ig P T fun zs pl=>Dn [] ps (Y5 ((Be pl zs ps).map AV.agg) F)
  |none=>False
 |.buildSlice T len ⟨parts⟩=>match BP ev parts with
  |some ps=>Eu P T fun _ sz _ _=>cond (CV 0 ps && t3 sz (L4 ps) && Nat.beq ps.length len && Nat.blt 0 sz) (G5 (len*sz≤16777216) (Dn [] ps (Mk (L4 ps) (F (.sl sz (L4 ps)))))) False
  |none=>False
 |.convert S T x=>Y5 (ev x) fun a=>BA P S T a F
 |.extract x k=>match ev x with
  |some (.tup l)=>Y5 (l[k]?) F
  |_=>False
 |.slice T x lo hi none=>match ev x with
  |some (.str s)=>DZ P T (match AX ev 0 lo,AX ev s.length hi with
   |some l,some h=>G5 (0≤l∧l≤h∧h≤s.length) (F (.str ((s.take h.toNat).drop l.toNat)))
   |_,_=>False)
  |_=>False
 |.unOp .not _ x=>match ev x with
  |some (.v (.bool b))=>F (.v (.bool (!b)))
  |_=>False
 |.index T x y=>match ev x,ev y with
  |some (.str s),some (.v (.int _ i))=>DZ P T (Q1 s i fun b=>F (.v (.int .u8 b.toNat)))
  |_,_=>False
 |_=>False
theorem fe{hp:Hp}{a:AV}(h:One [] a):One hp a:=by
 cases h with
 |row hl=>cases hl
 |v h=>exact .v h
 |str l=>exact .str l
 |sl s l=>exact .sl s l
 |iptr l=>exact .iptr l
 |ref i o=>exact .ref i o
 |mp i=>exact .mp i
 |fn f l=>exact .fn f l
 |fo f l=>exact .fo f l
theorem cW{hp:Hp}{a:AV}(h:Fits [] a):Fits hp a:=by
 cases a<;>first|exact trivial|exact fe h
theorem Iv{hp:Hp}:∀{ps:List (Nat×AV)},DX [] ps→DX hp ps
 |[],_=>trivial
 |(_,a)::r,h=>⟨cW h.1,Iv h.2⟩
theorem la{P:Program}{op:Op}{ev:Operand→Option AV}{F:AV→Prop}(h:MV P op ev F):∃av,(∀(E:Env) (nx:Nat) (hp:Hp) (ty:TypeId),G7 P E nx hp ev op ty av)∧F av:=by
 unfold MV at h
 split at h
 ·obtain⟨a,hx,h⟩:=J8 h;exact⟨a,fun _ _ _ _=>Yy hx,h⟩
 ·obtain⟨a,hx,h⟩:=J8 h;exact⟨a,fun _ _ _ _=>RY hx,h⟩
 ·rename_i op T x y T2
  unfold Rx at h
  split at h
  ·rename_i hx hy;exact⟨_,fun _ _ _ _=>eb hx hy h.h,h.k⟩
  ·rename_i hx hy;exact⟨_,fun _ _ _ _=>ee hx hy h.h,h.k⟩
  ·rename_i hx hy
   obtain⟨hk,hq⟩:=cond_false h
   clear h
   have hk:=of_decide_eq_true hk
   subst hk
   unfold Rv at hq
   split at hq
   ·exact⟨_,fun _ _ _ _=>Dm hx hy (by simp only[CU,Q0 hq.h]),hq.k⟩
   ·exact⟨_,fun _ _ _ _=>Dm hx hy (by simp only[CU,Q0 hq.h]),hq.k⟩
   ·exact⟨_,fun _ _ _ _=>Dm hx hy (by simp only[CU,Q0 hq.h]),hq.k⟩
   ·refine⟨_,fun E nx hp ty=>?_,hq.k⟩
    have nq:=Qz (P:=P) (E:=E) (nx:=nx) (hp:=hp) (ty:=ty) (T:=T) (T2:=T2) hx hy hq.h.1
    rw[Q0 hq.h.2]at nq
    exact nq
   ·exact⟨_,fun _ _ _ _=>Qz hx hy hq.h,hq.k⟩
   ·exact⟨_,fun _ _ _ _=>eZ hx hy hq.h,hq.k⟩
   ·split at hq
    ·rename_i hr;exact⟨_,fun _ _ _ _=>Dm hx hy hr,hq⟩
    ·exact hq.elim
  ·rename_i s t hx hy
   unfold br at h
   split at h
   ·exact⟨_,fun _ _ _ _=>ZA hx hy h.h,h.k⟩
   ·split at h
    ·rename_i hr;exact⟨_,fun _ _ _ _=>Yz hx hy hr,h⟩
    ·exact h.elim
  ·rename_i a b hx hy
   unfold XA at h
   split at h
   ·have:=h.h;exact⟨_,fun _ _ _ _=>RA (T:=T) false hx hy,h.k⟩
   ·have:=h.h;exact⟨_,fun _ _ _ _=>RA (T:=T) true hx hy,h.k⟩
   ·exact h.elim
  ·rename_i l m hx hy
   unfold P2 at h
   split at h
   ·obtain⟨hk,hq⟩:=cond_false h
    obtain⟨rfl,rfl⟩:=of_decide_eq_true hk
    have:=hq.h;exact⟨_,fun _ _ _ _=>HC (T:=T) false hx hy,hq.k⟩
   ·obtain⟨hk,hq⟩:=cond_false h
    obtain⟨rfl,rfl⟩:=of_decide_eq_true hk
    have:=hq.h;exact⟨_,fun _ _ _ _=>HC (T:=T) true hx hy,hq.k⟩
   ·obtain⟨hk,hq⟩:=cond_false h
    obtain⟨rfl,rfl,rfl⟩:=of_decide_eq_true hk
    have:=hq.h;exact⟨_,fun _ _ _ _=>HE (T:=T) false hx hy,hq.k⟩
   ·obtain⟨hk,hq⟩:=cond_false h
    obtain⟨rfl,rfl,rfl⟩:=of_decide_eq_true hk
    have:=hq.h;exact⟨_,fun _ _ _ _=>HE (T:=T) true hx hy,hq.k⟩
   ·obtain⟨hk,hq⟩:=cond_false h
    obtain rfl:=of_decide_eq_true hk
    have:=hq.h;exact⟨_,fun _ _ _ _=>MU (T:=T) false hx hy,hq.k⟩
   ·obtain⟨hk,hq⟩:=cond_false h
    obtain rfl:=of_decide_eq_true hk
    have:=hq.h;exact⟨_,fun _ _ _ _=>MU (T:=T) true hx hy,hq.k⟩
   ·exact h.elim
  ·exact h.elim
 ·rename_i T x
  split at h
  ·rename_i l hx
   unfold Mm at h
   obtain⟨⟨ag,sz,tv,h⟩⟩:=h
   cases ag with
   |true =>
    change cond (Nat.beq l.length sz) _ _ at h
    cases hc:Nat.beq l.length sz with
    |true =>
     rw[hc]at h
     exact⟨_,fun _ _ _ _=>AW (sz:=sz) hx (by rw[←Nat.eq_of_beq_eq_true hc,List.take_length]) (Nat.eq_of_beq_eq_true hc),h⟩
    |false =>
     rw[hc]at h
     exact⟨_,fun _ _ _ _=>AW (sz:=sz) hx rfl h.h,h.k⟩
   |false =>
    cases l with
    |nil=>exact h.elim
    |cons av r=>exact⟨_,fun _ _ _ _=>KT (sz:=sz) hx,h⟩
  ·exact h.elim
 ·split at h
  ·rename_i hx
   obtain⟨⟨off,sz,tf,h⟩⟩:=h
   obtain⟨hz,h⟩:=cond_false h
   exact⟨_,fun _ _ _ _=>IW (off:=off) (sz:=sz) hx hz,h⟩
  ·rename_i hx
   obtain⟨⟨off,sz,tf,h⟩⟩:=h
   obtain⟨hz,h⟩:=cond_false h
   exact⟨_,fun _ _ _ _=>KU (off:=off) (sz:=sz) hx hz,h⟩
  ·exact h.elim
 ·split at h
  ·rename_i hx
   unfold Ik at h
   split at h
   ·rename_i we hy
    cases we
    obtain⟨⟨e,mP,ts,h⟩⟩:=h
    obtain⟨hz,hq⟩:=cond_false h
    clear h
    have:=Nat.eq_of_beq_eq_true hz
    subst this
    obtain⟨h0,h1,hk⟩:=hq
    exact⟨_,fun _ _ _ _=>MQ (e:=e) hx hy h0 (List.getElem?_eq_getElem (by omega)),hk _ (List.getElem?_eq_getElem (by omega))⟩
   ·rename_i we _;cases we
   ·rename_i we _;cases we
   ·exact h.elim
  ·exact h.elim
 ·split at h
  ·rename_i hx
   unfold HJ at h
   obtain⟨⟨e,sz,ts,h⟩⟩:=h
   exact⟨_,fun _ _ _ _=>Re (e:=e) (sz:=sz) hx,h.k⟩
  ·rename_i hx
   unfold HJ at h
   obtain⟨ts,h⟩:=h
   exact⟨_,fun _ _ _ _=>PL hx,h⟩
  ·rename_i hx
   unfold HJ at h
   obtain⟨⟨e,sz,ts,h⟩⟩:=h
   exact⟨_,fun _ _ _ _=>PM (e:=e) (sz:=sz) hx,h⟩
  ·exact h.elim
 ·split at h
  ·rename_i l hl
   obtain⟨hc,h⟩:=cond_false h
   obtain⟨⟨r,hr,h⟩⟩:=h
   rw[List.append_nil]at hr
   exact⟨_,fun _ _ _ _=>Rg hr hl hc,h⟩
  ·exact h.elim
 ·split at h
  ·rename_i ps rj
   obtain⟨⟨zs,pl,tz,tp,h⟩⟩:=h
   obtain⟨hf,h⟩:=p7 h
   obtain⟨a,ha,h⟩:=J8 h
   rw[Option.map_eq_some_iff]at ha
   obtain⟨l,hl,rfl⟩:=ha
   exact⟨_,fun _ _ _ _=>Vd (T:=_) rj (Iv hf) hl,h⟩
  ·exact h.elim
 ·split at h
  ·rename_i ps rj
   obtain⟨⟨e,sz,bs,z,ts,tz,tb,hz,h⟩⟩:=h
   obtain⟨hc,h⟩:=cond_false h
   simp only[Bool.and_eq_true,Nat.beq_eq,Nat.blt_eq]at hc
   obtain⟨hs,h⟩:=h
   obtain⟨hf,h⟩:=p7 h
   obtain⟨hi,h⟩:=EM h
   exact⟨_,fun _ _ _ _=>Ic (e:=e) (z:=z) rj (Iv hf) hc.1.1.1 hc.1.1.2 hc.1.2 hz hs hc.2 hi,h⟩
  ·exact h.elim
 ·obtain⟨a,hx,h⟩:=J8 h
  obtain⟨⟨r,hr,h⟩⟩:=h
  cases hr with
  |bytes l hl=>rename_i e sz _ _ _;exact⟨_,fun _ _ _ _=>KW (e:=e) (sz:=sz) hx hl,h⟩
  |back l=>rename_i e sz _ _ _;exact⟨_,fun _ _ _ _=>KY (e:=e) (sz:=sz) hx,h⟩
  |int m=>exact⟨_,fun _ _ _ _=>MS hx,h⟩
  |rune m=>exact⟨_,fun _ _ _ _=>KZ hx,h⟩
 ·split at h
  ·rename_i hx
   obtain⟨a,ha,h⟩:=J8 h
   exact⟨_,fun _ _ _ _=>PQ hx ha,h⟩
  ·exact h.elim
 ·split at h
  ·rename_i hx
   obtain⟨ts,h⟩:=h
   split at h
   ·rename_i hl hh;exact⟨_,fun _ _ _ _=>Kb hx hl hh h.h.1 h.h.2.1 h.h.2.2,h.k⟩
   ·exact h.elim
  ·exact h.elim
 ·split at h
  ·rename_i hx;exact⟨_,fun _ _ _ _=>eh hx,h⟩
  ·exact h.elim
 ·split at h
  ·rename_i s k i hx hy
   obtain⟨ts,h0,h1,hk⟩:=h
   have mM:i.toNat<s.length:=by omega
   have mI:s[i.toNat]?=some s[i.toNat]:=List.getElem?_eq_getElem mM
   exact⟨_,fun _ _ _ _=>KV hx hy h0 mI,hk _ mI⟩
  ·exact h.elim
 ·exact h.elim
structure MB where
 i:Nat
 d:Nat
 av:AV
 rd:List (Nat×AV)
def lb(P:Program)(ops:Array Oper)(m:MB):Prop:=∃op ty pos after,ops[m.i]?=some ⟨some m.d,op,ty,pos,after,none⟩∧∀(E:Env) (nx:Nat) (hp:Hp) (ty:TypeId),G7 P E nx hp (F5 ⟨m.rd,0,[]⟩) op ty m.av
def Fe(ops:Array Oper)(i:Nat):List Nat:=(l6 ops).getD i []
def M7:List MB→List (Nat×AV)
 |[]=>[]
 |⟨_,d,av,_⟩::r=>(d,av)::M7 r
def Z7(l:List Bool)(mb:List MB):List MB:=mb.filter fun m=>l.getD m.i false
def lz(ops:Array Oper)(mb:List MB)(sl:List (Nat×AV)):Prop:=∀m∈mb,∀p∈m.rd,look sl p.1=some p.2∨∃m'∈mb,m'.d=p.1∧m'.av=p.2∧m'.i∈Fe ops m.i
def Db(n:Nat)(sl:List (Nat×AV)):List MB→Bool
 |[]=>true
 |m::r=>Nat.blt m.d n && (look sl m.d).isNone && (r.all fun u=>!(Nat.beq u.d m.d) && !(Nat.beq u.i m.i)) && Db n sl r
theorem Ff{n:Nat}{sl:List (Nat×AV)}:∀{mb:List MB},Db n sl mb=true→(∀m∈mb,m.d<n∧look sl m.d=none)∧(∀m∈mb,∀m'∈mb,m.d=m'.d→m=m')∧∀m∈mb,∀m'∈mb,m.i=m'.i→m=m'
 |[],_=>⟨(fun m hm=>by cases hm),(fun m hm=>by cases hm),fun m hm=>by cases hm⟩
 |a::r,h=>by
  simp only[Db,Bool.and_eq_true,List.all_eq_true,Bool.not_eq_true',Nat.blt_eq,Option.isNone_iff_eq_none]at h
  obtain⟨⟨⟨h1,h2⟩,h3⟩,h4⟩:=h
  obtain⟨i1,i2,i3⟩:=Ff h4
  have tR:∀u∈r,u.d≠a.d∧u.i≠a.i:=fun u hu=>by
   have h5:=h3 u hu
   refine⟨fun e=>?_,fun e=>?_⟩
   ·have:=h5.1;rw[e]at this;simp at this
   ·have:=h5.2;rw[e]at this;simp at this
  refine⟨fun m hm=>?_,fun m hm m' ng e=>?_,fun m hm m' ng e=>?_⟩
  ·rcases List.mem_cons.1 hm with rfl|hm
   ·exact⟨h1,h2⟩
   ·exact i1 m hm
  ·rcases List.mem_cons.1 hm with h5|h5<;>rcases List.mem_cons.1 ng with h6|h6
   ·rw[h5,h6]
   ·subst h5;exact absurd e.symm (tR _ h6).1
   ·subst h6;exact absurd e (tR _ h5).1
   ·exact i2 m h5 m' h6 e
  ·rcases List.mem_cons.1 hm with h5|h5<;>rcases List.mem_cons.1 ng with h6|h6
   ·rw[h5,h6]
   ·subst h5;exact absurd e.symm (tR _ h6).2
   ·subst h6;exact absurd e (tR _ h5).2
   ·exact i3 m h5 m' h6 e
theorem R9(l m:List (Nat×AV))(s:Nat):look (l++m) s=match look l s with
  |some x=>some x
  |none=>look m s:=by
 induction l with
 |nil=>rfl
 |cons a r ih =>
  obtain⟨k,x⟩:=a
  simp only[List.cons_append,E9]
  by_cases e:k=s
  ·simp[e]
  ·simp[e,ih]
theorem Gb{T:List MB}{s:Nat}(h:∀m∈T,m.d≠s):look (M7 T) s=none:=by
 induction T with
 |nil=>rfl
 |cons a r ih =>
  obtain⟨ai,ad,xj,wo⟩:=a
  have h0:ad≠s:=h ⟨ai,ad,xj,wo⟩ (by simp)
  simp only[M7,E9]
  rw[if_neg h0,ih fun m hm=>h m (by simp[hm])]
theorem Do{T:List MB}{m:MB}(hu:∀m∈T,∀m'∈T,m.d=m'.d→m=m')(hm:m∈T):look (M7 T) m.d=some m.av:=by
 induction T with
 |nil=>cases hm
 |cons a r ih =>
  obtain⟨ai,ad,xj,wo⟩:=a
  simp only[M7,E9]
  by_cases e:ad=m.d
  ·rw[if_pos e,←hu ⟨ai,ad,xj,wo⟩ (by simp) m hm e]
  ·rw[if_neg e]
   rcases List.mem_cons.1 hm with rfl|hm
   ·exact absurd rfl e
   ·exact ih (fun x hx y hy=>hu x (by simp[hx]) y (by simp[hy])) hm
theorem t5{T:List MB}{s:Nat}{x:AV}(h:look (M7 T) s=some x):∃m∈T,m.d=s∧m.av=x:=by
 induction T with
 |nil=>cases h
 |cons a r ih =>
  obtain⟨ai,ad,xj,wo⟩:=a
  simp only[M7,E9]at h
  by_cases e:ad=s
  ·rw[if_pos e]at h;cases h;exact⟨⟨ai,ad,_,wo⟩,by simp,e,rfl⟩
  ·rw[if_neg e]at h
   obtain⟨m,hm,h1,h2⟩:=ih h
   exact⟨m,by simp[hm],h1,h2⟩
theorem HQ{E:Env}{n nx:Nat}{hp:Hp}{sl zq:List (Nat×AV)}{a:Act}{w:World}(e:∀s x,look zq s=some x→look sl s=some x)(h:j7 E n ⟨sl,nx,hp⟩ a w):j7 E n ⟨zq,nx,hp⟩ a w:=by
 obtain⟨θ,h⟩:=h
 exact⟨θ,h.size,h.defers,h.fr,fun s x hs=>h.slots s x (e s x hs),h.owns,h.apart,h.mine,h.X,h.base⟩
def D1(P:Program)(E:Env)(n:Nat)(ops:Array Oper)(done:List Bool)(mb:List MB)(σ:St)(K:St→Prop):Prop :=
 (∀m∈mb,lb P ops m)→lz ops mb σ.sl→Db n σ.sl mb=true →
 ∀(mN:Nat) (l:List Bool) (a:Act) (w:World),l.length=ops.size→(∀i,done.getD i false=true→l.getD i false=true)→(∀i,l.getD i false=true→done.getD i false=true∨∃m∈mb,m.i=i)→l.count false≤mN →
  j7 E n ⟨M7 (Z7 l mb)++σ.sl,σ.nx,σ.hp⟩ a w→wpAny P .any ops (fun e a' w'=>e=.normal∧∃σ',K σ'∧j7 E n σ' a' w') mN l.toArray a w
def t6(ops:Array Oper)(mb:List MB)(i:Nat):List MB:=mb.filter fun m=>(Fe ops i).contains m.i
def m6(ops:Array Oper)(mb:List MB)(i:Nat):List MB:=mb.filter fun m=>!((Fe ops i).contains m.i)
def Iw(ops:Array Oper)(done:List Bool)(mb:List MB)(i:Nat):List Bool:=(t6 ops mb i).foldl (fun l m=>l.set m.i true) (done.set i true)
def AD:List MB→List Nat
 |[]=>[]
 |m::r=>m.rd.map (·.1)++AD r
structure Mv(P:Program)(E:Env)(n:Nat)(ops:Array Oper)(done:List Bool)(mb:List MB)(K:St→Prop)(base:List (Nat×AV))(k:Nat)(ex:List (Nat×AV))(σ':St):Prop where
 sl:σ'.sl=σ'.sl.take k++ex
 rd:(AD mb).map (look (σ'.sl.take k))=(AD mb).map (look base)
 chk:Db n (σ'.sl.take k) mb=true
 go:D1 P E n ops done mb ⟨σ'.sl.take k,σ'.nx,σ'.hp⟩ K
def Mw(P:Program)(E:Env)(n:Nat)(ops:Array Oper)(done:List Bool)(mb:List MB)(σ:St)(K:St→Prop)(i:Nat):Prop :=
 match ops[i]? with
 |some o=>∀ex:List (Nat×AV),B3 P E n ops [o] ⟨M7 (t6 ops mb i)++(σ.sl++ex),σ.nx,σ.hp⟩ fun σ'=>Mv P E n ops (Iw ops done mb i) (m6 ops mb i) K (M7 (t6 ops mb i)++σ.sl) (match o.dst,o.guard with
  |some _,some _=>(t6 ops mb i).length+σ.sl.length+2
  |some _,none=>(t6 ops mb i).length+σ.sl.length+1
  |none,_=>(t6 ops mb i).length+σ.sl.length) ex σ'
 |none=>False
def XL(P:Program)(E:Env)(n:Nat)(ops:Array Oper)(done:List Bool)(mb:List MB)(σ:St)(K:St→Prop):List Nat→Prop
 |[]=>True
 |i::r=>Mw P E n ops done mb σ K i∧XL P E n ops done mb σ K r
theorem SO{P:Program}{E:Env}{n:Nat}{ops:Array Oper}{done:List Bool}{mb:List MB}{σ:St}{K:St→Prop}:∀{r:List Nat},XL P E n ops done mb σ K r→∀i∈r,Mw P E n ops done mb σ K i
 |[],_,i,hi=>by cases hi
 |j::r,h,i,hi=>by
  rcases List.mem_cons.1 hi with rfl|hi
  ·exact h.1
  ·exact SO h.2 i hi
def HR(ops:Array Oper)(done:List Bool)(mb:List MB):List Nat :=
 (List.range ops.size).filter fun i=>!(done.getD i false) && !(mb.any fun m=>Nat.beq m.i i) && (Fe ops i).all fun j=>done.getD j false || mb.any fun m=>Nat.beq m.i j
def Gc(ops:Array Oper):Bool:=(List.range ops.size).all fun i=>(Fe ops i).all fun j=>Nat.blt j i
def RF(ops:Array Oper)(done:List Bool)(mb:List MB):Bool:=(List.range ops.size).all fun i=>done.getD i false || mb.any fun m=>Nat.beq m.i i
theorem HS(l:List Bool)(i j:Nat):(l.set i true).getD j false=if i=j∧i<l.length then true else l.getD j false:=by
 simp only[List.getD_eq_getElem?_getD,List.getElem?_set]
 by_cases e:i=j
 ·subst e
  by_cases h:i<l.length
  ·simp[h]
  ·simp[h]
 ·simp[e]
theorem Pf:∀(l:List Bool) (i:Nat),l[i]?=some false→(l.set i true).count false+1=l.count false
 |[],i,h=>by simp at h
 |b::r,0,h=>by simp at h;subst h;simp
 |b::r,i+1,h=>by
  have:=Pf r i (by simpa using h)
  rw[List.set_cons_succ,List.count_cons,List.count_cons]
  omega
theorem Gd:∀(T:List MB) (l:List Bool) (j:Nat),(∀m∈T,m.i<l.length)→((T.foldl (fun l m=>l.set m.i true) l).getD j false=true↔l.getD j false=true∨∃m∈T,m.i=j)
 |[],l,j,_=>by simp
 |m::r,l,j,h=>by
  rw[List.foldl_cons,Gd r _ j (fun x hx=>by rw[List.length_set];exact h x (by simp[hx])),HS]
  have hm:=h m (by simp)
  by_cases e:m.i=j
  ·subst e
   constructor
   ·intro _;exact .inr ⟨m,by simp,rfl⟩
   ·intro _;left;rw[if_pos ⟨rfl,hm⟩]
  ·rw[if_neg (fun h=>e h.1)]
   constructor
   ·rintro (h1|⟨x,hx,e2⟩)
    ·exact .inl h1
    ·exact .inr ⟨x,by simp[hx],e2⟩
   ·rintro (h1|⟨x,hx,e2⟩)
    ·exact .inl h1
    ·rcases List.mem_cons.1 hx with rfl|hx
     ·exact absurd e2 e
     ·exact .inr ⟨x,hx,e2⟩
theorem Vn{ops:Array Oper}{i:Nat}(h:i<ops.size):(l6 ops)[i]?=some (Fe ops i):=by
 have hl:i<(l6 ops).length:=by simp[l6];exact h
 rw[Fe,List.getD_eq_getElem?_getD,List.getElem?_eq_getElem hl];rfl
theorem Ju{P:Program}{E:Env}{n:Nat}{ops:Array Oper}{done:List Bool}{mb:List MB}{σ:St}{K:St→Prop}(mL:Nat.beq done.length ops.size=true)(mo:Gc ops=true)
  (nt:RF ops done mb=true→K ⟨M7 mb++σ.sl,σ.nx,σ.hp⟩) (mh:XL P E n ops done mb σ K (HR ops done mb)):D1 P E n ops done mb σ K:=by
 have mL:=Nat.eq_of_beq_eq_true mL
 intro np mK nM
 obtain⟨ol,oG,uk⟩:=Ff nM
 have sb:∀m∈mb,m.i<ops.size:=fun m hm=>by
  obtain⟨op,ty,pos,after,h,_⟩:=np m hm
  exact(Array.getElem?_eq_some_iff.1 h).1
 have pn:∀l,∀m∈Z7 l mb,m∈mb∧l.getD m.i false=true:=fun l m hm=>by
  unfold Z7 at hm
  exact List.mem_filter.1 hm
 have nf:∀l,∀m∈mb,l.getD m.i false=true→m∈Z7 l mb:=fun l m hm h=>List.mem_filter.2 ⟨hm,h⟩
 have hu:∀l,∀m∈Z7 l mb,∀m'∈Z7 l mb,m.d=m'.d→m=m':=fun l m hm m' ng=>oG m (pn l m hm).1 m' (pn l m' ng).1
 -- a slot of the state is none of those that may be filled
 have pU:∀l s x,look σ.sl s=some x→look (M7 (Z7 l mb)) s=none:=fun l s x hs=>Gb fun m hm e=>by
  have:=(ol m (pn l m hm).1).2
  rw[e,hs]at this
  cases this
 have fin:∀(l:List Bool) (a:Act) (w:World),(∀i,i<ops.size→l.getD i false=true)→(∀i,l.getD i false=true→done.getD i false=true∨∃m∈mb,m.i=i)→j7 E n ⟨M7 (Z7 l mb)++σ.sl,σ.nx,σ.hp⟩ a w→(Exit.normal=Exit.normal∧∃σ',K σ'∧j7 E n σ' a w):=by
  intro l a w hl h2 hs
  refine⟨rfl,_,nt ?_,HQ (fun s x h=>?_) hs⟩
  ·unfold RF
   rw[List.all_eq_true]
   intro i hi
   rcases h2 i (hl i (List.mem_range.1 hi))with h|⟨m,hm,e⟩
   ·rw[h];rfl
   ·have:(mb.any fun m=>Nat.beq m.i i)=true:=List.any_eq_true.2 ⟨m,hm,by simp[e]⟩
    rw[this];simp
  ·have:Z7 l mb=mb:=List.filter_eq_self.2 fun m hm=>hl _ (sb m hm)
   rw[this];exact h
 have tI:∀(l:List Bool),l.length=ops.size→Region.ready .any ops l.toArray=[]→∀i,i<ops.size→l.getD i false=true:=by
  intro l hl hr i
  induction i using Nat.strongRecOn with
  |_ i ih =>
   intro hi
   cases hx:l.getD i false with
   |true=>rfl
   |false =>
    exfalso
    have nE:i∈i6 l 0 (l6 ops) l:=by
     rw[Ce]
     refine⟨i,Fe ops i,by omega,Vn hi,?_,fun x hxe=>?_⟩
     ·rw[List.getD_eq_getElem?_getD]at hx
      have h1:l[i]?=some (l[i]'(by omega)):=List.getElem?_eq_getElem (by omega)
      rw[h1]at hx ⊢
      simpa using hx
     ·unfold Gc at mo
      have h1:=List.all_eq_true.1 mo i (List.mem_range.2 hi)
      have h2:=List.all_eq_true.1 h1 x hxe
      have h3:x<i:=by simpa using h2
      exact ih x h3 (by omega)
    have:=(X4 hl i).2 nE
    rw[hr]at this
    cases this
 intro mN
 induction mN with
 |zero =>
  intro l a w hl h1 h2 uj hs
  have h0:∀i,i<ops.size→l.getD i false=true:=by
   intro i hi
   have tX:l[i]?=some (l[i]'(by omega)):=List.getElem?_eq_getElem (by omega)
   rw[List.getD_eq_getElem?_getD,tX]
   cases hb:l[i]'(by omega)with
   |true=>rfl
   |false =>
    have:0<l.count false:=List.count_pos_iff.2 (hb▸List.getElem_mem _)
    omega
  refine⟨?_,fin l a w h0 h2 hs⟩
  cases hx:Region.ready .any ops l.toArray with
  |nil=>rfl
  |cons i r =>
   have:=(X4 hl i).1 (by rw[hx];simp)
   rw[Ce]at this
   obtain⟨j,e,e1,_,e2,_⟩:=this
   have hj:j<ops.size:=by rw[←hl];exact(List.getElem?_eq_some_iff.1 e2).1
   have:=h0 j hj
   rw[List.getD_eq_getElem?_getD,e2]at this
   cases this
 |succ mN ih =>
  intro l a w hl h1 h2 uj hs
  refine⟨fun hr=>fin l a w (tI l hl hr) h2 hs,fun i hi=>?_⟩
  have nZ:=(X4 hl i).1 hi
  rw[Ce]at nZ
  obtain⟨i',e,ei,he,hf,vU⟩:=nZ
  obtain rfl:i=i':=by omega
  have his:i<ops.size:=by rw[←hl];exact(List.getElem?_eq_some_iff.1 hf).1
  rw[Vn his]at he
  cases he
  have hlf:l.getD i false=false:=by rw[List.getD_eq_getElem?_getD,hf];rfl
  have nB:(l.set i true).length=ops.size:=by rw[List.length_set];exact hl
  have uA:(l.set i true).count false≤mN:=by have:=Pf l i hf;omega
  have nS:∀j,(l.set i true).getD j false=true↔j=i∨l.getD j false=true:=by
   intro j
   rw[HS]
   by_cases e:i=j
   ·subst e;simp;omega
   ·simp[e,Ne.symm e]
  by_cases hm:∃m∈mb,m.i=i
  ·obtain⟨m,hm,uy⟩:=hm
   subst uy
   obtain⟨op,ty,pos,after,ho,hq⟩:=np m hm
   unfold wpOp
   simp only[ho]
   rw[if_pos (by simp[Region.wanted])]
   left
   obtain⟨θ,hs⟩:=hs
   have om:v8 E θ σ.nx σ.hp (F5 ⟨m.rd,0,[]⟩) a w:=by
    have h0:=hs.evT
    refine⟨h0.fr,h0.owns,h0.X,fun {x av} hx=>h0.rel (x:=x) ?_,h0.apart,h0.fresh,h0.tab⟩
    cases x with
    |tmp t =>
     have oz:look m.rd t=some av:=hx
     show look (M7 (Z7 l mb)++σ.sl) t=some av
     have nE:∀(rd:List (Nat×AV)),look rd t=some av→(t,av)∈rd:=by
      intro rd
      induction rd with
      |nil=>intro h;cases h
      |cons p r ih =>
       obtain⟨k,x⟩:=p
       intro h
       rw[E9]at h
       by_cases e:k=t
       ·subst e;rw[if_pos rfl]at h;cases h;simp
       ·rw[if_neg e]at h;exact List.mem_cons_of_mem _ (ih h)
     rw[R9]
     rcases mK m hm (t,av) (nE _ oz)with h|⟨m',ng,e1,e2,e3⟩
     ·rw[pU l t av h];exact h
     ·have h4:m'∈Z7 l mb:=nf l m' ng (vU _ e3)
      have h5:=Do (hu l) h4
      have e1:m'.d=t:=e1
      have e2:m'.av=av:=e2
      rw[e1,e2]at h5
      rw[h5]
    |const c=>exact hx
    |global g=>exact hx
    |func f=>exact hx
   refine RX (hq E σ.nx σ.hp ty (some m.d) pos after θ a w (fun v w'=>Below w.heap.size w w'∧E0 (kx E θ σ.nx σ.hp w') m.av v) om fun v w' hb hr=>⟨hb,hr⟩) fun v w' xY=>?_
   rw[W7]
   refine ih (l.set m.i true) _ w' nB (fun j hj=>(nS j).2 (.inr (h1 j hj))) (fun j hj=>?_) uA ?_
   ·rcases(nS j).1 hj with e|e
    ·exact .inr ⟨m,hm,e.symm⟩
    ·exact h2 j e
   ·have qF:=(hs.below xY.1).put (d:=m.d) (ol m hm).1 (x:=m.av) (v:=v) xY.2
    refine HQ (sl:=(m.d,m.av)::(M7 (Z7 l mb)++σ.sl)) (fun s x h=>?_) ⟨θ,qF⟩
    rw[R9]at h
    rw[E9,R9]
    cases hx:look (M7 (Z7 (l.set m.i true) mb)) s with
    |some y =>
     rw[hx]at h
     cases h
     obtain⟨m',ng,e1,e2⟩:=t5 hx
     obtain⟨h3,h4⟩:=pn _ m' ng
     by_cases e:m.d=s
     ·rw[if_pos e,oG m hm m' h3 (by rw[e,e1]),e2]
     ·rw[if_neg e]
      have h5:l.getD m'.i false=true:=by
       rcases(nS _).1 h4 with h6|h6
       ·have:=uk m' h3 m hm h6
        subst this
        exact absurd e1 e
       ·exact h6
      have:=Do (hu l) (nf l m' h3 h5)
      rw[e1,e2]at this
      rw[this]
    |none =>
     rw[hx]at h
     have h':look σ.sl s=some x:=h
     have hne:m.d≠s:=fun e=>by have:=(ol m hm).2;rw[e,h']at this;cases this
     rw[if_neg hne,pU l s x h']
     exact h'
  ·have pX:∀m∈mb,m.i≠i:=fun m ng e=>hm ⟨m,ng,e⟩
   have vT:done.getD i false=false:=by
    cases hx:done.getD i false with
    |false=>rfl
    |true=>rw[h1 i hx]at hlf;cases hlf
   have wv:(mb.any fun m=>Nat.beq m.i i)=false:=by
    rw[List.any_eq_false]
    intro m ng h
    exact pX m ng (Nat.eq_of_beq_eq_true h)
   have yJ:i∈HR ops done mb:=by
    unfold HR
    rw[List.mem_filter]
    refine⟨List.mem_range.2 his,?_⟩
    rw[vT,wv]
    simp only[Bool.not_false,Bool.true_and,List.all_eq_true]
    intro j hj
    rcases h2 j (vU j hj)with h|⟨m,ng,e⟩
    ·rw[h];rfl
    ·have:(mb.any fun m=>Nat.beq m.i j)=true:=List.any_eq_true.2 ⟨m,ng,by simp[e]⟩
     rw[this];simp
   have rR:=SO mh i yJ
   unfold Mw at rR
   split at rR
   ·rename_i o ho
    have tw:∀m,m∈t6 ops mb i↔m∈mb∧m.i∈Fe ops i:=fun m=>by simp[t6,List.mem_filter]
    have qN:∀m,m∈m6 ops mb i↔m∈mb∧m.i∉Fe ops i:=fun m=>by simp[m6,List.mem_filter]
    have uS:j7 E n ⟨M7 (t6 ops mb i)++(σ.sl++M7 (Z7 l (m6 ops mb i))),σ.nx,σ.hp⟩ a w:=by
     refine HQ (fun s x h=>?_) hs
     rw[R9]at h ⊢
     cases hx:look (M7 (t6 ops mb i)) s with
     |some y =>
      rw[hx]at h
      cases h
      obtain⟨m,ng,e1,e2⟩:=t5 hx
      obtain⟨h3,h4⟩:=(tw m).1 ng
      have:=Do (hu l) (nf l m h3 (vU _ h4))
      rw[e1,e2]at this
      rw[this]
     |none =>
      rw[hx]at h
      have h:look (σ.sl++M7 (Z7 l (m6 ops mb i))) s=some x:=h
      rw[R9]at h
      cases hy:look σ.sl s with
      |some y =>
       rw[hy]at h
       cases h
       rw[pU l s _ hy]
      |none =>
       rw[hy]at h
       have h:look (M7 (Z7 l (m6 ops mb i))) s=some x:=h
       obtain⟨m,ng,e1,e2⟩:=t5 h
       obtain⟨h3,h4⟩:=List.mem_filter.1 ng
       have:=Do (hu l) (nf l m ((qN m).1 h3).1 h4)
       rw[e1,e2]at this
       rw[this]
    have hw:=rR (M7 (Z7 l (m6 ops mb i))) a w uS
    have last:∀(kk:Nat) σ' a' w',Mv P E n ops (Iw ops done mb i) (m6 ops mb i) K (M7 (t6 ops mb i)++σ.sl) kk (M7 (Z7 l (m6 ops mb i))) σ'→j7 E n σ' a' w'→wpAny P .any ops (fun e a' w'=>e=.normal∧∃σ',K σ'∧j7 E n σ' a' w') mN (l.set i true).toArray a' w':=by
     intro kk σ' a' w' hp nU
     have pB:∀j,(Iw ops done mb i).getD j false=true↔(done.getD j false=true∨j=i)∨∃m∈t6 ops mb i,m.i=j:=by
      intro j
      unfold Iw
      rw[Gd _ _ _ (fun m ng=>by rw[List.length_set,mL];exact sb m ((tw m).1 ng).1),HS]
      by_cases e:i=j
      ·subst e;simp;left;omega
      ·simp[e,Ne.symm e]
     have xQ:∀m∈t6 ops mb i,look (M7 (t6 ops mb i)++σ.sl) m.d=some m.av:=fun m ng=>by
      rw[R9,Do (fun m h m' h'=>oG m ((tw m).1 h).1 m' ((tw m').1 h').1) ng]
     refine hp.go (fun m ng=>np m ((qN m).1 ng).1) (fun m ng p zo=>?_) hp.chk mN (l.set i true) a' w' nB (fun j hj=>?_) (fun j hj=>?_) uA ?_
     ·have tx:look (σ'.sl.take kk) p.1=look (M7 (t6 ops mb i)++σ.sl) p.1:=by
       have nE:p.1∈AD (m6 ops mb i):=by
        have:∀(L:List MB),m∈L→p.1∈AD L:=by
         intro L
         induction L with
         |nil=>intro h;cases h
         |cons a r ih =>
          intro h
          simp only[AD,List.mem_append,List.mem_map]
          rcases List.mem_cons.1 h with rfl|h
          ·exact .inl ⟨p,zo,rfl⟩
          ·exact .inr (ih h)
        exact this _ ng
       obtain⟨t,ht,et⟩:=List.getElem_of_mem nE
       have h3:=congrArg (fun L:List (Option AV)=>L[t]?) hp.rd
       simp only[List.getElem?_map,List.getElem?_eq_getElem ht,Option.map_some,Option.some.injEq,et]at h3
       exact h3
      rcases mK m ((qN m).1 ng).1 p zo with h|⟨m',vt,e1,e2,e3⟩
      ·left
       rw[tx,R9,Gb (fun u qH e=>by
        have:=(ol u ((tw u).1 qH).1).2
        rw[e,h]at this
        cases this)]
       exact h
      ·by_cases wa:m'.i∈Fe ops i
       ·left
        rw[tx,←e1,xQ m' ((tw m').2 ⟨vt,wa⟩),e2]
       ·exact .inr ⟨m',(qN m').2 ⟨vt,wa⟩,e1,e2,e3⟩
     ·rw[nS]
      rcases(pB j).1 hj with (h|h)|⟨m,ng,e⟩
      ·exact .inr (h1 j h)
      ·exact .inl h
      ·exact .inr (e▸vU _ ((tw m).1 ng).2)
     ·rw[pB]
      rcases(nS j).1 hj with h|h
      ·exact .inl (.inl (.inr h))
      ·rcases h2 j h with h|⟨m,ng,e⟩
       ·exact .inl (.inl (.inl h))
       ·by_cases wa:m.i∈Fe ops i
        ·exact .inl (.inr ⟨m,(tw m).2 ⟨ng,wa⟩,e⟩)
        ·exact .inr ⟨m,(qN m).2 ⟨ng,wa⟩,e⟩
     ·have qP:=hp.sl
      obtain⟨c1,c2,c3⟩:=Ff hp.chk
      have:Z7 (l.set i true) (m6 ops mb i)=Z7 l (m6 ops mb i):=by
       unfold Z7
       refine List.filter_congr fun m ng=>?_
       rw[HS,if_neg (fun h=>pX m ((qN m).1 ng).1 h.1.symm)]
      rw[this]
      refine HQ (sl:=σ'.sl) (fun s x h=>?_) nU
      rw[R9]at h
      rw[qP,R9]
      cases hx:look (M7 (Z7 l (m6 ops mb i))) s with
      |some y =>
       rw[hx]at h
       cases h
       obtain⟨m,ng,e1,e2⟩:=t5 hx
       have h3:=(c1 m (List.mem_filter.1 ng).1).2
       rw[e1]at h3
       rw[h3]
      |none =>
       rw[hx]at h
       have h:look (σ'.sl.take kk) s=some x:=h
       rw[h]
    unfold wpOp
    simp only[ho]
    unfold wpList at hw
    split
    ·rename_i oC
     rw[if_pos oC]at hw
     rcases hw with hw|⟨_,a1,w1,hx⟩
     ·refine .inl (LW (fun e a w h=>h.1) (fun a' w' hn=>?_) hw)
      obtain⟨_,σ',hk,nU⟩:=hn
      rw[W7]
      exact last _ σ' a' w' hk nU
     ·exact absurd hx.1 (by simp)
    ·rename_i oC
     rw[if_neg oC]at hw
     obtain⟨_,σ',hk,nU⟩:=hw
     rw[W7]
     exact last _ σ' _ _ hk nU
   ·exact rR.elim
def RG:List MB→(List MB→Prop)→Prop
 |[],F=>F []
 |⟨i,d,av,rd⟩::r,F=>Cc rd fun rd2=>RG r fun s=>F (⟨i,d,av,rd2⟩::s)
theorem Mx:∀{l:List MB} {F:List MB→Prop},RG l F→F l
 |[],F,h=>h
 |⟨i,d,av,rd⟩::r,F,h=>Mx (l:=r) (F:=fun s=>F (⟨i,d,av,rd⟩::s)) (m5 h)
def LY(op:Op)(sl:List (Nat×AV)):List (Nat×AV):=op.operands.toList.filterMap fun x=>match x with
 |.tmp t=>(look sl t).map fun a=>(t,a)
 |_=>none
def Vo(ops:Array Oper)(mb:List MB)(i:Nat)(op:Op):Bool:=op.operands.toList.all fun x=>match x with
 |.tmp t=>mb.all fun m=>!(Nat.beq m.d t) || (Fe ops i).contains m.i
 |_=>true
def SP(ev:Operand→Option AV)(x:Operand):Bool:=match ev x with
 |some a=>J1 a
 |none=>false
def mA(op:Op)(ev:Operand→Option AV):Bool :=
 match op with
 |.move x=>(ev x).isSome
 |.assign x=>(ev x).isSome
 |.binOp _ _ x y _=>SP ev x && SP ev y
 |.load _ x=>match ev x with
  |some (.iptr _)=>true
  |_=>false
 |.fieldAddr _ x _=>match ev x with
  |some (.iptr _)=>true
  |some (.ref _ _)=>true
  |_=>false
 |.indexAddr _ x y=>(match ev x with
  |some (.sl _ _)=>true
  |_=>false) && SP ev y
 |.call ⟨.builtin .len,⟨[x]⟩,⟨[_]⟩⟩=>match ev x with
  |some (.sl _ _)=>true
  |some (.str _)=>true
  |some (.v (.slice none 0 0))=>true
  |_=>false
 |.call ⟨.value (.func f),⟨args⟩,_⟩=>match m4 ev args with
  |some l=>I9 l
  |none=>false
 |.build _ ⟨parts⟩=>match BP ev parts with
  |some ps=>ps.all fun p=>J1 p.2
  |none=>false
 |.buildSlice _ _ ⟨parts⟩=>match BP ev parts with
  |some ps=>ps.all fun p=>J1 p.2
  |none=>false
 |.convert _ _ x=>SP ev x
 |.extract x k=>match ev x with
  |some (.tup l)=>(l[k]?).isSome
  |_=>false
 |.slice _ x lo hi none=>(match ev x with
  |some (.str _)=>true
  |_=>false) && (match lo with
  |some o=>SP ev o
  |none=>true) && (match hi with
  |some o=>SP ev o
  |none=>true)
 |.unOp .not _ x=>match ev x with
  |some (.v (.bool _))=>true
  |_=>false
 |.index _ x y=>(match ev x with
  |some (.str _)=>true
  |_=>false) && SP ev y
 |_=>false
def RH(ops:Array Oper)(n:Nat)(done:List Bool)(mb:List MB)(sl:List (Nat×AV))(i:Nat):Bool :=
 !(done.getD i false) && !(mb.any fun m=>Nat.beq m.i i) && ((Fe ops i).all fun j=>done.getD j false || mb.any fun m=>Nat.beq m.i j) && match ops[i]? with
  |some ⟨some d,op,_,_,_,none⟩=>mA op (F5 ⟨M7 mb++sl,0,[]⟩) && Db n sl (⟨i,d,.any,[]⟩::mb) && Vo ops mb i op
  |_=>false
theorem cX{op:Op}{sl:List (Nat×AV)}{p:Nat×AV}(h:p∈LY op sl):look sl p.1=some p.2∧Operand.tmp p.1∈op.operands.toList:=by
 unfold LY at h
 rw[List.mem_filterMap]at h
 obtain⟨x,hx,h⟩:=h
 split at h
 ·rw[Option.map_eq_some_iff]at h
  obtain⟨a,ha,rfl⟩:=h
  exact⟨ha,hx⟩
 ·cases h
theorem SQ{P:Program}{E:Env}{n:Nat}{ops:Array Oper}{done:List Bool}{mb:List MB}{σ:St}{K:St→Prop}{i d:Nat}{op:Op}{ty:TypeId}{pos:String}{after:Array Edge}(pJ:ops[i]?=some ⟨some d,op,ty,pos,after,none⟩)
  (vU:Vo ops mb i op=true) (rJ:Db n σ.sl (⟨i,d,.any,[]⟩::mb)=true) (vT:done.getD i false=false)
  (h:MV P op (F5 ⟨LY op (M7 mb++σ.sl),0,[]⟩) fun av=>D1 P E n ops done (⟨i,d,av,LY op (M7 mb++σ.sl)⟩::mb) σ K):D1 P E n ops done mb σ K:=by
 obtain⟨av,hq,h⟩:=la h
 intro np mK nM mN l a w hl h1 h2 uj hs
 obtain⟨c1,c2,c3⟩:=Ff rJ
 have tX:l.getD i false=false:=by
  cases hx:l.getD i false with
  |false=>rfl
  |true =>
   exfalso
   rcases h2 i hx with h|⟨m,hm,e⟩
   ·rw[vT]at h;cases h
   ·simp only[Db,Bool.and_eq_true,List.all_eq_true,Bool.not_eq_true']at rJ
    have h3:=(rJ.1.2 m hm).2
    rw[e]at h3
    simp at h3
 refine h (fun m hm=>?_) (fun m hm p hp=>?_) rJ mN l a w hl h1 (fun j hj=>?_) uj ?_
 ·rcases List.mem_cons.1 hm with rfl|hm
  ·exact⟨op,ty,pos,after,pJ,hq⟩
  ·exact np m hm
 ·rcases List.mem_cons.1 hm with rfl|hm
  ·obtain⟨h3,h4⟩:=cX hp
   rw[R9]at h3
   cases hx:look (M7 mb) p.1 with
   |none=>rw[hx]at h3;exact .inl h3
   |some y =>
    rw[hx]at h3
    cases h3
    obtain⟨m',ng,e1,e2⟩:=t5 hx
    refine .inr ⟨m',List.mem_cons_of_mem _ ng,e1,e2,?_⟩
    have h5:=List.all_eq_true.1 vU _ h4
    have h6:=List.all_eq_true.1 h5 m' ng
    rw[e1]at h6
    simpa using h6
  ·rcases mK m hm p hp with h3|⟨m',ng,h4⟩
   ·exact .inl h3
   ·exact .inr ⟨m',List.mem_cons_of_mem _ ng,h4⟩
 ·rcases h2 j hj with h3|⟨m,hm,e⟩
  ·exact .inl h3
  ·exact .inr ⟨m,List.mem_cons_of_mem _ hm,e⟩
 ·have:Z7 l (⟨i,d,av,LY op (M7 mb++σ.sl)⟩::mb)=Z7 l mb:=by
   unfold Z7
   rw[List.filter_cons,if_neg (by simp only[tX];exact Bool.false_ne_true)]
  rw[this]
  exact hs
structure jT(F:List (Nat×AV)→Prop):Prop where
 h:∀ex,F ex
theorem lc{F:List (Nat×AV)→Prop}(h:∀ex,F ex):jT F:=⟨h⟩
structure My(P:Program)(E:Env)(n:Nat)(ops:Array Oper)(done:List Bool)(mb:List MB)(σ:St)(K:St→Prop)(r:List Nat):Prop where
 h:XL P E n ops done mb σ K r
theorem ff{P:Program}{E:Env}{n:Nat}{ops:Array Oper}{done:List Bool}{mb:List MB}{σ:St}{K:St→Prop}:My P E n ops done mb σ K []:=⟨trivial⟩
def XM(P:Program)(E:Env)(n:Nat)(ops:Array Oper)(done:List Bool)(mb:List MB)(σ:St)(K:St→Prop)(i:Nat):Prop :=
 match ops[i]? with
 |some o=>Cc (M7 (t6 ops mb i)++σ.sl) fun wZ=>jT fun ex=>B3 P E n ops [o] ⟨wZ++ex,σ.nx,σ.hp⟩ fun σ'=>Mv P E n ops (Iw ops done mb i) (m6 ops mb i) K (M7 (t6 ops mb i)++σ.sl) (match o.dst,o.guard with
  |some _,some _=>(t6 ops mb i).length+σ.sl.length+2
  |some _,none=>(t6 ops mb i).length+σ.sl.length+1
  |none,_=>(t6 ops mb i).length+σ.sl.length) ex σ'
 |none=>False
theorem XN{P:Program}{E:Env}{n:Nat}{ops:Array Oper}{done:List Bool}{mb:List MB}{σ:St}{K:St→Prop}{i:Nat}(h:XM P E n ops done mb σ K i):Mw P E n ops done mb σ K i:=by
 unfold XM at h
 unfold Mw
 split at h
 ·have h2:=(m5 h).h
  simp only[List.append_assoc]at h2
  exact h2
 ·exact h.elim
theorem fg{P:Program}{E:Env}{n:Nat}{ops:Array Oper}{done:List Bool}{mb:List MB}{σ:St}{K:St→Prop}{i:Nat}{r:List Nat}(h:XM P E n ops done mb σ K i)(k:My P E n ops done mb σ K r):My P E n ops done mb σ K (i::r):=⟨⟨XN h,k.h⟩⟩
theorem fh{P:Program}{E:Env}{n:Nat}{ops:Array Oper}{done:List Bool}{mb:List MB}{K:St→Prop}{base:List (Nat×AV)}{k:Nat}{ex:List (Nat×AV)}{σ':St}(h1:σ'.sl=σ'.sl.take k++ex)(h2:(AD mb).map (look (σ'.sl.take k))=(AD mb).map (look base))(h3:Db n (σ'.sl.take k) mb=true)
  (h4:Cc (σ'.sl.take k) fun wZ=>V3 σ'.hp fun hp2=>H0 σ'.nx fun ry=>Js done fun sV=>RG mb fun zM=>D1 P E n ops sV zM ⟨wZ,ry,hp2⟩ K):Mv P E n ops done mb K base k ex σ' :=
 ⟨h1,h2,h3,Mx (EQ (E3 (S9 (m5 h4))))⟩
def jU(P:Program)(E:Env)(n:Nat)(ops:Array Oper)(done:List Bool)(mb:List MB)(σ:St)(K:St→Prop):Prop :=
 match (List.range ops.size).find? (RH ops n done mb σ.sl)with
 |some i=>match ops[i]? with
  |some ⟨some d,op,_,_,_,none⟩=>Cc (LY op (M7 mb++σ.sl)) fun rd=>MV P op (F5 ⟨rd,0,[]⟩) fun av=>D1 P E n ops done (⟨i,d,av,rd⟩::mb) σ K
  |_=>False
 |none=>RE (HR ops done mb) fun L=>match L with
  |[]=>cond (RF ops done mb) (K ⟨M7 mb++σ.sl,σ.nx,σ.hp⟩) False
  |i::r=>My P E n ops done mb σ K (i::r)
theorem Pg{P:Program}{E:Env}{n:Nat}{ops:Array Oper}{done:List Bool}{mb:List MB}{σ:St}{K:St→Prop}(mL:Nat.beq done.length ops.size=true)(mo:Gc ops=true)(h:jU P E n ops done mb σ K):D1 P E n ops done mb σ K:=by
 unfold jU at h
 split at h
 ·rename_i i hi
  have hc:=List.find?_some hi
  split at h
  ·rename_i d op ty pos after pJ
   simp only[RH,pJ,Bool.and_eq_true,Bool.not_eq_true']at hc
   exact SQ pJ hc.2.2 hc.2.1.2 hc.1.1.1 (m5 h)
  ·exact h.elim
 ·have h:=HL h
  split at h
  ·rename_i hr
   obtain⟨ha,h⟩:=cond_false h
   exact Ju mL mo (fun _=>h) (by rw[hr];trivial)
  ·rename_i i r hr
   refine Ju mL mo (fun ha=>?_) (by rw[hr];exact h.h)
   exfalso
   have nE:i∈HR ops done mb:=by rw[hr];simp
   unfold HR at nE
   rw[List.mem_filter]at nE
   have h2:=List.all_eq_true.1 ha i nE.1
   have h3:=nE.2
   simp only[Bool.and_eq_true,Bool.not_eq_true']at h3
   rw[h3.1.1,h3.1.2]at h2
   cases h2
theorem Ew{P:Program}{E:Env}{n:Nat}{ops:Array Oper}{σ:St}{K:St→Prop}(h:D1 P E n ops (P7 ops) [] σ K):C7 P E n ops ops.size (P7 ops) σ K:=fun a w hs =>
 h (fun m hm=>by cases hm) (fun m hm=>by cases hm) rfl ops.size (P7 ops) a w (by simp[P7]) (fun i h=>h) (fun i h=>.inl h) (by
  have:=List.count_le_length (a:=false) (l:=P7 ops)
  simpa [P7]using this) hs
theorem F3{P:Program}{E:Env}{n:Nat}{ops:Array Oper}{σ:St}{Q:Exit→St→Prop}{id:Nat}[hm:Io P](S:St)(h:Js (P7 ops) fun d=>Cc σ.sl fun sl=>D1 P E n ops d [] ⟨sl,σ.nx,σ.hp⟩ fun σ'=>St.le E n σ' S)(k:Q .normal S):Ca P E n id ops σ Q:=GZ S (Ew (m5 (EQ h))) k
def fB(S:Nat→List AV→Prop):List Nat→List AV→Prop
 |[],l=>l=[]
 |t::r,l=>∃a b,S t a∧fB S r b∧l=a++b
def jV(S:List AV→Prop):Nat→List AV→Prop
 |0,l=>l=[]
 |n+1,l=>∃a b,S a∧jV S n b∧l=a++b
def Ge(P:Program)(tot:Nat):List Field→Nat→Bool
 |[],o=>Nat.beq o tot
 |f::r,o=>Nat.beq f.offset o && Ge P tot r (o+P.cellsOf f.type)
def Sh(P:Program):Nat→TypeId→List AV→Prop
 |0,_,_=>False
 |f+1,t,l=>match P.underlying t with
  |some .bool=>∃b,l=[.v (.bool b)]
  |some (.int k)=>∃n,(Lit.int k n).wf=true∧l=[.v (.int k n)]
  |some .string=>∃s,s.length≤maxLen∧l=[.str s]
  |some (.slice e)=>∃ls,ls.length≤maxLen∧(∀x∈ls,Sh P f e x)∧l=[.sl (P.cellsOf e) ls]
  |some (.struct fs)=>Ge P (P.cellsOf t) fs.toList 0=true→fB (Sh P f) (fs.toList.map (·.type)) l
  |some (.array n e)=>P.cellsOf t=n*P.cellsOf e→jV (Sh P f e) n l
  |_=>True
def Gf:Nat→Prop:=fun _=>False
def DA(w:World)(l:List AV)(cs:List Value):Prop:=l.length=cs.length∧∀(j:Nat) x y,l[j]?=some x→cs[j]?=some y→Im Gf w x y
theorem DA.nil{w:World}:DA w [] []:=⟨rfl,fun j x y h=>by simp at h⟩
theorem DA.one{w:World}{a:AV}{v:Value}(h:Im Gf w a v):DA w [a] [v]:=⟨rfl,fun j x y hx hy=>by
 cases j with
 |zero=>simp at hx hy;subst hx hy;exact h
 |succ j=>simp at hx⟩
theorem DA.app{w:World}{l m:List AV}{cs ds:List Value}(h:DA w l cs)(h':DA w m ds):DA w (l++m) (cs++ds):=by
 refine⟨by rw[List.length_append,List.length_append,h.1,h'.1],fun j x y hx hy=>?_⟩
 by_cases hj:j<l.length
 ·rw[List.getElem?_append_left hj]at hx
  rw[List.getElem?_append_left (by rw[←h.1];exact hj)]at hy
  exact h.2 j x y hx hy
 ·rw[List.getElem?_append_right (by omega)]at hx
  rw[List.getElem?_append_right (by rw[←h.1];omega),←h.1]at hy
  exact h'.2 _ x y hx hy
theorem DA.raw{w:World}(cs:List Value):DA w (cs.map .v) cs:=⟨by simp,fun j x y hx hy=>by
 rw[List.getElem?_map,hy]at hx
 simp at hx;subst hx;exact .v _⟩
theorem HT{α β:Type}{f:α→Option β}:∀{l:List α} {r:List β},l.mapM f=some r→r.length=l.length∧∀(i:Nat) x,l[i]?=some x→∃y,r[i]?=some y∧f x=some y
 |[],r,h=>by simp at h;subst h;simp
 |a::l,r,h=>by
  rw[List.mapM_cons]at h
  cases ha:f a with
  |none=>rw[ha]at h;cases h
  |some y =>
   rw[ha]at h
   cases hl:l.mapM f with
   |none=>rw[hl]at h;cases h
   |some r' =>
    rw[hl]at h
    cases h
    obtain⟨h1,h2⟩:=HT hl
    refine⟨by simp[h1],fun i x hi=>?_⟩
    cases i with
    |zero=>simp at hi;subst hi;exact⟨y,rfl,ha⟩
    |succ i=>simp at hi;simpa using h2 i x hi
theorem Um{w:World}{base:Nat}{a:Addr}{n:Nat}{cs:List Value}(h:w.cells? base a n=some cs):cs.length=n∧∀j,j<n→∃v,cs[j]?=some v∧w.cell? (a.add j)=some v:=by
 unfold World.cells? at h
 split at h
 ·obtain⟨h1,h2⟩:=HT h
  rw[List.length_range]at h1
  refine⟨h1,fun j hj=>?_⟩
  obtain⟨y,hy,hc⟩:=h2 j j (by rw[List.getElem?_range hj])
  exact⟨y,hy,hc⟩
 ·cases h
theorem cY{α:Type}(n:Nat)(f:Nat→α)(i:Nat):((List.range n).map f)[i]?=if i<n then some (f i)else none:=by
 by_cases h:i<n
 ·simp[h]
 ·simp[h]
section
variable {H:Type} {enc:TypeId×Value→H} {P:Program} {w:World} {base:Nat} {spare:Nat→Bool} {held:Bool}
theorem Ph{S:Nat→List AV→Prop}{T:Nat→List Value→Option (DataW H×List MemPlace)}(hT:∀t cs y,T t cs=some y→∃l,S t l∧DA w l cs){tot:Nat}(cs:List Value)(nJ:cs.length=tot):
  ∀(fs:List Field) (o:Nat) {r},Ge P tot fs o=true→(fs.mapM fun f=>T f.type ((cs.drop f.offset).take (P.cellsOf f.type)))=some r→∃l,fB S (fs.map (·.type)) l∧DA w l (cs.drop o)
 |[],o,r,hc,h=>by
  have:o=tot:=Nat.eq_of_beq_eq_true hc
  exact⟨[],rfl,by rw[List.drop_of_length_le (by omega)];exact .nil⟩
 |f::fs,o,r,hc,h=>by
  simp only[Ge,Bool.and_eq_true]at hc
  have ho:f.offset=o:=Nat.eq_of_beq_eq_true hc.1
  rw[List.mapM_cons]at h
  cases ha:T f.type ((cs.drop f.offset).take (P.cellsOf f.type))with
  |none=>rw[ha]at h;cases h
  |some y =>
   rw[ha]at h
   cases hl:(fs.mapM fun f=>T f.type ((cs.drop f.offset).take (P.cellsOf f.type)))with
   |none=>rw[hl]at h;cases h
   |some r' =>
    obtain⟨a,zg,td⟩:=hT _ _ _ ha
    obtain⟨b,no,mj⟩:=Ph hT cs nJ fs _ hc.2 hl
    refine⟨a++b,⟨a,b,zg,no,rfl⟩,?_⟩
    have:=td.app mj
    rw[ho,←List.drop_drop,List.take_append_drop]at this
    exact this
theorem SR{S:List AV→Prop}{c:Nat}{T:List Value→Option (DataW H×List MemPlace)}(hT:∀cs y,T cs=some y→∃l,S l∧DA w l cs)(cs:List Value):
  ∀(n i:Nat),cs.length=(i+n)*c→(∀k,k<n→∃y,T ((cs.drop ((i+k)*c)).take c)=some y)→∃l,jV S n l∧DA w l (cs.drop (i*c))
 |0,i,hl,_=>⟨[],rfl,by rw[List.drop_of_length_le (by rw[hl,Nat.add_zero];exact Nat.le_refl _)];exact .nil⟩
 |n+1,i,hl,h=>by
  obtain⟨y,hy⟩:=h 0 (by omega)
  obtain⟨a,zg,td⟩:=hT _ _ hy
  obtain⟨b,no,mj⟩:=SR hT cs n (i+1) (by rw[hl];congr 1;omega) (fun k hk=>by
   obtain⟨z,hz⟩:=h (k+1) (by omega)
   exact⟨z,by rw[show i+1+k=i+(k+1) by omega];exact hz⟩)
  refine⟨a++b,⟨a,b,zg,no,rfl⟩,?_⟩
  have:=td.app mj
  rw[Nat.add_zero,Nat.add_mul,Nat.one_mul,←List.drop_drop,List.take_append_drop]at this
  exact this
theorem fi:∀(mN:Nat) (t:TypeId) (cs:List Value) (y:DataW H×List MemPlace),DataW.trod enc P w base spare held mN t cs=some y→∃l,Sh P mN t l∧DA w l cs:=by
 intro mN
 induction mN with
 |zero=>intro t cs y h;simp[DataW.trod]at h
 |succ f ih =>
  intro t cs y h
  have raw:(∀l,Sh P (f+1) t l)→∃l,Sh P (f+1) t l∧DA w l cs:=fun mh=>⟨_,mh _,.raw cs⟩
  unfold DataW.trod at h
  split at h
  ·rename_i ht
   exact⟨[.v (.bool _)],by simp only[Sh,ht];exact⟨_,rfl⟩,.one (.v _)⟩
  ·rename_i k k' n ht
   split at h
   ·rename_i hk
    obtain⟨rfl,hwf⟩:=hk
    exact⟨[.v (.int k' n)],by simp only[Sh,ht];exact⟨_,hwf,rfl⟩,.one (.v _)⟩
   ·cases h
  ·rename_i ht;exact raw fun l=>by simp only[Sh,ht]
  ·rename_i s ht
   split at h
   ·rename_i hs
    refine⟨[.str s.data.toList],by simp only[Sh,ht];exact⟨_,by rw[Array.length_toList];exact hs,rfl⟩,.one ?_⟩
    have:=Im.str (U:=Gf) (w:=w) s.data.toList
    simpa using this
   ·cases h
  ·rename_i ht;exact raw fun l=>by simp only[Sh,ht]
  ·rename_i ht;exact raw fun l=>by simp only[Sh,ht]
  ·rename_i e ht
   exact⟨[.sl (P.cellsOf e) []],by simp only[Sh,ht];exact⟨[],Nat.zero_le _,(fun x hx=>by cases hx),rfl⟩,.one (.slnil _)⟩
  ·rename_i e a len cap ht
   simp only at h
   split at h
   ·rename_i hb
    obtain⟨ns,vF,pq⟩:=hb
    rw[Option.bind_eq_some_iff]at h
    obtain⟨elems,mI,_⟩:=h
    obtain⟨_,qv⟩:=HT mI
    have key:∀i,∃p:List AV×List Value,i<len→Sh P f e p.1∧DA w p.1 p.2∧p.2.length=P.cellsOf e∧∀j,j<P.cellsOf e→∃v,p.2[j]?=some v∧w.cell? (a.add (i*P.cellsOf e+j))=some v:=by
     intro i
     by_cases hi:i<len
     ·obtain⟨z,_,hz⟩:=qv i i (by rw[List.getElem?_range hi])
      rw[Option.bind_eq_some_iff]at hz
      obtain⟨csi,nJ,vp⟩:=hz
      obtain⟨mL,mn⟩:=Um nJ
      obtain⟨l,hsh,hp⟩:=ih _ _ _ vp
      exact⟨(l,csi),fun _=>⟨hsh,hp,mL,fun j hj=>by
       obtain⟨v,hv,hc⟩:=mn j hj
       rw[DF]at hc
       exact⟨v,hv,hc⟩⟩⟩
     ·exact⟨([],[]),fun h=>absurd h hi⟩
    have rg:=fun i=>Classical.choose_spec (key i)
    generalize hg:(fun i=>Classical.choose (key i))=g at rg
    have gi:∀i,Classical.choose (key i)=g i:=fun i=>congrFun hg i
    simp only[gi]at rg
    refine⟨[.sl (P.cellsOf e) ((List.range len).map fun i=>(g i).1)],?_,.one ?_⟩
    ·simp only[Sh,ht]
     refine⟨_,by simp;omega,fun x hx=>?_,rfl⟩
     obtain⟨i,hi,rfl⟩:=List.mem_map.1 hx
     exact(rg i (List.mem_range.1 hi)).1
    ·have hl:((List.range len).map fun i=>(g i).1).length=len:=by simp
     have:=Im.sl (U:=Gf) (w:=w) (P.cellsOf e) ((List.range len).map fun i=>(g i).1) a cap (fun i j=>(g i).2.getD j undef) (by rw[hl];exact vF) pq (fun _ _ h=>h)
      (fun x hx=>by
       obtain⟨i,hi,rfl⟩:=List.mem_map.1 hx
       obtain⟨_,h1,h2,_⟩:=rg i (List.mem_range.1 hi)
       rw[h1.1,h2])
      (fun i hi j hj=>by
       rw[hl]at hi
       obtain⟨_,_,_,h3⟩:=rg i hi
       obtain⟨v,hv,hc⟩:=h3 j hj
       simp only[List.getD_eq_getElem?_getD,hv]
       exact hc)
      (fun i x hx j u hu=>by
       rw[cY]at hx
       split at hx
       ·rename_i hi
        cases hx
        obtain⟨_,h1,h2,h3⟩:=rg i hi
        have hj:j<P.cellsOf e:=by rw[←h2,←h1.1];exact(List.getElem?_eq_some_iff.1 hu).1
        obtain⟨v,hv,_⟩:=h3 j hj
        simp only[List.getD_eq_getElem?_getD,hv]
        exact h1.2 j u v hu hv
       ·cases hx)
     rw[hl]at this
     exact this
   ·cases h
  ·rename_i fs ht
   split at h
   ·rename_i hl
    rw[Option.map_eq_some_iff]at h
    obtain⟨r,hr,_⟩:=h
    by_cases hc:Ge P (P.cellsOf t) fs.toList 0=true
    ·obtain⟨l,h1,h2⟩:=Ph (S:=Sh P f) (fun t cs y h=>ih t cs y h) _ hl fs.toList 0 hc hr
     exact⟨l,by simp only[Sh,ht];exact fun _=>h1,by simpa using h2⟩
    ·exact raw fun l=>by simp only[Sh,ht];exact fun h=>absurd h hc
   ·cases h
  ·rename_i n e ht
   split at h
   ·rename_i hl
    rw[Option.map_eq_some_iff]at h
    obtain⟨r,hr,_⟩:=h
    by_cases hc:P.cellsOf t=n*P.cellsOf e
    ·obtain⟨_,oI⟩:=HT hr
     obtain⟨l,h1,h2⟩:=SR (S:=Sh P f e) (c:=P.cellsOf e) (T:=fun cs=>DataW.trod enc P w base spare held f e cs) (fun cs y h=>ih e cs y h) _ n 0 (by rw[hl,hc,Nat.zero_add]) (fun k hk=>by
      obtain⟨z,_,hz⟩:=oI k k (by rw[List.getElem?_range hk])
      exact⟨z,by rw[Nat.zero_add];exact hz⟩)
     exact⟨l,by simp only[Sh,ht];exact fun _=>h1,by simpa using h2⟩
    ·exact raw fun l=>by simp only[Sh,ht];exact fun h=>absurd h hc
   ·cases h
  all_goals first
   |cases h;done
   |(rename_i ht;exact raw (by intro l;simp only[Sh,ht]))
   |(rename_i ht;split at h<;>first|(cases h;done)|exact raw (by intro l;simp only[Sh,ht]))
   |(rename_i ht _;exact raw (by intro l;simp only[Sh,ht]))
def i7(P:Program)(t:TypeId)(a:AV):Prop:=match P.underlying t with
 |some (.struct _)|some (.array _ _)=>∃mN l,a=.agg l∧Sh P mN t l
 |_=>∃mN,Sh P mN t [a]
theorem SS{v:Value}(h:∀cs,v≠.agg cs):v.cells=#[v]:=by
 cases v<;>first|rfl|exact absurd rfl (h _)
theorem Un{r:Reach}{b0:Nat}{t:TypeId}{v:Value}(h:Cell.okWide P w r b0 t v):∀cs,v≠.agg cs:=by
 rintro cs rfl
 simp only[Cell.okWide,Cell.ok]at h
 split at h<;>simp_all
theorem cZ{r:Reach}{b0:Nat}{t:TypeId}{v:Value}{d:DataW H}{ps:List MemPlace}(np:Value.okWide P w r b0 t v)(h:DataW.Trod enc P w base spare held t v d ps):∃a,i7 P t a∧Im Gf w a v:=by
 obtain⟨mN,h⟩:=h
 obtain⟨l,hs,hp⟩:=fi mN t _ _ h
 have one:(∀cs,v≠.agg cs)→∃a,l=[a]∧Im Gf w a v:=by
  intro xl
  rw[SS xl]at hp
  obtain⟨h1,h2⟩:=hp
  match l,h1,h2 with
  |[a],_,h2=>exact⟨a,rfl,h2 0 a v rfl rfl⟩
 have agg:∀cs,v=.agg cs→Im Gf w (.agg l) v:=by
  rintro cs rfl
  have ss:DA w l cs.toList:=hp
  have:=Im.agg (U:=Gf) (w:=w) l cs.toList ss.1 ss.2
  simpa using this
 unfold i7
 unfold Value.okWide at np
 split at np
 ·rename_i ht
  obtain⟨cs,hv,_⟩:=np
  exact⟨.agg l,(by simp only[ht];exact⟨mN,l,rfl,hs⟩),agg cs hv⟩
 ·rename_i ht
  obtain⟨cs,hv,_⟩:=np
  exact⟨.agg l,(by simp only[ht];exact⟨mN,l,rfl,hs⟩),agg cs hv⟩
 ·obtain⟨a,rfl,ha⟩:=one (Un np)
  refine⟨a,?_,ha⟩
  split
  all_goals first|exact⟨mN,hs⟩|(exfalso;simp_all)
def Jv(P:Program):List TypeId→List AV→Prop
 |[],l=>l=[]
 |t::ts,l=>∃a r,l=a::r∧i7 P t a∧Jv P ts r
theorem Pi{r:Reach}{b0:Nat}:∀{ts:List TypeId} {vs:List Value} {ds:List (DataW H)} {ps:List MemPlace},(∀(j:Nat) t v,ts[j]?=some t→vs[j]?=some v→Value.okWide P w r b0 t v)→DataW.TrodAll enc P w base spare held ts vs ds ps →
  ds.length=ts.length∧∃l,Jv P ts l∧l.length=vs.length∧∀(j:Nat) a v,l[j]?=some a→vs[j]?=some v→Im Gf w a v
 |[],[],[],ps,_,_=>⟨rfl,[],rfl,rfl,fun j a v h=>by simp at h⟩
 |[],[],_::_,ps,_,h=>h.elim
 |[],_::_,_,ps,_,h=>h.elim
 |_::_,[],_,ps,_,h=>h.elim
 |_::_,_::_,[],ps,_,h=>h.elim
 |t::ts,v::vs,d::ds,ps,np,h=>by
  obtain⟨p,q,h1,h2,_⟩:=h
  obtain⟨a,ha,hi⟩:=cZ (np 0 t v rfl rfl) h1
  obtain⟨hd,l,hl,mL,hr⟩:=Pi (ts:=ts) (vs:=vs) (fun j t v ht hv=>np (j+1) t v (by simpa using ht) (by simpa using hv)) h2
  refine⟨by simp[hd],a::l,⟨a,l,rfl,ha,hl⟩,by simp[mL],fun j x y hx hy=>?_⟩
  cases j with
  |zero=>simp at hx hy;subst hx hy;exact hi
  |succ j=>exact hr j x y (by simpa using hx) (by simpa using hy)
theorem Pj(hl:laidOutB P=true){w':World}(hb:Below w.heap.size w w'):∀{ts:List TypeId} {vs:List Value} {ds:List (DataW H)} {ps:List MemPlace},(ts.all fun t=>P.readableRec t && decide (t<P.types.size))=true→(∀x∈ps,x.block<w.heap.size) →
  DataW.TrodAll enc P w 0 (fun _=>true) true ts vs ds ps→DataW.TrodAll enc P w' 0 (fun b=>decide (b<w.heap.size)) true ts vs ds ps
 |[],[],[],ps,_,_,h=>h
 |[],[],_::_,ps,_,_,h=>h.elim
 |[],_::_,_,ps,_,_,h=>h.elim
 |_::_,[],_,ps,_,_,h=>h.elim
 |_::_,_::_,[],ps,_,_,h=>h.elim
 |t::ts,v::vs,d::ds,ps,hr,mM,h=>by
  obtain⟨p,q,h1,h2,rfl⟩:=h
  rw[List.all_cons,Bool.and_eq_true,Bool.and_eq_true]at hr
  exact⟨p,q,Below.trod hl hr.1.1 (of_decide_eq_true hr.1.2) h1 hb fun x hx=>mM x (by simp[hx]),Pj hl hb hr.2 (fun x hx=>mM x (by simp[hx])) h2,rfl⟩
theorem ca{f:Nat}{fn:Func}{s:ChangeSpec}{tb:TypeId}{handsOn:Bool}{W:World}{args:Array Value}{ds gs:List (DataW H)}{before:List MemPlace}{b0:Nat}{r:Reach}
  (hl:laidOutB P=true) (hr:(fn.params.toList.all fun t=>P.readableRec t && decide (t<P.types.size))=true) (qL:P.underlying tb=some .bool) (ut:fn.resultTypes=#[tb])
  (uP:s.vars=[]) (hs:∀ds:List (DataW H),ds.length=fn.params.toList.length→s.fn H (ds++[])={ results:=[.lit (.bool true)],args:=ds })
  (qX:∀l,Jv P fn.params.toList l→A3 P f l (.b true))
  (nL:S3 Gf W) (hval:∀(j:Nat) t v,fn.params[j]?=some t→args[j]?=some v→Value.okWide P W r b0 t v)
  (hW:DataW.Whole enc P fn.params.toList s.vars false W args.toList ds gs before) :
  Calls P f args W fun e W'=>∃v,e=.returned v∧s.post enc P fn false true handsOn false W args v W':=by
 have hW0:=hW
 obtain⟨p,q,hA,hV,rfl,hfz,vT⟩:=hW
 obtain⟨pB,l,hsh,rN,nQ⟩:=Pi (r:=r) (b0:=b0) (fun j t v ht hv=>hval j t v (by simpa using ht) (by simpa using hv)) hA
 have mM:∀x∈p++q,x.block<W.heap.size:=fun x hx=>hW0.lt x hx
 rw[uP]at hV
 obtain⟨rfl,rfl⟩:gs=[]∧q=[]:=by
  cases gs with
  |nil=>exact⟨rfl,hV⟩
  |cons a b=>exact hV.elim
 have hc:=(qX l hsh).2 Gf W args.toList (fun k hk=>hk.elim) nL rN nQ
 have ea:args.toList.toArray=args:=by simp
 rw[ea]at hc
 refine hc.mono fun e W' ⟨v,he,hi,hb⟩=>?_
 subst he
 cases hi
 refine⟨_,rfl,ds,[],p++[],[],p,[],hW0,?_,?_,?_,?_,fun h=>by cases h⟩
 ·rw[ut,hs ds pB]
  exact⟨[],[],shut_bool qL true,rfl,rfl⟩
 ·rw[hs ds pB]
  exact Pj hl hb hr (fun x hx=>mM x (by simp[hx])) hA
 ·rw[uP,hs ds pB]
  rfl
 ·exact Below.frame hb _
end
section
variable {P:Program}
theorem Zh{k:IntKind}{n:Int}(h:(Lit.int k n).wf=true):k.min≤n∧n≤k.max:=by
 simpa [Lit.wf]using h
theorem wf_u8{n:Int}(h:(Lit.int .u8 n).wf=true):0≤n∧n<256:=by
 obtain⟨h1,h2⟩:=Zh h
 have e1:IntKind.min .u8=0:=rfl
 have e2:IntKind.max .u8=255:=rfl
 omega
theorem wf_i64{n:Int}(h:(Lit.int .i64 n).wf=true):-9223372036854775808≤n∧n≤9223372036854775807:=by
 obtain⟨h1,h2⟩:=Zh h
 have e1:IntKind.min .i64=-9223372036854775808:=by decide
 have e2:IntKind.max .i64=9223372036854775807:=by decide
 omega
theorem ST{f t:Nat}{l:List AV}{k:IntKind}(ht:P.underlying t=some (.int k))(h:Sh P f t l):∃n,(Lit.int k n).wf=true∧l=[.v (.int k n)]:=by
 cases f with
 |zero=>exact h.elim
 |succ f=>simpa only[Sh,ht]using h
theorem jW{f t:Nat}{l:List AV}(ht:P.underlying t=some .string)(h:Sh P f t l):∃s,s.length≤maxLen∧l=[.str s]:=by
 cases f with
 |zero=>exact h.elim
 |succ f=>simpa only[Sh,ht]using h
theorem Ex{f t e c:Nat}{l:List AV}(ht:P.underlying t=some (.slice e))(hc:P.cellsOf e=c)(h:Sh P f t l):∃f' ls,ls.length≤maxLen∧(∀x∈ls,Sh P f' e x)∧l=[.sl c ls]∧f=f'+1:=by
 cases f with
 |zero=>exact h.elim
 |succ f =>
  simp only[Sh,ht]at h
  obtain⟨ls,h1,h2,h3⟩:=h
  exact⟨f,ls,h1,h2,by rw[h3,hc],rfl⟩
theorem Ix{f t:Nat}{l:List AV}{fs:Array Field}{ts:List Nat}(ht:P.underlying t=some (.struct fs))(hc:(Ge P (P.cellsOf t) fs.toList 0 && decide (fs.toList.map (·.type)=ts))=true)(h:Sh P f t l):∃f',fB (Sh P f') ts l∧f=f'+1:=by
 cases f with
 |zero=>exact h.elim
 |succ f =>
  simp only[Bool.and_eq_true,decide_eq_true_eq]at hc
  simp only[Sh,ht]at h
  exact⟨f,hc.2▸h hc.1,rfl⟩
def OT(P:Program)(t:Nat):Bool:=match P.underlying t with
 |some (.struct _)|some (.array _ _)=>true
 |_=>false
theorem Vp{t:Nat}{a:AV}(ht:OT P t=true)(h:i7 P t a):∃mN l,a=.agg l∧Sh P mN t l:=by
 unfold i7 at h
 unfold OT at ht
 split at ht
 ·rename_i h1;simpa only[h1]using h
 ·rename_i h1;simpa only[h1]using h
 ·cases ht
theorem Vq{t:Nat}{a:AV}(ht:OT P t=false)(h:i7 P t a):∃mN,Sh P mN t [a]:=by
 unfold i7 at h
 unfold OT at ht
 split at ht
 ·cases ht
 ·cases ht
 ·split at h
  all_goals first|exact h|(exfalso;simp_all)
theorem fj{t:Nat}{a:AV}(ht:P.underlying t=some (.int .i64))(h:i7 P t a):∃n:Int,(-9223372036854775808≤n∧n≤9223372036854775807)∧a=.i n:=by
 obtain⟨f,h⟩:=Vq (by simp[OT,ht]) h
 obtain⟨n,hw,e⟩:=ST ht h
 exact⟨n,wf_i64 hw,by simpa using e⟩
theorem Pl{t e c:Nat}{a:AV}(ht:P.underlying t=some (.slice e))(hc:P.cellsOf e=c)(h:i7 P t a):∃f ls,ls.length≤maxLen∧(∀x∈ls,Sh P f e x)∧a=.sl c ls:=by
 obtain⟨f,h⟩:=Vq (by simp[OT,ht]) h
 obtain⟨f',ls,h1,h2,h3,_⟩:=Ex ht hc h
 exact⟨f',ls,h1,h2,by simpa using h3⟩
theorem Bo{α:Type}{F:α→List AV}{R:α→Prop}:∀{ls:List (List AV)},(∀x∈ls,∃y,R y∧x=F y)→∃l:List α,ls=l.map F∧∀y∈l,R y
 |[],_=>⟨[],rfl,fun y h=>by cases h⟩
 |x::r,h=>by
  obtain⟨y,hy,e⟩:=h x (by simp)
  obtain⟨l,hl,hr⟩:=Bo (ls:=r) fun z hz=>h z (by simp[hz])
  refine⟨y::l,by simp[e,hl],fun z hz=>?_⟩
  rcases List.mem_cons.1 hz with rfl|hz
  ·exact hy
  ·exact hr z hz
abbrev O3(b:UInt8):List AV:=[.v (.int .u8 b.toNat)]
theorem Zi{t e:Nat}{a:AV}(ht:P.underlying t=some (.slice e))(he:P.underlying e=some (.int .u8))(hc:P.cellsOf e=1)(h:i7 P t a):∃l:List UInt8,l.length≤maxLen∧a=.sl 1 (l.map O3):=by
 obtain⟨f,ls,h1,h2,h3⟩:=Pl ht hc h
 obtain⟨l,hl,_⟩:=Bo (F:=O3) (R:=fun _=>True) (ls:=ls) (fun x hx=>by
  obtain⟨n,hw,e⟩:=ST he (h2 x hx)
  obtain⟨g1,g2⟩:=wf_u8 hw
  refine⟨UInt8.ofNat n.toNat,trivial,?_⟩
  rw[e,O3,UInt8.toNat_ofNat']
  rw[show ((n.toNat % 2 ^ 8:Nat):Int)=n by omega])
 exact⟨l,by rw[hl,List.length_map]at h1;exact h1,by rw[h3,hl]⟩
end
theorem XO{α:Type}{l:List UInt8}{f:UInt8→α}{k:Nat}{F:α→Prop}(h:k<l.length)(kk:∀x,l[k]?=some x→x.toNat<256→F (f x)):Q1 (l.map f) (k:Int) F:=Ag h fun x hx=>kk x hx x.toNat_lt
theorem Zj{α:Type}{l:List UInt8}{f:UInt8→α}{i:Int}{F:α→Prop}(h0:0≤i)(h:i<l.length)(kk:∀x,l[i.toNat]?=some x→x.toNat<256→F (f x)):Q1 (l.map f) i F:=o9 h0 h fun x hx=>kk x hx x.toNat_lt
theorem fk{l:List UInt8}{i:Int}{F:UInt8→Prop}(h0:0≤i)(h:i<l.length)(kk:∀x,l[i.toNat]?=some x→x.toNat<256→F x):Q1 l i F:=ZM h0 h fun x hx=>kk x hx x.toNat_lt
theorem fq{P:Program}{S T:Nat}{k':IntKind}{b:UInt8}{F:AV→Prop}[S4 P T .i64][S4 P S k'](kk:F (.v (.int .i64 b.toNat))):BA P S T (.v (.int k' b.toNat)) F:=fa (Q0 (by have:=b.toNat_lt;omega)) kk
theorem R1{P:Program}{E:Env}{n:Nat}{ops:Array Oper}{rest:List Oper}{σ:St}{K:St→Prop}{d:Nat}{ty:TypeId}{pos:String}{after:Array Edge}{T len:Nat}{parts:List (Nat×Operand)}(hd:Nat.blt d n=true)
  (h:match BP (F5 σ) parts with
   |some ps=>Eu P T fun e sz _ _=>cond (CV 0 ps && t3 sz (L4 ps) && Nat.beq ps.length len && Nat.blt 0 sz && Nat.blt e K6) (G5 (len*sz≤16777216) (Dn σ.hp ps (Mk (L4 ps) (H0 σ.nx fun nx=>B3 P E n ops rest ((σ.new (.row e sz 0 (L4 ps))).put d (.row nx 0 len)) K)))) False
   |none=>False):B3 P E n ops (⟨some d,.buildSlice T len ⟨parts⟩,ty,pos,after,none⟩::rest) σ K:=by
 split at h
 ·rename_i ps he
  obtain⟨⟨e,sz,bs,z,ts,tz,tb,hz,h⟩⟩:=h
  obtain⟨hc,h⟩:=cond_false h
  simp only[Bool.and_eq_true,Nat.beq_eq]at hc
  obtain⟨⟨⟨⟨h1,h2⟩,h3⟩,h4⟩,pf⟩:=hc
  obtain⟨h5,h⟩:=h
  obtain⟨h6,h⟩:=p7 h
  obtain⟨h7,h⟩:=EM h
  exact Mb (e:=e) (sz:=sz) (z:=z) he h6 h1 h2 h3 hz h5 (Nat.blt_eq▸h4) h7 (Nat.blt_eq▸pf) hd (E3 h)
 ·exact h.elim
def SU:AV→Bool
 |.v x=>Wy x
 |.str _|.sl _ _|.iptr _|.fn _ _=>true
 |_=>false
theorem Kh{x:AV}(h:SU x=true):c9 x:=by
 cases x<;>first|exact Ih h|trivial|cases h
theorem ld{m:List (List AV)}(h:(m.all fun el=>el.all SU)=true):∀el∈m,∀u∈el,c9 u:=fun el mI u hu =>
 Kh (List.all_eq_true.1 (List.all_eq_true.1 h el mI) u hu)
theorem ft{α:Type}{l:List α}{f:α→List AV}(h:∀x,(f x).all SU=true):∀el∈l.map f,∀u∈el,c9 u:=fun el mI u hu=>by
 obtain⟨x,_,rfl⟩:=List.mem_map.1 mI
 exact Kh (List.all_eq_true.1 (h x) u hu)
theorem E6(id:Nat){P:Program}{E:Env}{n:Nat}{ops:Array Oper}{σ:St}{Q:Exit→St→Prop}(h:Ca P E n id ops σ Q):Ca P E n id ops σ Q:=h
def Vr(o:Oper):Bool:=o.dst.isSome && match o.op with
 |.box ..|.alloc ..|.makeSlice ..|.makeMap ..|.mapUpdate ..|.store ..=>false
 |.call ⟨.builtin .append,_,_⟩=>false
 |_=>true
theorem jX{P:Program}{E:Env}{n:Nat}{ops:Array Oper}{σ:St}{id:Nat}{Q:Exit→St→Prop}[hm:Io P](hq:ops.toList.all Vr=true)(hd:EO ops=true)(h:DQ P E n ops ops.toList σ fun σ'=>Q .normal σ'):Ca P E n id ops σ Q :=
 B0 hd h
theorem R2{P:Program}{E:Env}{n:Nat}{ops:Array Oper}{σ σ':St}{id:Nat}{Q:Exit→St→Prop}(h:St.le E n σ σ')(k:Ca P E n id ops σ' Q):Ca P E n id ops σ Q:=⟨P1 h k.h⟩
def Dc(sl:List (Nat×AV)):List Nat→List (Nat×AV)
 |[]=>[]
 |s::r=>match look sl s with
  |some x=>(s,x)::Dc sl r
  |none=>Dc sl r
def m7(hp:Hp):Nat→Hp
 |0=>[]
 |i+1=>match A5 hp i with
  |some b=>(i,some b)::m7 hp i
  |none=>m7 hp i
theorem HU{sl:List (Nat×AV)}:∀{l:List Nat} {s:Nat} {x:AV},look (Dc sl l) s=some x→look sl s=some x
 |[],s,x,h=>by cases h
 |t::r,s,x,h=>by
  unfold Dc at h
  cases hx:look sl t with
  |none=>rw[hx]at h;exact HU h
  |some y =>
   rw[hx]at h
   simp only[E9]at h
   by_cases e:t=s
   ·subst e;rw[if_pos rfl]at h;rw[hx];exact h
   ·rw[if_neg e]at h;exact HU h
theorem GE{hp:Hp}:∀(m i:Nat),A5 (m7 hp m) i=if i<m then A5 hp i else none
 |0,i=>by simp[m7,A5,look]
 |m+1,i=>by
  unfold m7
  cases hx:A5 hp m with
  |none =>
   simp only
   rw[GE m i]
   by_cases e:i=m
   ·subst e;simp[hx]
   ·by_cases h:i<m
    ·rw[if_pos h,if_pos (by omega)]
    ·rw[if_neg h,if_neg (by omega)]
  |some b =>
   simp only[G4]
   by_cases e:m=i
   ·subst e;simp[hx]
   ·rw[if_neg e,GE m i]
    by_cases h:i<m
    ·rw[if_pos h,if_pos (by omega)]
    ·rw[if_neg h,if_neg (by omega)]
theorem Zk{E:Env}{n:Nat}{σ:St}(nW:List Nat):St.le E n σ ⟨Dc σ.sl nW,σ.nx,m7 σ.hp σ.nx⟩:=by
 rintro a w ⟨θ,h⟩
 have e:∀i,A5 (m7 σ.hp σ.nx) i=A5 σ.hp i:=by
  intro i
  rw[GE]
  by_cases hi:i<σ.nx
  ·rw[if_pos hi]
  ·rw[if_neg hi]
   cases hx:A5 σ.hp i with
   |none=>rfl
   |some b=>exact absurd (h.owns i b hx).1 hi
 have le:(cx E θ σ w).le (cx E θ ⟨Dc σ.sl nW,σ.nx,m7 σ.hp σ.nx⟩ w):=by
  refine⟨Nat.le_refl _,fun i hi=>.inl rfl,fun i hi e' mP v' l' hl=>⟨e',v',l',?_,.inr ⟨rfl,rfl,rfl⟩⟩,Nat.le_refl _,fun k hk _=>rfl,fun k hk hu=>?_⟩
  ·have nB:A5 (m7 σ.hp σ.nx) i=some (.row e' mP v' l'):=hl
   rw[e i]at nB;exact nB
  ·rcases hu with hu|⟨i,b,hi,nH⟩
   ·exact .inl hu
   ·have nZ:A5 (m7 σ.hp σ.nx) i=some b:=hi
    rw[e i]at nZ
    exact .inr ⟨i,b,nZ,nH⟩
 refine⟨θ,h.size,h.defers,h.fr,fun s x hs=>(h.slots s x (HU hs)).mono le,fun i b hi=>?_,fun i j b b' k hi hj=>?_,fun i b k hi=>?_,h.X,⟨h.base.1,fun i hi=>(h.base.2 i hi).imp id fun ⟨h1,h2⟩=>⟨h1,fun ⟨e',sz,v,l,hl,hk⟩=>h2 ⟨e',sz,v,l,by rw[←e i];exact hl,hk⟩⟩⟩⟩
 ·have nZ:A5 (m7 σ.hp σ.nx) i=some b:=hi
  rw[e i]at nZ
  exact⟨(h.owns i b nZ).1,(h.owns i b nZ).2.mono le rfl (fun _=>rfl) fun k _=>rfl⟩
 ·have nZ:A5 (m7 σ.hp σ.nx) i=some b:=hi
  have mi:A5 (m7 σ.hp σ.nx) j=some b':=hj
  rw[e i]at nZ
  rw[e j]at mi
  exact h.apart i j b b' k nZ mi
 ·have nZ:A5 (m7 σ.hp σ.nx) i=some b:=hi
  rw[e i]at nZ
  exact h.mine i b k nZ
def XP(σ:St)(nW:List Nat)(F:St→Prop):Prop:=Cc (Dc σ.sl nW) fun sl=>H0 σ.nx fun nx=>V3 (m7 σ.hp nx) fun hp=>F ⟨sl,nx,hp⟩
theorem Pm{σ:St}{nW:List Nat}{F:St→Prop}(h:XP σ nW F):F ⟨Dc σ.sl nW,σ.nx,m7 σ.hp σ.nx⟩:=S9 (F:=fun hp=>F ⟨Dc σ.sl nW,σ.nx,hp⟩) (E3 (F:=fun nx=>V3 (m7 σ.hp nx) fun hp=>F ⟨Dc σ.sl nW,nx,hp⟩) (m5 h))
section rules
variable {P:Program} {E:Env} {n:Nat} {ops:Array Oper} {rest:List Oper} {σ:St} {K:St→Prop} {Q:Exit→St→Prop}
theorem Ey{l:List Oper}(nW:List Nat)(h:XP σ nW fun σ'=>B3 P E n ops l σ' K):B3 P E n ops l σ K:=DG (Zk nW) (Pm (F:=fun σ'=>B3 P E n ops l σ' K) h)
theorem ce{c:Code}(nW:List Nat)(h:XP σ nW fun σ'=>Mq P E n c σ' Q):Mq P E n c σ Q:=⟨P1 (Zk nW) (Pm (F:=fun σ'=>Mq P E n c σ' Q) h).h⟩
theorem fu{o:Oper}{l:List AV}(i:Nat)(nW:List Nat)(h:XP (σ.frz i) nW fun σ'=>B3 P E n ops (o::rest) σ' K):g9 P E n ops o rest l σ K:=I4 i (Ey nW h)
end rules
class U3(G:Prop) where
 sub:Prop
 imp:sub→G
theorem mB{G:Prop}[s:U3 G](h:s.sub):G:=s.imp h
section
variable {P:Program} {E:Env} {n:Nat} {ops:Array Oper} {l:List Oper} {σ:St} {K:St→Prop} {Q:Exit→St→Prop} {c:Code} {S T f:Nat}
instance:U3 (B3 P E n ops l σ K):=⟨jJ P E n ops l σ K,DH⟩
instance:U3 (C9 P E n c σ Q):=⟨XC P E n c σ Q,ZY⟩
instance:U3 (DQ P E n ops l σ K):=⟨cQ P E n ops l σ K,lC⟩
instance {ag:Bool}{sz:Nat}{F:Bool→Nat→Prop}[G6 P T ag sz]:U3 (LT P T F):=⟨F ag sz,kq⟩
instance {z:List Value}{F:List AV→Prop}[H9 P T z]:U3 (Wv P T F):=⟨F (z.map g8),jC⟩
instance {off sz:Nat}{F:Nat→Nat→Prop}[D8 P S f off sz]:U3 (OO P S f F):=⟨F off sz,kr⟩
instance {e sz:Nat}{F:Nat→Nat→Prop}[L3 P T e sz]:U3 (IG P T F):=⟨F e sz,lY⟩
instance {len e sz:Nat}{F:Nat→Nat→Prop}[LP P T len e sz]:U3 (bn P T F):=⟨F len sz,ku (e:=e)⟩
instance {A:Prop}[j8 P T]:U3 (DZ P T A):=⟨A,jD⟩
instance {A:Prop}[Yv P T]:U3 (ep P T A):=⟨A,lZ⟩
instance {A:Prop}[Jn P T]:U3 (Mh P T A):=⟨A,fY⟩
instance {A:Prop}[Ek P T]:U3 (GY P T A):=⟨A,fV⟩
instance {A:Prop}{k1 k2 k3:IntKind}[Jo P T k1 k2 k3]:U3 (Mg P T k1 k2 k3 A):=⟨A,fW⟩
instance {A:Prop}{k:IntKind}[Ef P T k]:U3 (HI P T k A):=⟨A,kv⟩
instance {A:Prop}{k1 k2:IntKind}[HA P T k1 k2]:U3 (Mf P T k1 k2 A):=⟨A,fX⟩
instance {zs:List Value}{pl:List (Nat×Nat)}{F:List AV→List (Nat×Nat)→Prop}[H9 P T zs][K7 P T pl]:U3 (Ig P T F):=⟨F (zs.map g8) pl,fZ⟩
instance {e sz bs:Nat}{z:List Value}{F:Nat→Nat→Nat→List AV→Prop}[L3 P T e sz][H9 P e z][M5 P e bs]:U3 (Eu P T F):=⟨G5 (z.length=sz) (F e sz bs (z.map g8)),fun h=>kw h.h h.k⟩
instance {k e:Nat}{t:TypeDesc}{z:Value}{F:TypeDesc→AV→Prop}[EJ P T k e t z]:U3 (Ww P T F):=⟨F t (g8 z),ky⟩
instance (priority:=low) {α:Type}{l:List α}{F:Nat→Prop}:U3 (ON l F):=⟨F l.length,kp⟩
instance {α β:Type}{l:List β}{f:β→α}{F:Nat→Prop}:U3 (ON (l.map f) F):=⟨F l.length,fS⟩
instance (priority:=low) {k:IntKind}{m:Int}{F:AV→Prop}[S4 P S k][j8 P T]:U3 (BA P S T (.v (.int k m)) F):=⟨F (.str (Utf8.encode m).data.toList),ZO⟩
instance {k k':IntKind}{m:Int}{F:AV→Prop}[S4 P T k][S4 P S k']:U3 (BA P S T (.v (.int k' m)) F):=⟨F (.v (.int k (k.wrap m))),bo⟩
instance (priority:=high) {k':IntKind}{b:UInt8}{F:AV→Prop}[S4 P T .i64][S4 P S k']:U3 (BA P S T (.v (.int k' b.toNat)) F):=⟨F (.v (.int .i64 b.toNat)),fq⟩
variable {A B p:Prop} {b:Bool}
instance (priority:=low):U3 (P6 b true A B):=⟨(b=true→A)∧(b=false→B),fun h=>cK h.1 h.2⟩
instance (priority:=low):U3 (P6 b false A B):=⟨(b=false→A)∧(b=true→B),fun h=>cL h.1 h.2⟩
instance (priority:=low):U3 (Bf b A B):=⟨(b=true→A)∧(b=false→B),fun h=>jB h.1 h.2⟩
instance:U3 (P6 (!b) true A B):=⟨(b=false→A)∧(b=true→B),fun h=>ZW h.1 h.2⟩
instance:U3 (P6 (!b) false A B):=⟨(b=true→A)∧(b=false→B),fun h=>ZX h.1 h.2⟩
instance:U3 (Bf (!b) A B):=⟨(b=false→A)∧(b=true→B),fun h=>fU h.1 h.2⟩
instance [Decidable p]:U3 (P6 (decide p) true A B):=⟨(p→A)∧(¬p→B),fun h=>cI h.1 h.2⟩
instance [Decidable p]:U3 (P6 (decide p) false A B):=⟨(¬p→A)∧(p→B),fun h=>cJ h.1 h.2⟩
instance [Decidable p]:U3 (Bf (decide p) A B):=⟨(p→A)∧(¬p→B),fun h=>jA h.1 h.2⟩
instance (priority:=high) [Decidable p]:U3 (P6 (!decide p) true A B):=⟨(¬p→A)∧(p→B),fun h=>ZU h.1 h.2⟩
instance (priority:=high) [Decidable p]:U3 (P6 (!decide p) false A B):=⟨(p→A)∧(¬p→B),fun h=>ZV h.1 h.2⟩
instance (priority:=high) [Decidable p]:U3 (Bf (!decide p) A B):=⟨(¬p→A)∧(p→B),fun h=>fT h.1 h.2⟩
instance {F:List (Nat×AV)→Prop}:U3 (jT F):=⟨∀ex,F ex,lc⟩
variable {α β:Type}
class Pn(G:Prop) where
 side:Prop
 sub:Prop
 imp:side→sub→G
instance (priority:=low) {l:List α}{i:Int}{F:α→Prop}:Pn (Q1 l i F):=⟨0≤i∧i<l.length,∀x,l[i.toNat]?=some x→F x,fun h k=>ZM h.1 h.2 k⟩
instance {l:List β}{f:β→α}{i:Int}{F:α→Prop}:Pn (Q1 (l.map f) i F):=⟨0≤i∧i<l.length,∀x,l[i.toNat]?=some x→F (f x),fun h k=>o9 h.1 h.2 k⟩
instance (priority:=1010) {l:List β}{f:β→α}{k:Nat}{F:α→Prop}:Pn (Q1 (l.map f) (k:Int) F):=⟨0≤k∧k<l.length,∀x,l[k]?=some x→F (f x),fun h kk=>Ag h.2 kk⟩
instance (priority:=1020) {l:List UInt8}{i:Int}{F:UInt8→Prop}:Pn (Q1 l i F):=⟨0≤i∧i<l.length,∀x,l[i.toNat]?=some x→x.toNat<256→F x,fun h k=>fk h.1 h.2 k⟩
instance (priority:=1020) {l:List UInt8}{f:UInt8→α}{i:Int}{F:α→Prop}:Pn (Q1 (l.map f) i F):=⟨0≤i∧i<l.length,∀x,l[i.toNat]?=some x→x.toNat<256→F (f x),fun h k=>Zj h.1 h.2 k⟩
instance (priority:=high) {l:List UInt8}{f:UInt8→α}{k:Nat}{F:α→Prop}:Pn (Q1 (l.map f) (k:Int) F):=⟨0≤k∧k<l.length,∀x,l[k]?=some x→x.toNat<256→F (f x),fun h kk=>XO h.2 kk⟩
instance {e sz:Nat}{l:List UInt8}{F:AV→Prop}[L3 P S e sz][S4 P e .u8][j8 P T]:U3 (BA P S T (.sl 1 (l.map fun b=>[.v (.int .u8 b.toNat)])) F):=⟨F (.str l),ZN (e:=e) (sz:=sz)⟩
instance {e sz:Nat}{l:List UInt8}{F:AV→Prop}[j8 P S][L3 P T e sz][S4 P e .u8]:Pn (BA P S T (.str l) F):=⟨0≤l.length∧l.length≤9223372036854775807,F (.sl 1 (l.map fun b=>[.v (.int .u8 b.toNat)])),fun h k=>Wx (e:=e) (sz:=sz) h.2 k⟩
class jY(G:Prop)(α β:outParam Type)(l:outParam (List β))(f:outParam (β→α))(i:outParam Int)(F:outParam (α→Prop)):Prop where
 eq:G=Q1 (l.map f) i F
instance {l:List β}{f:β→α}{i:Int}{F:α→Prop}:jY (Q1 (l.map f) i F) α β l f i F:=⟨rfl⟩
class cg(G:Prop)(α:outParam Type)(l:outParam (List α))(i:outParam Int)(F:outParam (α→Prop)):Prop where
 eq:G=Q1 l i F
instance {l:List α}{i:Int}{F:α→Prop}:cg (Q1 l i F) α l i F:=⟨rfl⟩
theorem Z1{G:Prop}{l:List β}{f:β→α}{i:Int}{x:β}{F:α→Prop}[s:jY G α β l f i F](kk:F (f x))(h:l[i.toNat]?=some x:=by assumption)(h0:0≤i:=by omega):G:=s.eq▸A2 h h0 kk
theorem Z2{G:Prop}{l:List α}{i:Int}{x:α}{F:α→Prop}[s:cg G α l i F](kk:F x)(h:l[i.toNat]?=some x:=by assumption)(h0:0≤i:=by omega):G:=s.eq▸EL h h0 kk
class jZ(G:Prop)(p A:outParam Prop):Prop where
 imp:p→A→G
instance:jZ (G5 p A) p A:=⟨I6⟩
theorem Z3{G:Prop}[s:jZ G p A](k:A)(h:p:=by first|omega|exact Eq.refl _|exact⟨Eq.refl _,by omega⟩|(simp only[List.length_map];omega)|exact ld rfl|exact ft fun _=>rfl|(constructor<;>(simp only[L4,K2,List.length_cons,List.length_nil,List.length_map];omega))):G:=s.imp h k
theorem Z4{G:Prop}[s:Pn G](k:s.sub)(h:s.side:=by (conv=>whnf);omega):G:=s.imp h k
class Vs(G:Prop) where
 side:Prop
 sub:Prop
 imp:side→sub→G
instance {mN:Nat}{l:List Bool}:Vs (C7 P E n ops mN l σ K):=⟨Nat.beq l.length ops.size=true∧Region.noSelect ops=true,jP P E n ops mN l σ K,fun h k=>fc h.2 h.1 k⟩
instance {done:List Bool}{mb:List MB}:Vs (D1 P E n ops done mb σ K):=⟨Nat.beq done.length ops.size=true∧Gc ops=true,jU P E n ops done mb σ K,fun h k=>Pg h.1 h.2 k⟩
instance {done:List Bool}{mb:List MB}{base:List (Nat×AV)}{k:Nat}{ex:List (Nat×AV)}{σ':St}:Vs (Mv P E n ops done mb K base k ex σ') :=
 ⟨(σ'.sl,(AD mb).map (look (σ'.sl.take k)),Db n (σ'.sl.take k) mb)=(σ'.sl.take k++ex,(AD mb).map (look base),true)∧true=true,
  Cc (σ'.sl.take k) fun wZ=>V3 σ'.hp fun hp2=>H0 σ'.nx fun ry=>Js done fun sV=>RG mb fun zM=>D1 P E n ops sV zM ⟨wZ,ry,hp2⟩ K,
  fun h k=>fh (congrArg (·.1) h.1) (congrArg (·.2.1) h.1) (congrArg (·.2.2) h.1) k⟩
instance {id:Nat}[hm:Io P]:Vs (Ca P E n id ops σ Q):=⟨ops.toList.all Vr=true∧EO ops=true,DQ P E n ops ops.toList σ fun σ'=>Q .normal σ',fun h k=>jX h.1 h.2 k⟩
theorem Z5{G:Prop}[s:Vs G](k:s.sub)(h:s.side:=by exact⟨by rfl,by kernel_rfl⟩):G:=s.imp h k
theorem S1{G H:Prop}(k:H)(h:H→G:=by first|exact cE|exact cF|exact cG|exact cH|exact iy|exact iz|exact ZY|exact mB):G:=h k
theorem B5{f:Nat}{fn:Func}{code:Code}{args:List AV}{r:AV}{rs:Array ResultVar}(hf:P.funcs[f]?=some fn)(n:Nat)
  (h : (∀ a ∈ args,Rd a) → ∀ E,E.n0 = 0 → C9 P E n code ⟨BB args 0,0,[]⟩ (D0 P rs r)) (oF : (fn.name == "runtime.NumGoroutine") = false := by kernel_rfl) (hb : fn.body = some code := by rfl) (hn : fn.ntmps = n := by rfl) (rm : fn.results = rs := by rfl)
  (mm:Nat.ble args.length n=true:=by rfl) (mf:J1 r=true:=by rfl) (oQ:∀t T,rs=#[.cell t T]→∃sz,G6 P T true sz∧∀l,r=.agg l→l.length=sz:=by intro t T h;cases h):A3 P f args r :=
 Ke hf oF hb hn rm mm mf oQ h
theorem Y6{f:Nat}{fn:Func}{code:Code}{args:List AV}{r:AV}{rs:Array ResultVar}{m0 m1:Nat}{hp0 hp1:Hp}(hf:P.funcs[f]?=some fn)(n:Nat)
  (h : ∀ E,E.n0 = m0 → C9 P E n code ⟨BB args 0,m0,hp0⟩ (C6 P E n rs m1 hp1 r)) (oF : (fn.name == "runtime.NumGoroutine") = false := by kernel_rfl) (hb : fn.body = some code := by rfl) (hn : fn.ntmps = n := by rfl) (rm : fn.results = rs := by rfl)
  (mm:Nat.ble args.length n=true:=by rfl):B7 P f m0 hp0 args m1 hp1 r :=
 Ui hf oF hb hn rm mm h
theorem nc{d f:Nat}{xs:List Operand}{ts:Array TypeId}{L args l:List AV}{r:AV}{m0 m1:Nat}{hp0 hp1:Hp}{ty:TypeId}{pos:String}{after:Array Edge}{rest:List Oper}(ι off:List Nat)(hc:B7 P f m0 hp0 args m1 hp1 r)
  (om:m4 (F5 σ) xs=some L) (hL:Ah (K3 ι) (K3 off) args=L) (hB:(V0 m0 args && Nat.beq ι.length m0 && Cd ι σ.nx && Ai hp0 hp1 m0 && K8 m0 hp0 && K8 m1 hp1 && Nat.ble m0 m1 && Nat.blt d n)=true) (nF:Da σ.hp hp0 ι off m0)
  (k:V2 (N9 (gρ ι m0 σ.nx) (gs ι m0 σ.hp) r) fun r2=>V3 (V4 (gρ ι m0 σ.nx) (gs ι m0 σ.hp) hp1++σ.hp) fun hp2=>H0 (σ.nx+(m1-m0)) fun ry=>B3 P E n ops rest (St.put ⟨σ.sl,ry,hp2⟩ d r2) K) :
  g9 P E n ops ⟨some d,.call ⟨.value (.func f),⟨xs⟩,ts⟩,ty,pos,after,none⟩ rest l σ K:=by
 simp only[Bool.and_eq_true]at hB
 obtain⟨⟨⟨⟨⟨⟨⟨h1,h2⟩,h3⟩,h4⟩,h5⟩,h6⟩,h7⟩,h8⟩:=hB
 exact⟨F7 ι off hc om hL h1 h2 h3 nF h4 h5 h6 h7 h8 k⟩
end
theorem S2{G H:Prop}(k:H)(h:PLift H→G:=by intro k;(first|refine DH ?_|refine S1 ?_|refine Z1 ?_|refine Z2 ?_|refine Z3 ?_|refine Z4 ?_|refine Z5 ?_|(refine jS ?_ ?_;exact⟨by kernel_rfl,by decide⟩)|(refine Pg ?_ ?_ ?_;kernel_rfl;kernel_rfl));(try (conv=>whnf));exact k.down):G:=h ⟨k⟩
theorem V1{c A:Prop}(h:c)(f:c→False:=by first|(intro h0;omega)|exact absurd rfl):A:=(f h).elim
theorem T5{G A B:Prop}(a:A)(b:B)(h:A→B→G:=by first|exact jR|exact fg):G:=h a b
theorem T6{a b:Prop}(x:a)(y:b):a∧b:=⟨x,y⟩
theorem T4{G:Prop}(h:G:=by first|exact jQ|exact ff):G:=h
theorem A6{E:Env}{n m:Nat}{σ σ':St}(h0:E.n0=m)(hm:Nat.ble m σ'.nx=true:=by rfl)(hs:HG σ σ'.hp σ'.sl:=by repeat' (first|exact trivial|exact rfl|refine And.intro ?_ ?_|exact⟨_,rfl⟩))(hh:EK σ σ'.hp σ'.hp:=by repeat' (first|exact trivial|exact rfl|refine And.intro ?_ ?_|exact⟨_,rfl⟩))(hn:Nat.ble σ'.nx σ.nx=true:=by rfl)(hl:Rr σ'.nx σ'.sl=true:=by rfl)(hb:K8 σ'.nx σ'.hp=true:=by rfl):St.le E n σ σ':=A7 h0 hm hs hh hn hl hb
end Go.Av
