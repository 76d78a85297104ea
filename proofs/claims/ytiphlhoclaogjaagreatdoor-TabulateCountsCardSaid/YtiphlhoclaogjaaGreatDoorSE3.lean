/- Regions that draw their order, of quiet operations. Blocks under other numbers; calls that are handed memory of one's own. Regions that draw their order and write: every order, pure operations first. Regions that draw their order: what only makes or reads what nobody writes may happen at any time. What came in, read as abstract values; and a law's contract out of a call. One word for many steps of the walk: what a goal asks instead. -/
import Derived.Test.YtiphlhoclaogjaaGreatDoorSE2
import Derived.Orders
import Derived.Carry
import Derived.RowKit
import Derived.OpenShut
import Derived.KernelRfl
set_option linter.unusedSimpArgs false
set_option linter.unusedVariables false
set_option linter.unnecessarySimpa false
set_option maxHeartbeats 64000000
namespace Go.Av
open Go Go.RowKit
class JC(P:Program):Prop where
 out:P.follows .mixedOrders=true
section congr
variable {P:Program} {hp:Hp} {ev ev':Operand→Option AV} {F:AV→Prop}
theorem Fi:∀{l:List Operand},(∀x∈l,ev x=ev' x)→l8 ev l=l8 ev' l
 |[],_=>rfl
 |x::r,h=>by simp only[l8,h x (by simp),Fi (l:=r) fun y hy=>h y (by simp[hy])]
theorem JD:∀{l:List (Nat×Operand)},(∀x∈l.map (·.2),ev x=ev' x)→Bo ev l=Bo ev' l
 |[],_=>rfl
 |(i,x)::r,h=>by simp only[Bo,h x (by simp),JD (l:=r) fun y hy=>h y (by simp at hy ⊢;exact .inr hy)]
theorem Pf{m:Nat}{o:Option Operand}(h:∀x,o=some x→ev x=ev' x):Ar ev m o=Ar ev' m o:=by
 cases o with
 |none=>rfl
 |some x=>simp only[Ar,h x rfl]
theorem ZX{op:Op}(h:∀x∈op.operands.toList,ev x=ev' x)(ho:Fh P op ev hp F):Fh P op ev' hp F:=by
 unfold Fh at ho
 split at ho
 ·rename_i x;rw[h x (by simp[Op.operands])]at ho;exact ho
 ·rename_i x;rw[h x (by simp[Op.operands])]at ho;exact ho
 ·rename_i c a b
  rw[h c (by simp[Op.operands]),h a (by simp[Op.operands]),h b (by simp[Op.operands])]at ho;exact ho
 ·rename_i op T x y T2;rw[h x (by simp[Op.operands]),h y (by simp[Op.operands])]at ho;exact ho
 ·rename_i T x;rw[h x (by simp[Op.operands])]at ho;exact ho
 ·rename_i T x;rw[h x (by simp[Op.operands])]at ho;exact ho
 ·rename_i T x;rw[h x (by simp[Op.operands])]at ho;exact ho
 ·rename_i S x f;rw[h x (by simp[Op.operands])]at ho;exact ho
 ·rename_i T x y;rw[h x (by simp[Op.operands]),h y (by simp[Op.operands])]at ho;exact ho
 ·rename_i T x y;rw[h x (by simp[Op.operands]),h y (by simp[Op.operands])]at ho;exact ho
 ·rename_i x;rw[h x (by simp[Op.operands])]at ho;exact ho
 ·rename_i S T x;rw[h x (by simp[Op.operands])]at ho;exact ho
 ·rename_i x T;rw[h x (by simp[Op.operands,Call.operands])]at ho;exact ho
 ·rename_i x y T U;rw[h x (by simp[Op.operands,Call.operands]),h y (by simp[Op.operands,Call.operands])]at ho;exact ho
 ·rename_i x y T U;rw[h x (by simp[Op.operands,Call.operands]),h y (by simp[Op.operands,Call.operands])]at ho;exact ho
 ·rename_i f args ts
  rw[Fi (ev':=ev') (fun x hx=>h x (by simp[Op.operands,Call.operands];exact .inr hx))]at ho;exact ho
 ·rename_i t args ts
  rw[h (.tmp t) (by simp[Op.operands,Call.operands]),Fi (ev':=ev') (fun x hx=>h x (by simp[Op.operands,Call.operands];exact .inr hx))]at ho;exact ho
 ·rename_i T parts
  rw[JD (ev':=ev') (fun x hx=>h x (by simpa [Op.operands]using hx))]at ho;exact ho
 ·rename_i T len parts
  rw[JD (ev':=ev') (fun x hx=>h x (by simpa [Op.operands]using hx))]at ho;exact ho
 ·rename_i T x y ok;rw[h x (by simp[Op.operands]),h y (by simp[Op.operands])]at ho;exact ho
 ·rename_i T x lo hi
  have e1:∀m,Ar ev m lo=Ar ev' m lo:=fun m=>Pf fun y hy=>h y (by subst hy;simp[Op.operands])
  have e2:∀m,Ar ev m hi=Ar ev' m hi:=fun m=>Pf fun y hy=>h y (by subst hy;simp[Op.operands])
  unfold Mv at ho
  simp only[e1,e2]at ho
  rw[h x (by simp[Op.operands])]at ho
  exact ho
 ·rename_i x k;rw[h x (by simp[Op.operands])]at ho;exact ho
 ·rename_i f xs
  rw[Fi (ev':=ev') (fun x hx=>h x (by simpa [Op.operands]using hx))]at ho;exact ho
 ·exact ho.elim
end congr
def JE(f:Nat→Option AV):Operand→Option AV
 |.tmp t=>f t
 |.const c=>some (b6 c)
 |.global g=>some (Wi g)
 |.func f=>some (.v (.func (.func f) #[] #[]))
theorem OY(σ:St):F3 σ=JE (look σ.sl):=by funext x;cases x<;>rfl
open Classical in
noncomputable def rs(op:Op)(ev:Operand→Option AV):Operand→Option AV:=fun x=>if x∈op.operands.toList then ev x else none
def Cs(f:Nat→Option AV)(d:Nat)(a:AV):Nat→Option AV:=fun s=>if d=s then some a else f s
section quiet
variable {P:Program} {E:Env} {n nx:Nat} {hp:Hp} {ev:Operand→Option AV} {ops:Array Oper} {σ:St} {K:(Nat→Option AV)→Prop} {f f':Nat→Option AV}
theorem cH{op:Op}{ty:Nat}{av:AV}{ev ev':Operand→Option AV}(h:∀x a,ev x=some a→ev' x=some a)(hq:G7 P E nx hp ev op ty av):G7 P E nx hp ev' op ty av :=
 fun d pos after θ a w K hs hk=>hq d pos after θ a w K ⟨hs.fr,hs.owns,hs.X,fun hx=>hs.rel (h _ _ hx),hs.apart,hs.fresh,hs.tab⟩ hk
theorem ZY{op:Op}{ty:Nat}{F:AV→Prop}(h:Fh P op ev hp F):∃av,G7 P E nx hp (rs op ev) op ty av∧F av :=
 eR (ZX (fun x hx=>by simp[rs,hx]) h)
def QS(P:Program)(E:Env)(nx:Nat)(hp:Hp)(ops:Array Oper)(o:Oper)(f:Nat→Option AV)(av:AV):Prop :=
 match o.guard with
 |none=>G7 P E nx hp (rs o.op (JE f)) o.op o.type av
 |some (j,g)=>∃dj,(ops[j]?).bind (·.dst)=some dj∧((f dj=some (.v (.bool g))∧G7 P E nx hp (rs o.op (JE f)) o.op o.type av)∨(f dj=some (.v (.bool (!g)))∧av=.v undef)∨∃t,f dj=some (.v (.tuple t))∧av=.v undef)
theorem cI{op:Op}(h:∀x∈op.operands.toList,JE f x=JE f' x):rs op (JE f)=rs op (JE f'):=by
 funext x
 unfold rs
 split
 ·rename_i hx;exact h x hx
 ·rfl
theorem QS.congr{o:Oper}{av:AV}(h:∀d∈o.looksAt ops,f d=f' d)(hq:QS P E nx hp ops o f av):QS P E nx hp ops o f' av:=by
 have hr:rs o.op (JE f)=rs o.op (JE f'):=cI fun x hx=>by
  cases x with
  |tmp t=>exact h t (List.mem_append_left _ (List.mem_filterMap.2 ⟨.tmp t,hx,rfl⟩))
  |_=>rfl
 unfold QS at hq ⊢
 split at hq
 ·rw[←hr];exact hq
 ·rename_i j g hg
  obtain⟨dj,hj,hq⟩:=hq
  have hd:f dj=f' dj:=h dj (by simp[Oper.looksAt,hg,hj])
  refine⟨dj,hj,?_⟩
  rw[←hr,←hd]
  exact hq
def QW(P:Program)(E:Env)(n nx:Nat)(hp:Hp)(ops:Array Oper):List Oper→(Nat→Option AV)→((Nat→Option AV)→Prop)→Prop
 |[],f,K=>K f
 |o::r,f,K=>∃d av,o.dst=some d∧d<n∧QS P E nx hp ops o f av∧QW P E n nx hp ops r (Cs f d av) K
theorem ZZ{d e:Nat}{a b:AV}(h:d≠e):Cs (Cs f d a) e b=Cs (Cs f e b) d a:=by
 funext s
 unfold Cs
 by_cases h1:e=s
 ·subst h1;simp[h]
 ·simp[h1]
theorem QW.swap{x y:Oper}{r:List Oper}(od:x.apart ops y=true)(h:QW P E n nx hp ops (x::y::r) f K):QW P E n nx hp ops (y::x::r) f K:=by
 obtain⟨dx,ax,xi,mE,hqx,dy,ay,yB,zY,zZ,hr⟩:=h
 obtain⟨h1,h2,h3⟩:=Oper.apart_spec od
 have hne:dx≠dy:=fun e=>h2 dx xi (e▸yB)
 have hy:QS P E nx hp ops y f ay:=zZ.congr fun s hs=>by
  have:dx≠s:=fun e=>h1 dx xi (e▸hs)
  simp[Cs,this]
 have hx:QS P E nx hp ops x (Cs f dy ay) ax:=hqx.congr fun s hs=>by
  have:dy≠s:=fun e=>h3 dy yB (e▸hs)
  simp[Cs,this]
 exact⟨dy,ay,yB,zY,hy,dx,ax,xi,mE,hx,by rw[←ZZ hne];exact hr⟩
theorem QW.first{o:Oper}:∀{pre post:List Oper} {f:Nat→Option AV},(∀p∈pre,p.apart ops o=true)→QW P E n nx hp ops (pre++o::post) f K→QW P E n nx hp ops (o::(pre++post)) f K
 |[],post,f,_,h=>h
 |p::pre,post,f,od,h=>by
  obtain⟨d,av,hd,hn,hq,hr⟩:=h
  have:=QW.first (pre:=pre) (fun q hq=>od q (by simp[hq])) hr
  exact QW.swap (od p (by simp)) ⟨d,av,hd,hn,hq,this⟩
def eU(ops:Array Oper)(i j:Nat):Bool :=
 match ops[i]?,ops[j]? with
 |some oi,some oj=>oi.after.any (fun e=>Region.binds .any e && Nat.beq e.on j) || oj.apart ops oi
 |_,_=>true
def eV(ops:Array Oper)(i:Nat):Bool :=
 match ops[i]? with
 |some o=>o.after.all fun e=>!Region.binds .any e || Nat.blt e.on i
 |none=>true
def EV(ops:Array Oper):Bool:=(List.range ops.size).all fun i=>eV ops i && (List.range i).all fun j=>eU ops i j
theorem XF(h:EV ops=true){i j:Nat}{oi oj:Oper}(sE:j<i)(hi:ops[i]?=some oi)(hj:ops[j]?=some oj):(∃e∈oi.after,Region.binds .any e=true∧e.on=j)∨oj.apart ops oi=true:=by
 have lY:i<ops.size:=(Array.getElem?_eq_some_iff.1 hi).1
 unfold EV at h
 rw[List.all_eq_true]at h
 have h1:=h i (List.mem_range.2 lY)
 rw[Bool.and_eq_true,List.all_eq_true]at h1
 have h2:=h1.2 j (List.mem_range.2 sE)
 unfold eU at h2
 rw[hi,hj]at h2
 simp only[Bool.or_eq_true]at h2
 rcases h2 with h2|h2
 ·left
  obtain⟨k,hk,h3⟩:=Array.any_eq_true.1 h2
  simp only[Bool.and_eq_true]at h3
  exact⟨oi.after[k],Array.getElem_mem hk,h3.1,Nat.eq_of_beq_eq_true h3.2⟩
 ·exact .inr h2
theorem XG(h:EV ops=true){i:Nat}{oi:Oper}(hi:ops[i]?=some oi):∀e∈oi.after,Region.binds .any e=true→e.on<i:=by
 have lY:i<ops.size:=(Array.getElem?_eq_some_iff.1 hi).1
 unfold EV at h
 rw[List.all_eq_true]at h
 have h1:=h i (List.mem_range.2 lY)
 rw[Bool.and_eq_true]at h1
 have h2:=h1.1
 unfold eV at h2
 rw[hi]at h2
 intro e he hb
 simp only[Array.all_eq_true_iff_forall_mem,Bool.or_eq_true]at h2
 have:=h2 e he
 rw[hb]at this
 simpa [Nat.blt_eq]using this
def left(ops:Array Oper)(listed:Array Bool):List Nat:=(List.range ops.size).filter fun i=>!listed.getD i true
def XH(E:Env)(n nx:Nat)(hp:Hp)(f:Nat→Option AV)(a:Act)(w:World):Prop:=∃σ:St,(∀s,look σ.sl s=f s)∧σ.nx=nx∧σ.hp=hp∧j4 E n σ a w
theorem kJ{o:Oper}{d:Nat}{av:AV}{a:Act}{w:World}{Q:Exit→Act→World→Prop}{C:Act→World→Prop}{i:Nat}(hi:ops[i]?=some o)(hd:o.dst=some d)(hn:d<n)(hq:QS P E nx hp ops o f av)(hs:XH E n nx hp f a w)
  (hk:∀a' w',XH E n nx hp (Cs f d av) a' w'→C a' w'):wpOp P ops Q i C a w:=by
 obtain⟨σ,hl,rfl,rfl,θ,hs⟩:=hs
 have ns:JE f=F3 σ:=by rw[OY];congr 1;funext s;exact(hl s).symm
 have step:∀{v:Value} {w':World},Below w.heap.size w w'→D7 (cx E θ σ w') av v→C (a.put (some d) v) w':=fun hb hr =>
  hk _ _ ⟨σ.put d av,fun s=>by simp only[St.put,E6,Cs,hl],rfl,rfl,θ,(hs.below hb).put hn hr⟩
 unfold wpOp
 simp only[hi]
 have sy:∀{t:Nat} {b:Bool},f t=some (.v (.bool b))→a.tmps[t]?=some (.bool b):=by
  intro t b hb
  have h1:=(hs.slots t _ (by rw[hl];exact hb)).val
  rw[Array.getD_eq_getD_getElem?]at h1
  cases hg:a.tmps[t]? with
  |none=>rw[hg]at h1;exact absurd h1 (by simp[undef])
  |some v=>rw[hg]at h1;simp at h1;rw[h1]
 have run:G7 P E σ.nx σ.hp (rs o.op (JE f)) o.op o.type av→o.wp P a w C Q:=by
  intro hq
  have xJ:G7 P E σ.nx σ.hp (F3 σ) o.op o.type av:=cH (fun x b hx=>by
   unfold rs at hx
   split at hx
   ·rw[←ns];exact hx
   ·cases hx) hq
  have hv:=xJ o.dst o.pos o.after θ a w (fun v w'=>Below w.heap.size w w'∧D7 (cx E θ σ w') av v) hs.evT fun v w' hb hr=>⟨hb,hr⟩
  have wV:Ii P o a w (fun v w'=>Below w.heap.size w w'∧D7 (cx E θ σ w') av v):=by
   have e:Ii P o a w=Ii P ⟨o.dst,o.op,o.type,o.pos,o.after,none⟩ a w:=by
    funext K
    unfold Ii
    have:execOp a.eval o=execOp a.eval ⟨o.dst,o.op,o.type,o.pos,o.after,none⟩:=by
     obtain⟨_,op,_,_,_,_⟩:=o
     cases op<;>rfl
    rw[this]
   rw[e]
   exact hv
  exact RZ wV fun v w' hv=>by rw[hd];exact step hv.1 hv.2
 unfold QS at hq
 split at hq
 ·rename_i hg
  rw[if_pos (by simp[Region.wanted,hg])]
  exact .inl (run hq)
 ·rename_i j g hg
  obtain⟨dj,hj,hq⟩:=hq
  rcases hq with ⟨hb,hq⟩|⟨hb,rfl⟩|⟨t,hb,rfl⟩
  ·have:yielded ops a.tmps j=some g:=by simp[yielded,hj,sy hb]
   rw[if_pos (by simp[Region.wanted,hg,this])]
   exact .inl (run hq)
  ·have:yielded ops a.tmps j=some (!g):=by simp[yielded,hj,sy hb]
   rw[if_neg (by simp[Region.wanted,hg,this])]
   rw[hd]
   exact step (Below.refl _ _) (.im (.v _))
  ·have:yielded ops a.tmps j=none:=by
    have h1:=(hs.slots dj _ (by rw[hl];exact hb)).val
    rw[Array.getD_eq_getD_getElem?]at h1
    unfold yielded
    rw[hj]
    simp only[Option.bind_some]
    cases hg:a.tmps[dj]? with
    |none=>rfl
    |some v=>rw[hg]at h1;simp at h1;rw[h1]
   rw[if_neg (by simp[Region.wanted,hg,this])]
   rw[hd]
   exact step (Below.refl _ _) (.im (.v _))
theorem DR(p:Nat→Bool)(m:Nat){pre post:List Nat}{i:Nat}(h:(List.range m).filter p=pre++i::post):(∀j∈pre,j<i)∧i∉pre∧i∉post:=by
 have hs:((List.range m).filter p).Pairwise (·<·):=List.Pairwise.filter _ (List.pairwise_lt_range)
 rw[h,List.pairwise_append]at hs
 obtain⟨_,h2,h3⟩:=hs
 rw[List.pairwise_cons]at h2
 have h4:∀j∈pre,j<i:=fun j hj=>h3 j hj i (by simp)
 exact⟨h4,fun hc=>Nat.lt_irrefl _ (h4 i hc),fun hc=>Nat.lt_irrefl _ (h2.1 i hc)⟩
theorem SH{listed:Array Bool}{i:Nat}{pre post:List Nat}(h:left ops listed=pre++i::post):left ops (listed.setIfInBounds i true)=pre++post:=by
 obtain⟨_,h2,h3⟩:=DR _ _ h
 have e:left ops (listed.setIfInBounds i true)=(left ops listed).filter (fun j=>decide (j≠i)):=by
  unfold left
  rw[List.filter_filter]
  congr 1
  funext j
  by_cases hj:j=i
  ·subst hj
   by_cases lY:j<listed.size
   ·simp[Array.getD,lY]
   ·simp[Array.getD,lY]
  ·have:(listed.setIfInBounds i true).getD j true=listed.getD j true:=by
    rw[Array.getD_eq_getD_getElem?,Array.getD_eq_getD_getElem?,Array.getElem?_setIfInBounds_ne (Ne.symm hj)]
   rw[this]
   simp[hj]
 rw[e,h,List.filter_append,List.filter_cons_of_neg (by simp)]
 congr 1
 ·exact List.filter_eq_self.2 fun j hj=>by simp;exact fun e=>h2 (e▸hj)
 ·exact List.filter_eq_self.2 fun j hj=>by simp;exact fun e=>h3 (e▸hj)
def opsOf(ops:Array Oper)(l:List Nat):List Oper:=l.filterMap fun i=>ops[i]?
theorem NA{listed:Array Bool}{j:Nat}(hj:j∈Region.ready .any ops listed):j∈left ops listed:=by
 obtain⟨h1,o,ho,_⟩:=mem_ready.1 hj
 exact List.mem_filter.2 ⟨List.mem_range.2 (Array.getElem?_eq_some_iff.1 ho).1,by rw[h1];rfl⟩
theorem JF(l m:List Nat):opsOf ops (l++m)=opsOf ops l++opsOf ops m:=List.filterMap_append ..
theorem XI{i:Nat}{o:Oper}(h:ops[i]?=some o)(m:List Nat):opsOf ops (i::m)=o::opsOf ops m:=by simp[opsOf,h]
theorem cJ(uM:EV ops=true){listed:Array Bool}(hsz:listed.size=ops.size){i:Nat}{r:List Nat}(h:left ops listed=i::r):i∈Region.ready .any ops listed:=by
 have hi:i∈left ops listed:=by rw[h];simp
 obtain⟨h1,h2⟩:=List.mem_filter.1 hi
 have lY:=List.mem_range.1 h1
 refine mem_ready.2 ⟨by simpa using h2,ops[i],Array.getElem?_eq_getElem lY,fun e he hb=>?_⟩
 have pf:=XG uM (Array.getElem?_eq_getElem lY) e he hb
 cases hx:listed.getD e.on false with
 |true=>rfl
 |false =>
  exfalso
  have oq:e.on<listed.size:=by omega
  have ox:listed.getD e.on true=false:=by
   simp[Array.getD,oq]at hx ⊢;exact hx
  have hm:e.on∈left ops listed:=List.mem_filter.2 ⟨List.mem_range.2 (by omega),by rw[ox];rfl⟩
  have hs:(left ops listed).Pairwise (·<·):=List.Pairwise.filter _ (List.pairwise_lt_range)
  rw[h]at hm hs
  rcases List.mem_cons.1 hm with h3|h3
  ·omega
  ·have:=(List.pairwise_cons.1 hs).1 _ h3
   omega
theorem ii(uM:EV ops=true){Q:Exit→Act→World→Prop}(hK:∀f' a' w',K f'→XH E n nx hp f' a' w'→Q .normal a' w'):∀(lZ:Nat) (listed:Array Bool) (f:Nat→Option AV) (a:Act) (w:World),listed.size=ops.size →
  (left ops listed).length≤lZ→QW P E n nx hp ops (opsOf ops (left ops listed)) f K→XH E n nx hp f a w→wpAny P .any ops Q lZ listed a w:=by
 intro lZ
 induction lZ with
 |zero =>
  intro listed f a w hsz lX hq hs
  have nZ:left ops listed=[]:=List.eq_nil_of_length_eq_zero (by omega)
  rw[nZ]at hq
  refine⟨?_,hK f a w hq hs⟩
  cases hr:Region.ready .any ops listed with
  |nil=>rfl
  |cons j r=>have:=NA (ops:=ops) (listed:=listed) (j:=j) (by rw[hr];simp);rw[nZ]at this;cases this
 |succ lZ ih =>
  intro listed f a w hsz lX hq hs
  refine⟨fun hr=>?_,fun i hi=>?_⟩
  ·cases hl:left ops listed with
   |nil=>rw[hl]at hq;exact hK f a w hq hs
   |cons i r=>have:=cJ uM hsz hl;rw[hr]at this;cases this
  ·obtain⟨pre,post,oD⟩:=List.append_of_mem (NA hi)
   obtain⟨wT,oi,yG,xy⟩:=mem_ready.1 hi
   have xT:=(DR _ _ oD).1
   rw[oD,JF,XI yG]at hq
   have xJ:=QW.first (fun p hp=>by
    obtain⟨j,hj,wl⟩:=List.mem_filterMap.1 hp
    rcases XF uM (xT j hj) yG wl with ⟨e,he,hb,rfl⟩|h
    ·exfalso
     have h1:=xy e he hb
     have h2:e.on∈left ops listed:=by rw[oD];simp[hj]
     have h3:=(List.mem_filter.1 h2).2
     have h4:listed.getD e.on true=false:=by simpa using h3
     by_cases lY:e.on<listed.size
     ·simp[Array.getD,lY]at h1 h4;rw[h1]at h4;cases h4
     ·simp[Array.getD,lY]at h1
    ·exact h) hq
   obtain⟨d,av,hd,hn,hqs,hr⟩:=xJ
   refine kJ yG hd hn hqs hs fun a' w' mg=>ih _ _ a' w' (by simpa using hsz) ?_ ?_ mg
   ·rw[SH oD]
    rw[oD]at lX
    simp at lX ⊢
    omega
   ·rw[SH oD,JF]
    exact hr
def DQ(P:Program)(E:Env)(n:Nat)(ops:Array Oper)(l:List Oper)(σ:St)(K:St→Prop):Prop :=
 QW P E n σ.nx σ.hp ops l (look σ.sl) fun f=>∃τ:St,(∀s,look τ.sl s=f s)∧τ.nx=σ.nx∧τ.hp=σ.hp∧K τ
theorem cK(σ:St)(d:Nat)(a:AV):look (σ.put d a).sl=Cs (look σ.sl) d a:=by
 funext s;simp only[St.put,E6,Cs]
theorem NB{l:List Oper}{d:Nat}{av:AV}{K:St→Prop}:DQ P E n ops l (σ.put d av) K→QW P E n σ.nx σ.hp ops l (Cs (look σ.sl) d av) fun f=>∃τ:St,(∀s,look τ.sl s=f s)∧τ.nx=σ.nx∧τ.hp=σ.hp∧K τ:=by
 intro h
 unfold DQ at h
 rw[cK]at h
 exact h
theorem SI{d:Nat}{a:AV}(h:look σ.sl d=some a):look (σ.put d a).sl=look σ.sl:=by
 funext s
 simp only[St.put,E6]
 by_cases e:d=s
 ·subst e;rw[if_pos rfl,h]
 ·rw[if_neg e]
def cL(P:Program)(E:Env)(n:Nat)(ops:Array Oper)(l:List Oper)(σ:St)(K:St→Prop):Prop :=
 match l with
 |[]=>K σ
 |⟨some d,op,_,_,_,none⟩::rest=>cond (Nat.blt d n) (Fh P op (F3 σ) σ.hp fun av=>DQ P E n ops rest (σ.put d av) K) False
 |⟨some d,op,_,_,_,some (j,g)⟩::rest=>match (ops[j]?).bind (·.dst)with
  |some dj=>cond (Nat.blt d n) (match look σ.sl dj with
   |some (.v (.bool b))=>O7 b g (Fh P op (F3 (σ.put dj (.v (.bool g)))) σ.hp fun av=>DQ P E n ops rest ((σ.put dj (.v (.bool g))).put d av) K)
     (DQ P E n ops rest ((σ.put dj (.v (.bool !g))).put d (.v undef)) K)
   |some (.v (.tuple t))=>DQ P E n ops rest (σ.put d (.v undef)) K
   |_=>False) False
  |none=>False
 |_=>False
theorem kK{l:List Oper}{K:St→Prop}(h:cL P E n ops l σ K):DQ P E n ops l σ K:=by
 unfold cL at h
 split at h
 ·exact⟨σ,fun _=>rfl,rfl,rfl,h⟩
 ·rename_i d op ty pos after rest
  obtain⟨hd,h⟩:=cond_false h
  obtain⟨av,hq,h⟩:=ZY (E:=E) (nx:=σ.nx) (ty:=ty) h
  exact⟨d,av,rfl,Nat.blt_eq▸hd,by unfold QS;rw[←OY];exact hq,NB h⟩
 ·rename_i d op ty pos after j g rest
  split at h
  ·rename_i dj hj
   obtain⟨hd,h⟩:=cond_false h
   split at h
   ·rename_i b hb
    cases sG:(b == g)with
    |true =>
     have sG:b=g:=by simpa using sG
     subst sG
     have h1:=h.t rfl
     obtain⟨av,hq,h2⟩:=ZY (E:=E) (nx:=σ.nx) (ty:=ty) h1
     have e:look (σ.put dj (.v (.bool b))).sl=look σ.sl:=SI hb
     rw[OY,e]at hq
     refine⟨d,av,rfl,Nat.blt_eq▸hd,⟨dj,hj,.inl ⟨hb,hq⟩⟩,?_⟩
     have h3:=NB h2
     rw[e]at h3
     exact h3
    |false =>
     have sG:b=!g:=by cases b<;>cases g<;>simp_all
     have h1:=h.f sG
     have e:look (σ.put dj (.v (.bool !g))).sl=look σ.sl:=SI (sG▸hb)
     refine⟨d,_,rfl,Nat.blt_eq▸hd,⟨dj,hj,.inr (.inl ⟨sG▸hb,rfl⟩)⟩,?_⟩
     have h3:=NB h1
     rw[e]at h3
     exact h3
   ·rename_i t hb
    exact⟨d,_,rfl,Nat.blt_eq▸hd,⟨dj,hj,.inr (.inr ⟨t,hb,rfl⟩)⟩,NB h⟩
   ·exact h.elim
  ·exact h.elim
 ·exact h.elim
theorem B3{id:Nat}{Q:Exit→St→Prop}[hm:JC P](uM:EV ops=true)(h:DQ P E n ops ops.toList σ fun σ'=>Q .normal σ'):Cr P E n id ops σ Q:=by
 refine⟨fun a w ⟨θ,hs⟩=>wp_region_any hm.out ?_⟩
 have hb:Below w.heap.size w { w with drawn:=w.drawn+1 }:=Below.drew (Below.refl _ _)
 refine ii uM (K:=fun f=>∃τ:St,(∀s,look τ.sl s=f s)∧τ.nx=σ.nx∧τ.hp=σ.hp∧Q .normal τ) (fun f' a' w' hk mg=>?_) ops.size _ (look σ.sl) a _ (by simp) ?_ ?_ ⟨σ,fun _=>rfl,rfl,rfl,θ,hs.below hb⟩
 ·obtain⟨τ,h1,h2,h3,h4⟩:=hk
  obtain⟨σ2,g1,g2,g3,θ2,lh⟩:=mg
  refine⟨τ,h4,θ2,?_⟩
  have e1:σ2.nx=τ.nx:=by rw[g2,h2]
  have e2:σ2.hp=τ.hp:=by rw[g3,h3]
  have e3:∀s,look τ.sl s=look σ2.sl s:=fun s=>by rw[h1,g1]
  have ec:cx E θ2 σ2 w'=cx E θ2 τ w':=by unfold cx;rw[e1,e2]
  exact⟨lh.size,lh.defers,lh.fr,fun s x hx=>by rw[←ec];exact lh.slots s x (by rw[←e3];exact hx),fun i b hi=>by rw[←ec,←e1];exact lh.owns i b (by rw[e2];exact hi),fun i j b b' k hi hj=>lh.apart i j b b' k (by rw[e2];exact hi) (by rw[e2];exact hj),fun i b k hi=>lh.mine i b k (by rw[e2];exact hi),lh.X,by rw[←e1,←e2];exact lh.base⟩
 ·unfold left
  exact Nat.le_trans (List.length_filter_le _ _) (by simp)
 ·have e:left ops (Array.replicate ops.size false)=List.range ops.size:=by
   unfold left
   refine List.filter_eq_self.2 fun i hi=>?_
   have:=List.mem_range.1 hi
   simp[Array.getD,this]
  rw[e]
  have e2:opsOf ops (List.range ops.size)=ops.toList:=by
   unfold opsOf
   apply List.ext_getElem?
   intro i
   have:∀(m:Nat),m≤ops.size→(List.range m).filterMap (fun i=>ops[i]?)=ops.toList.take m:=by
    intro m
    induction m with
    |zero=>intro _;simp
    |succ m ih =>
     intro hm
     rw[List.range_succ,List.filterMap_append,ih (by omega),List.take_add_one]
     congr 1
     have lY:m<ops.size:=by omega
     simp[lY]
   rw[this ops.size (Nat.le_refl _)]
   congr 1
   exact List.take_of_length_le (by simp)
  rw[e2]
  exact h
end quiet
def RH{α:Type}:List α→(List α→Prop)→Prop
 |[],F=>F []
 |a::r,F=>RH r fun s=>F (a::s)
theorem HR{α:Type}:∀{l:List α} {F:List α→Prop},RH l F→F l
 |[],F,h=>h
 |a::r,F,h=>HR (l:=r) (F:=fun s=>F (a::s)) h
mutual
def U5:AV→(AV→Prop)→Prop
 |.agg l,F=>Bp l fun l2=>F (.agg l2)
 |.tup l,F=>Bp l fun l2=>F (.tup l2)
 |.fo f l,F=>Bp l fun l2=>F (.fo f l2)
 |.ref i o,F=>H0 i fun i2=>H0 o fun o2=>F (.ref i2 o2)
 |.row i v m,F=>H0 i fun i2=>H0 v fun v2=>F (.row i2 v2 m)
 |.elt i v k o,F=>H0 i fun i2=>H0 v fun v2=>F (.elt i2 v2 k o)
 |.sub i v k o,F=>H0 i fun i2=>H0 v fun v2=>F (.sub i2 v2 k o)
 |.mp i,F=>H0 i fun i2=>F (.mp i2)
 |.any,F=>F .any
 |.v x,F=>F (.v x)
 |.str l,F=>F (.str l)
 |.iptr l,F=>F (.iptr l)
 |.sl sz l,F=>F (.sl sz l)
 |.fn f l,F=>F (.fn f l)
 |.err,F=>F .err
 |.own e sz l,F=>F (.own e sz l)
def Bp:List AV→(List AV→Prop)→Prop
 |[],F=>F []
 |x::r,F=>U5 x fun x2=>Bp r fun r2=>F (x2::r2)
end
mutual
theorem EW:∀{a:AV} {F:AV→Prop},U5 a F→F a
 |.agg l,F,h=>Bq (l:=l) (F:=fun l2=>F (.agg l2)) (by simpa only[U5]using h)
 |.tup l,F,h=>Bq (l:=l) (F:=fun l2=>F (.tup l2)) (by simpa only[U5]using h)
 |.fo f l,F,h=>Bq (l:=l) (F:=fun l2=>F (.fo f l2)) (by simpa only[U5]using h)
 |.ref i o,F,h=>by simp only[U5]at h;exact D8 (D8 h)
 |.row i v m,F,h=>by simp only[U5]at h;exact D8 (D8 h)
 |.elt i v k o,F,h=>by simp only[U5]at h;exact D8 (D8 h)
 |.sub i v k o,F,h=>by simp only[U5]at h;exact D8 (D8 h)
 |.mp i,F,h=>by simp only[U5]at h;exact D8 h
 |.any,F,h=>by simpa only[U5]using h
 |.v x,F,h=>by simpa only[U5]using h
 |.str l,F,h=>by simpa only[U5]using h
 |.iptr l,F,h=>by simpa only[U5]using h
 |.sl sz l,F,h=>by simpa only[U5]using h
 |.fn f l,F,h=>by simpa only[U5]using h
 |.err,F,h=>by simpa only[U5]using h
 |.own e sz l,F,h=>by simpa only[U5]using h
theorem Bq:∀{l:List AV} {F:List AV→Prop},Bp l F→F l
 |[],F,h=>by simpa only[Bp]using h
 |x::r,F,h=>by
  simp only[Bp]at h
  exact Bq (l:=r) (F:=fun r2=>F (x::r2)) (EW (a:=x) (F:=fun x2=>Bp r fun r2=>F (x2::r2)) h)
end
def Ct:List (Nat×AV)→(List (Nat×AV)→Prop)→Prop
 |[],F=>F []
 |(k,x)::r,F=>U5 x fun x2=>Ct r fun s=>F ((k,x2)::s)
theorem l9:∀{l:List (Nat×AV)} {F:List (Nat×AV)→Prop},Ct l F→F l
 |[],F,h=>h
 |(k,x)::r,F,h=>l9 (l:=r) (F:=fun s=>F ((k,x)::s)) (EW (a:=x) (F:=fun x2=>Ct r fun s=>F ((k,x2)::s)) h)
def KG:List Bool→(List Bool→Prop)→Prop
 |[],F=>F []
 |true::r,F=>KG r fun s=>F (true::s)
 |false::r,F=>KG r fun s=>F (false::s)
theorem EX:∀{l:List Bool} {F:List Bool→Prop},KG l F→F l
 |[],F,h=>h
 |true::r,F,h=>EX (l:=r) (F:=fun s=>F (true::s)) h
 |false::r,F,h=>EX (l:=r) (F:=fun s=>F (false::s)) h
def U6:Hp→(Hp→Prop)→Prop
 |[],F=>F []
 |(k,some (.bx τ l))::r,F=>H0 k fun k=>Bp l fun l2=>U6 r fun s=>F ((k,some (.bx τ l2))::s)
 |(k,some (.row e sz v l))::r,F=>H0 k fun k=>H0 v fun v2=>U6 r fun s=>F ((k,some (.row e sz v2 l))::s)
 |(k,some (.map m))::r,F=>H0 k fun k=>U6 r fun s=>F ((k,some (.map m))::s)
 |(k,some (.it t p))::r,F=>H0 k fun k=>U6 r fun s=>F ((k,some (.it t p))::s)
 |(k,none)::r,F=>H0 k fun k=>U6 r fun s=>F ((k,none)::s)
theorem S5:∀{l:Hp} {F:Hp→Prop},U6 l F→F l
 |[],F,h=>h
 |(k,some (.bx τ l))::r,F,h=>S5 (l:=r) (F:=fun s=>F ((k,some (.bx τ l))::s)) (Bq (l:=l) (F:=fun l2=>U6 r fun s=>F ((k,some (.bx τ l2))::s)) (D8 (F:=fun k=>Bp l fun l2=>U6 r fun s=>F ((k,some (.bx τ l2))::s)) h))
 |(k,some (.row e sz v l))::r,F,h=>S5 (l:=r) (F:=fun s=>F ((k,some (.row e sz v l))::s)) (D8 (F:=fun v2=>U6 r fun s=>F ((k,some (.row e sz v2 l))::s)) (D8 (F:=fun k=>H0 v fun v2=>U6 r fun s=>F ((k,some (.row e sz v2 l))::s)) h))
 |(k,some (.map m))::r,F,h=>S5 (l:=r) (F:=fun s=>F ((k,some (.map m))::s)) (D8 (F:=fun k=>U6 r fun s=>F ((k,some (.map m))::s)) h)
 |(k,some (.it t p))::r,F,h=>S5 (l:=r) (F:=fun s=>F ((k,some (.it t p))::s)) (D8 (F:=fun k=>U6 r fun s=>F ((k,some (.it t p))::s)) h)
 |(k,none)::r,F,h=>S5 (l:=r) (F:=fun s=>F ((k,none)::s)) (D8 (F:=fun k=>U6 r fun s=>F ((k,none)::s)) h)
mutual
def N7(ρ s:Nat→Nat):AV→AV
 |.ref i off=>.ref (ρ i) off
 |.row i v len=>.row (ρ i) (v+s i) len
 |.elt i v k off=>.elt (ρ i) (v+s i) k off
 |.sub i v k off=>.sub (ρ i) (v+s i) k off
 |.mp i=>.mp (ρ i)
 |.agg l=>.agg (BA ρ s l)
 |.tup l=>.tup (BA ρ s l)
 |.fo f l=>.fo f (BA ρ s l)
 |x=>x
def BA(ρ s:Nat→Nat):List AV→List AV
 |[]=>[]
 |x::r=>N7 ρ s x::BA ρ s r
end
theorem P9(ρ s:Nat→Nat):∀l,BA ρ s l=l.map (N7 ρ s)
 |[]=>by simp[BA]
 |x::r=>by simp[BA,P9 ρ s r]
def j9(ρ s:Nat→Nat)(i:Nat):C6→C6
 |.bx τ l=>.bx τ (BA ρ s l)
 |.row e sz v l=>.row e sz (v+s i) l
 |.map m=>.map m
 |.it t p=>.it t p
structure Ren(c c':Cx)(ρ s:Nat→Nat):Prop where
 nx:∀i,i<c.nx→ρ i<c'.nx
 θ:∀i,i<c.nx→c'.θ (ρ i)=c.θ i
 N:∀i,i<c.nx→c'.θ.N (ρ i)=c.θ.N i
 w:c'.w=c.w
 U:∀k,c'.U k→c.U k
 rows:∀i,i<c.nx→∀e sz v' l,A5 c'.hp (ρ i)=some (.row e sz v' l)→∃v,A5 c.hp i=some (.row e sz v l)∧v'=v+s i
theorem Ren.im{c c':Cx}{ρ s:Nat→Nat}(h:Ren c c' ρ s){a:AV}{x:Value}(hi:Im c.U c.w a x):Im c'.U c'.w a x:=hi.mono (fun k _ _=>by rw[h.w]) fun k _ hu=>h.U k hu
theorem ij{c c':Cx}{ρ s:Nat→Nat}(h:Ren c c' ρ s){a:AV}{x:Value}(hi:Im c.U c.w a x):N7 ρ s a=a∨D7 c' (N7 ρ s a) x:=by
 induction hi with
 |v x=>exact .inl rfl
 |str l=>exact .inl rfl
 |fn f l cs hl hc ih=>exact .inl rfl
 |iptr l a f hu hc hh ih=>exact .inl rfl
 |err t p=>exact .inl rfl
 |any x=>exact .inl rfl
 |own e sz l x=>exact .inl rfl
 |slnil sz=>exact .inl rfl
 |sl sz l a cap f mV hm hu hsz hc hh ih=>exact .inl rfl
 |agg l cs hl hc ih =>
  refine .inr ?_
  simp only[N7,P9]
  refine .agg _ cs (by simp[hl]) fun j u z hu hz=>?_
  simp only[List.getElem?_map,Option.map_eq_some_iff]at hu
  obtain⟨u0,nd,rfl⟩:=hu
  rcases ih j u0 z nd hz with e|e
  ·rw[e];exact .im (h.im (hc j u0 z nd hz))
  ·exact e
 |tup l cs hl hc ih =>
  refine .inr ?_
  simp only[N7,P9]
  refine .tup _ cs (by simp[hl]) fun j u z hu hz=>?_
  simp only[List.getElem?_map,Option.map_eq_some_iff]at hu
  obtain⟨u0,nd,rfl⟩:=hu
  rcases ih j u0 z nd hz with e|e
  ·rw[e];exact .im (h.im (hc j u0 z nd hz))
  ·exact e
theorem OZ{c c':Cx}{ρ s:Nat→Nat}(h:Ren c c' ρ s){a:AV}{x:Value}(r:D7 c a x):D7 c' (N7 ρ s a) x:=by
 induction r with
 |any x=>exact .any x
 |im hi =>
  rcases ij h hi with e|e
  ·rw[e];exact .im (h.im hi)
  ·exact e
 |agg l cs hl _ ih =>
  simp only[N7,P9]
  refine .agg _ cs (by simp[hl]) fun j u z hu hz=>?_
  simp only[List.getElem?_map,Option.map_eq_some_iff]at hu
  obtain⟨u0,nd,rfl⟩:=hu
  exact ih j u0 z nd hz
 |tup l cs hl _ ih =>
  simp only[N7,P9]
  refine .tup _ cs (by simp[hl]) fun j u z hu hz=>?_
  simp only[List.getElem?_map,Option.map_eq_some_iff]at hu
  obtain⟨u0,nd,rfl⟩:=hu
  exact ih j u0 z nd hz
 |fo f l cs hl _ ih =>
  simp only[N7,P9]
  refine .fo f _ cs (by simp[hl]) fun j u z hu hz=>?_
  simp only[List.getElem?_map,Option.map_eq_some_iff]at hu
  obtain⟨u0,nd,rfl⟩:=hu
  exact ih j u0 z nd hz
 |ref i off b hi hθ=>exact .ref _ off b (h.nx i hi) (by rw[h.θ i hi];exact hθ)
 |row i ver len x hi hr =>
  refine .row _ _ len x (h.nx i hi) fun e sz v' l hl=>?_
  obtain⟨v,hv,rfl⟩:=h.rows i hi e sz v' l hl
  obtain⟨h1,h2⟩:=hr e sz v l hv
  exact⟨by omega,fun e=>by rw[h.θ i hi];exact h2 (by omega)⟩
 |mp i r hi hθ=>exact .mp _ r (h.nx i hi) (by rw[h.θ i hi];exact hθ)
 |sub i ver lo len x hi hr =>
  refine .sub _ _ lo len x (h.nx i hi) fun e sz v' l hl=>?_
  obtain⟨v,hv,rfl⟩:=h.rows i hi e sz v' l hl
  obtain⟨h1,h2⟩:=hr e sz v l hv
  exact⟨by omega,fun e=>by rw[h.θ i hi];exact h2 (by omega)⟩
 |elt i ver k off x hi hr =>
  refine .elt _ _ k off x (h.nx i hi) fun e sz v' l hl=>?_
  obtain⟨v,hv,rfl⟩:=h.rows i hi e sz v' l hl
  obtain⟨h1,h2⟩:=hr e sz v l hv
  exact⟨by omega,fun e=>by rw[h.θ i hi];exact h2 (by omega)⟩
theorem Vp{c c':Cx}{ρ s:Nat→Nat}(h:Ren c c' ρ s){i:Nat}{b:C6}(hi:i<c.nx)(o:L6 c i b):L6 c' (ρ i) (j9 ρ s i b):=by
 cases b with
 |bx τ l =>
  obtain⟨b',mG,T,e1,e2,e3,e4⟩:=o
  refine⟨b',mG,T,by rw[h.θ i hi];exact e1,by rw[h.w];exact e2,by rw[P9,List.length_map];exact e3,fun j u z hu hz=>?_⟩
  rw[P9]at hu
  simp only[List.getElem?_map,Option.map_eq_some_iff]at hu
  obtain⟨u0,nd,rfl⟩:=hu
  exact OZ h (e4 j u0 z nd hz)
 |row e sz v l =>
  obtain⟨xs,e1,e2,e3,e4⟩:=o
  refine⟨xs,by rw[h.θ i hi,h.w];exact e1,e2,fun k el hk j x hx=>?_,fun hne=>⟨fun k p hk=>by rw[h.w];exact(e4 hne).1 k p (by rw[←h.N i hi];exact hk),fun k el hk j e' lb l' hj=>?_⟩⟩
  ·obtain⟨y,hy,hi⟩:=e3 k el hk j x hx
   exact⟨y,hy,h.im hi⟩
  ·obtain⟨g,m,cap,y,ys,q1,q2,q3,q4,q5,q6,q7⟩:=(e4 hne).2 k el hk j e' lb l' hj
   exact⟨g,m,cap,y,ys,by rw[h.θ i hi];exact q1,by rw[h.w];exact q2,by rw[h.w];exact q3,q4,q5,fun q mx hq j' x hx=>by
    obtain⟨z,hz,hi⟩:=q6 q mx hq j' x hx
    exact⟨z,hz,h.im hi⟩,fun b hb=>by rw[h.N i hi];exact q7 b hb⟩
 |map m =>
  obtain⟨r,es,clock,e1,e2,e3,e4⟩:=o
  exact⟨r,es,clock,by rw[h.θ i hi];exact e1,by rw[h.w];exact e2,e3,fun j q e hj he=>⟨(e4 j q e hj he).1,h.im (e4 j q e hj he).2⟩⟩
 |it t p =>
  obtain⟨r,e1,e2⟩:=o
  exact⟨r,by rw[h.θ i hi];exact e1,by rw[h.w];exact e2⟩
theorem Pg{c c':Cx}{ρ s:Nat→Nat}(hθ:∀i,i<c.nx→c'.θ (ρ i)=c.θ i)(hw:c'.w=c.w)(hU:∀k,c.U k→c'.U k)
  (mf:∀i,i<c.nx→∀e sz v l,A5 c.hp i=some (.row e sz v l)→A5 c'.hp (ρ i)=some (.row e sz (v+s i) l)):∀{a:AV} {x:Value},V6 c.nx a=true→D7 c' (N7 ρ s a) x→D7 c a x:=by
 have sH:∀{a:AV} {x:Value},Im c'.U c'.w a x→Im c.U c.w a x:=fun hi=>hi.mono (fun k _ _=>by rw[hw]) fun k _ hu=>hU k hu
 intro a
 refine AV.rec (motive_1:=fun a=>∀{x:Value},V6 c.nx a=true→D7 c' (N7 ρ s a) x→D7 c a x)
  (motive_2:=fun l=>U4 c.nx l=true→∀(j:Nat) u x,l[j]?=some u→D7 c' (N7 ρ s u) x→D7 c u x)
  (motive_3:=fun _=>True) ?_ ?_ ?_ ?_ ?_ ?_ ?_ ?_ ?_ ?_ ?_ ?_ ?_ ?_ ?_ ?_ ?_ ?_ ?_ ?_ a
 ·intro x _ _;exact .any x
 ·intro v x _ r;cases r with|im hi=>exact .im (sH hi)
 ·intro l x _ r;cases r with|im hi=>exact .im (sH hi)
 ·intro l ih x lY r
  simp only[V6]at lY
  simp only[N7,P9]at r
  obtain⟨cs,rfl,hl,hr⟩:=Em r
  refine .agg l cs (by simpa using hl) fun j u z hu hz=>ih lY j u z hu ?_
  exact hr j _ z (by simp[hu]) hz
 ·intro l ih x lY r
  simp only[V6]at lY
  simp only[N7,P9]at r
  have:∃cs:List Value,x=.tuple cs.toArray∧(l.map (N7 ρ s)).length=cs.length∧∀(j:Nat) u z,(l.map (N7 ρ s))[j]?=some u→cs[j]?=some z→D7 c' u z:=by
   generalize l.map (N7 ρ s)=l' at r
   cases r with
   |im hi=>cases hi with|tup l cs hl hc=>exact⟨cs,rfl,hl,fun j u z hu hz=>.im (hc j u z hu hz)⟩
   |tup l cs hl hc=>exact⟨cs,rfl,hl,hc⟩
  obtain⟨cs,rfl,hl,hr⟩:=this
  refine .tup l cs (by simpa using hl) fun j u z hu hz=>ih lY j u z hu ?_
  exact hr j _ z (by simp[hu]) hz
 ·intro i off x lY r
  simp only[V6,Nat.blt_eq]at lY
  simp only[N7]at r
  obtain⟨b,h1,rfl,_⟩:=k7 r
  exact .ref i off b lY (by rw[←hθ i lY];exact h1)
 ·intro l _ x _ r;cases r with|im hi=>exact .im (sH hi)
 ·intro sz l _ x _ r;cases r with|im hi=>exact .im (sH hi)
 ·intro i ver len x lY r
  simp only[V6,Nat.blt_eq]at lY
  simp only[N7]at r
  refine .row i ver len x lY fun e sz v l hl=>?_
  cases r with
  |im hi=>cases hi
  |row _ _ _ _ hi h =>
   obtain⟨h1,h2⟩:=h e sz _ l (mf i lY e sz v l hl)
   exact⟨by omega,fun e=>by rw[←hθ i lY];exact h2 (by omega)⟩
 ·intro i x lY r
  simp only[V6,Nat.blt_eq]at lY
  simp only[N7]at r
  cases r with
  |im hi=>cases hi
  |mp _ r hi h=>exact .mp i r lY (by rw[←hθ i lY];exact h)
 ·intro i ver k off x lY r
  simp only[V6,Nat.blt_eq]at lY
  simp only[N7]at r
  refine .elt i ver k off x lY fun e sz v l hl=>?_
  cases r with
  |im hi=>cases hi
  |elt _ _ _ _ _ hi h =>
   obtain⟨h1,h2⟩:=h e sz _ l (mf i lY e sz v l hl)
   exact⟨by omega,fun e=>by rw[←hθ i lY];exact h2 (by omega)⟩
 ·intro f l _ x _ r;cases r with|im hi=>exact .im (sH hi)
 ·intro x _ r;cases r with|im hi=>exact .im (sH hi)
 ·intro f l ih x lY r
  simp only[V6]at lY
  simp only[N7,P9]at r
  have:∃cs:List Value,x=RU f cs.toArray∧(l.map (N7 ρ s)).length=cs.length∧∀(j:Nat) u z,(l.map (N7 ρ s))[j]?=some u→cs[j]?=some z→D7 c' u z:=by
   generalize l.map (N7 ρ s)=l' at r
   cases r with
   |im hi=>cases hi
   |fo f l cs hl hc=>exact⟨cs,rfl,hl,hc⟩
  obtain⟨cs,rfl,hl,hr⟩:=this
  refine .fo f l cs (by simpa using hl) fun j u z hu hz=>ih lY j u z hu ?_
  exact hr j _ z (by simp[hu]) hz
 ·intro e sz l _ x _ _;exact .im (.own e sz l x)
 ·intro i ver lo len x lY r
  simp only[V6,Nat.blt_eq]at lY
  simp only[N7]at r
  refine .sub i ver lo len x lY fun e sz v l hl=>?_
  cases r with
  |im hi=>cases hi
  |sub _ _ _ _ _ hi h =>
   obtain⟨h1,h2⟩:=h e sz _ l (mf i lY e sz v l hl)
   exact⟨by omega,fun e=>by rw[←hθ i lY];exact h2 (by omega)⟩
 ·intro _ j u x hu;simp at hu
 ·intro a l iha qZ lY j u x hu r
  simp only[U4,Bool.and_eq_true]at lY
  cases j with
  |zero=>simp at hu;subst hu;exact iha lY.1 r
  |succ j=>exact qZ lY.2 j u x (by simpa using hu) r
 ·trivial
 ·intros;trivial
structure IY(X:Nat→Prop)(θ:Th)(nx:Nat)(hp:Hp)(w:World):Prop where
 owns:∀i b,A5 hp i=some b→i<nx∧L6 ⟨θ,nx,hp,X,w⟩ i b
 apart:∀i j b b' k,A5 hp i=some b→A5 hp j=some b'→FP θ i b k→FP θ j b' k→i=j
 fresh:∀i b k,A5 hp i=some b→FP θ i b k→¬X k
def owned(θ:Th)(hp:Hp)(k:Nat):Prop:=∃i b,A5 hp i=some b∧FP θ i b k
theorem IY.nodf{X:Nat→Prop}{θ:Th}{nx:Nat}{hp:Hp}{w:World}(h:IY X θ nx hp w){k:Nat}(ho:owned θ hp k){d:Option (List Deferred)}:w.heap[k]?≠some (Obj.deferred d):=by
 obtain⟨i,b,hi,hk⟩:=ho
 exact(h.owns i b hi).2.nodf hk
theorem Ph(ρ s:Nat→Nat)(i:Nat)(b:C6):U9 (j9 ρ s i b)=U9 b:=by cases b<;>rfl
theorem FP.ren{θ θ':Th}{ρ s:Nat→Nat}{i k:Nat}{b:C6}(h1:θ' (ρ i)=θ i)(h2:θ'.N (ρ i)=θ.N i):FP θ' (ρ i) (j9 ρ s i b) k↔FP θ i b k:=by
 unfold FP
 rw[Ph,h1,h2]
structure EY(X:Nat→Prop)(θ:Th)(w:World)(m0:Nat)(hp0:Hp)(m1:Nat)(hp1:Hp)(r:AV)(e:Ending)(w':World):Prop where
 out:∃v θ',e=.returned v∧D7 ⟨θ',m1,hp1,X,w'⟩ r v∧IY X θ' m1 hp1 w'∧(∀i b k,A5 hp1 i=some b→FP θ' i b k→owned θ hp0 k∨w.heap.size≤k)∧(∀i,i<m0→θ' i=θ i∨(∃x n k,θ i=.slice x n k)∧¬Kept hp1 i)
 os:w'.os=w.os
 tape:w'.tape=w.tape
 output:w'.output=w.output
 size:w.heap.size≤w'.heap.size
 block:∀k,k<w.heap.size→¬owned θ hp0 k→w'.heap[k]?=w.heap[k]?
def B9(P:Program)(f m0:Nat)(hp0:Hp)(args:List AV)(m1:Nat)(hp1:Hp)(r:AV):Prop:=OO P f ∧
 ∀(X:Nat→Prop) (θ:Th) (w:World) (vs:List Value),(∀k,X k→k<w.heap.size)→R8 (fun k=>X k∨owned θ hp0 k) w→IY X θ m0 hp0 w→args.length=vs.length→(∀(j:Nat) a v,args[j]?=some a→vs[j]?=some v→D7 ⟨θ,m0,hp0,X,w⟩ a v) →
  Calls P f vs.toArray w fun e w'=>EY X θ w m0 hp0 m1 hp1 r e w'
def V0:ResultVar→Nat
 |.tmp t=>t
 |.cell t _=>t
def Fj(σ:St):List ResultVar→St
 |[]=>σ
 |.tmp _::r=>Fj σ r
 |.cell t _::r=>match look σ.sl t with
  |some (.ref i 0)=>match A5 σ.hp i with
   |some (.bx _ l)=>Fj (σ.put t (.agg l)) r
   |_=>σ
  |_=>σ
def SJ(P:Program)(n:Nat)(σ:St):List ResultVar→Prop
 |[]=>True
 |.tmp _::r=>SJ P n σ r
 |.cell t T::r=>∃i l sz,look σ.sl t=some (.ref i 0)∧A5 σ.hp i=some (.box l)∧G6 P T true sz∧l.length=sz∧Nat.blt t n=true∧SJ P n (σ.put t (.agg l)) r
def SK:List ResultVar→List AV→List (Nat×AV)
 |v::r,a::s=>(V0 v,a)::SK r s
 |_,_=>[]
def eW:List AV→AV
 |[a]=>a
 |l=>.tup l
def CY:List ResultVar→Bool
 |[]=>true
 |v::r=>(r.all fun u=>!(Nat.beq (V0 u) (V0 v))) && CY r
theorem SL{tmps tmps':Array Value}{rv:ResultVar}(h:tmps.getD (V0 rv) undef=tmps'.getD (V0 rv) undef):V7 tmps rv=V7 tmps' rv:=by
 cases rv with
 |tmp t=>simp only[V7];rw[show tmps.getD t undef=tmps'.getD t undef from h]
 |cell t T=>simp only[V7];rw[show tmps.getD t undef=tmps'.getD t undef from h]
theorem Kr{a:Act}{d s:Nat}{v:Value}(h:d≠s):(a.put (some d) v).tmps.getD s undef=a.tmps.getD s undef:=by
 simp[Act.put,Array.getD_eq_getD_getElem?,Array.getElem?_setIfInBounds_ne h]
theorem Ul{a:Act}{d:Nat}{v:Value}(h:d<a.tmps.size):(a.put (some d) v).tmps.getD d undef=v:=by
 simp[Act.put,Array.getD,h]
theorem JG{P:Program}{E:Env}{n:Nat}{θ:Th}{w:World}:∀{rvs:List ResultVar} {σ:St} {a:Act},J5 E n θ σ a w→SJ P n σ rvs→CY rvs=true →
  ∃a',J5 E n θ (Fj σ rvs) a' w∧(∀rv∈rvs,(V7 a.tmps rv).run P w=.ok (a'.tmps.getD (V0 rv) undef) w)∧∀s,(∀rv∈rvs,V0 rv≠s)→a'.tmps.getD s undef=a.tmps.getD s undef
 |[],σ,a,hs,_,_=>⟨a,hs,(fun rv h=>by (cases h)),fun s _=>rfl⟩
 |.tmp t::r,σ,a,hs,nO,od=>by
  simp only[CY,Bool.and_eq_true,List.all_eq_true,Bool.not_eq_true']at od
  obtain⟨a',h1,h2,h3⟩:=JG (rvs:=r) hs nO od.2
  refine⟨a',h1,fun rv ry=>?_,fun s mg=>h3 s fun rv h=>mg rv (by simp[h])⟩
  rcases List.mem_cons.1 ry with rfl|ry
  ·have:=h3 t (fun rv h e=>by
    have h4:=od.1 rv h
    have e':V0 rv=V0 (.tmp t):=e
    rw[e']at h4
    simp at h4)
   simp[V7,V0,Sem.run_pure,this]
  ·exact h2 rv ry
 |.cell t T::r,σ,a,hs,nO,od=>by
  simp only[CY,Bool.and_eq_true,List.all_eq_true,Bool.not_eq_true']at od
  obtain⟨i,l,sz,h1,h2,tv,qb,hn,nO⟩:=nO
  have wF:=Nat.blt_eq▸hn
  obtain⟨b1,hθ,hv,_⟩:=k7 (hs.slots t _ h1)
  obtain⟨b',mG,T',mv,hh,hsz,hr⟩:=(hs.owns i _ h2).2
  have oB:θ i=.pointer (some ⟨b1,0,none⟩):=hθ
  have oQ:θ i=.pointer (some ⟨b',0,none⟩):=mv
  rw[oB]at oQ
  cases oQ
  have tQ:w.heap[b1]?=some (.cells mG T' (0,0)):=hh
  have nJ:D7 (cx E θ σ w) (.agg l) (.agg mG):=by
   have:=D7.agg (c:=cx E θ σ w) l mG.toList (by simp[hsz]) (fun j x y hx hy=>hr j x y hx (by simpa using hy))
   simpa using this
  have rr:=hs.put wF nJ
  have oX:=S0 (P:=P) (T:=T) (sz:=sz) (w:=w) (a:=⟨b1,0,none⟩) (cs:=mG.toList) (by rw[Array.length_toList,hsz,qb]) (fun j v hj=>by rw[H3,J8 tQ];simpa using hj)
  obtain⟨a',h3,h4,h5⟩:=JG (rvs:=r) rr nO od.2
  have hne:∀rv∈r,V0 rv≠t:=fun rv h e=>by
   have h6:=od.1 rv h
   have e':V0 rv=V0 (.cell t T):=e
   rw[e']at h6
   simp at h6
  have oz:Fj σ (.cell t T::r)=Fj (σ.put t (.agg l)) r:=by simp only[Fj,h1,h2]
  refine⟨a',oz▸h3,fun rv ry=>?_,fun s mg=>?_⟩
  ·rcases List.mem_cons.1 ry with rfl|ry
   ·have h6:=h5 t hne
    rw[Ul (by rw[hs.size];exact wF)]at h6
    show _=Result.ok (a'.tmps.getD t undef) w
    rw[h6]
    simp[V7,hv,Sem.run_bind,Sem.run_pure,asAddr,oX]
   ·rw[←h4 rv ry]
    rw[SL (tmps:=a.tmps) (tmps':=(a.put (some t) (.agg mG)).tmps)]
    exact(Kr (Ne.symm (hne rv ry))).symm
  ·rw[h5 s fun rv h=>mg rv (by simp[h]),Kr]
   exact mg (.cell t T) (by simp)
theorem Pi:∀{rvs:List ResultVar} {as:List AV},rvs.length=as.length→CY rvs=true→∀(j:Nat) rv a,rvs[j]?=some rv→as[j]?=some a→look (SK rvs as) (V0 rv)=some a
 |[],_,_,_,j,rv,a,h,_=>by simp at h
 |v::r,[],hl,_,_,_,_,_,_=>by simp at hl
 |v::r,b::s,hl,od,j,rv,a,hj,ha=>by
  simp only[CY,Bool.and_eq_true,List.all_eq_true,Bool.not_eq_true']at od
  simp only[SK,E6]
  cases j with
  |zero=>simp at hj ha;subst hj ha;simp
  |succ j =>
   have lw:r[j]?=some rv:=by simpa using hj
   have hne:V0 v≠V0 rv:=fun e=>by
    have h6:=od.1 rv (List.mem_of_getElem? lw)
    rw[←e]at h6
    simp at h6
   rw[if_neg hne]
   exact Pi (by simpa using hl) od.2 j rv a lw (by simpa using ha)
def cM(P:Program)(E:Env)(n:Nat)(rs:Array ResultVar)(m1:Nat)(hp1:Hp)(r:AV)(σ:St):Prop :=
 (∃rvs as,rs=rvs.toArray∧SJ P n σ rvs∧CY rvs=true∧rvs.length=as.length∧St.le E n (Fj σ rvs) ⟨SK rvs as,m1,hp1⟩∧r=eW as) ∨
 (∃t,rs=#[.tmp t]∧St.le E n σ ⟨[(t,r)],m1,hp1⟩) ∨
 (∃t u a b,rs=#[.tmp t,.tmp u]∧St.le E n σ ⟨[(t,a),(u,b)],m1,hp1⟩∧t≠u∧r=.tup [a,b]) ∨
 (∃t T i τ l sz,rs=#[.cell t T]∧G6 P T true sz∧l.length=sz∧St.le E n σ ⟨[(t,.ref i 0)],m1,hp1⟩∧A5 hp1 i=some (.bx τ l)∧r=.agg l)
def C8(P:Program)(E:Env)(n:Nat)(rs:Array ResultVar)(m1:Nat)(hp1:Hp)(r:AV):Exit→St→Prop
 |.ret,σ=>cM P E n rs m1 hp1 r σ
 |.normal,σ=>cM P E n rs m1 hp1 r σ
 |_,_=>False
section rules
variable {P:Program} {E:Env} {n:Nat} {ops:Array Oper} {rest:List Oper} {σ:St} {K:St→Prop} {Q:Exit→St→Prop}
variable {d:Nat} {ty:TypeId} {pos:String} {after:Array Edge} {x y:Operand}
theorem H4{t m1:Nat}{hp1:Hp}{r:AV}(h:St.le E n σ ⟨[(t,r)],m1,hp1⟩):C8 P E n #[.tmp t] m1 hp1 r .ret σ:=.inr (.inl ⟨t,rfl,h⟩)
theorem I7{rvs:List ResultVar}{vs:List AV}{m1:Nat}{hp1:Hp}{r:AV}(nO:SJ P n σ rvs)(od:CY rvs=true)(hl:rvs.length=vs.length)(h:St.le E n (Fj σ rvs) ⟨SK rvs vs,m1,hp1⟩)(hr:eW vs=r):C8 P E n rvs.toArray m1 hp1 r .ret σ:=.inl ⟨rvs,vs,rfl,nO,od,hl,h,hr.symm⟩
theorem Pj{t T i m1 sz τ:Nat}{hp1:Hp}{l:List AV}[tv:G6 P T true sz](hl:l.length=sz)(h:St.le E n σ ⟨[(t,.ref i 0)],m1,hp1⟩)(hb:A5 hp1 i=some (.bx τ l)):C8 P E n #[.cell t T] m1 hp1 (.agg l) .ret σ :=
 .inr (.inr (.inr ⟨t,T,i,τ,l,sz,rfl,tv,hl,h,hb,rfl⟩))
theorem SM{f:Nat}{fn:Func}{code:Code}{args:List AV}{r:AV}{rs:Array ResultVar}{m0 m1:Nat}{hp0 hp1:Hp}(hf:P.funcs[f]?=some fn)(hb:fn.body=some code)(hn:fn.ntmps=n)(qX:fn.results=rs)
  (mB:Nat.ble args.length n=true) {X:Nat→Prop} {θ:Th} {w:World} {vs:List Value} (hX:∀k,X k→k<w.heap.size) (mU:R8 (fun k=>X k∨owned θ hp0 k) w) (pf:IY X θ m0 hp0 w) (hl:args.length=vs.length) (oc:∀(j:Nat) a v,args[j]?=some a→vs[j]?=some v→D7 ⟨θ,m0,hp0,X,w⟩ a v)
  (h:C7 P ⟨w,X,owned θ hp0,θ.v,m0,mU,false⟩ n code ⟨BT args 0,m0,hp0⟩ (C8 P ⟨w,X,owned θ hp0,θ.v,m0,mU,false⟩ n rs m1 hp1 r)):Calls P f vs.toArray w fun e w'=>EY X θ w m0 hp0 m1 hp1 r e w':=by
 subst hn qX
 refine calls_of_wp hf hb ?_
 have mX:args.length≤fn.ntmps:=Nat.ble_eq▸mB
 have start:j4 ⟨w,X,owned θ hp0,θ.v,m0,mU,false⟩ fn.ntmps ⟨BT args 0,m0,hp0⟩ { tmps:=vs.toArray++Array.replicate (fn.ntmps-vs.toArray.size) undef,defers:=[] } w:=by
  refine⟨θ,?_,.nil,⟨rfl,rfl,rfl,Nat.le_refl _,fun _ _ _=>rfl⟩,fun s x hs=>?_,pf.owns,pf.apart,fun i b k hi hk=>⟨pf.fresh i b k hi hk,.inl ⟨i,b,hi,hk⟩⟩,hX,⟨Nat.le_refl _,fun i hi=>.inl rfl⟩⟩
  ·simp;omega
  ·obtain⟨_,hx⟩:=EU args 0 s x hs
   rw[Nat.sub_zero]at hx
   have lY:s<vs.length:=by rw[←hl];exact(List.getElem?_eq_some_iff.1 hx).1
   have hv:vs[s]?=some vs[s]:=List.getElem?_eq_getElem lY
   have e:(vs.toArray++Array.replicate (fn.ntmps-vs.toArray.size) undef).getD s undef=vs[s]:=by
    rw[Array.getD_eq_getD_getElem?,Array.getElem?_append]
    simp[lY]
   rw[e]
   exact oc s x _ hx hv
 refine wp_mono (h _ w start) ?_
 rintro e a w' ⟨σ',hq,pT⟩
 have fin:cM P ⟨w,X,owned θ hp0,θ.v,m0,mU,false⟩ fn.ntmps fn.results m1 hp1 r σ'→bodyPost P fn (fun e pE=>EY X θ w m0 hp0 m1 hp1 r e pE) .ret a w':=by
  intro rG
  have post:∀{sl:List (Nat×AV)} {v:Value} {θ':Th},J5 ⟨w,X,owned θ hp0,θ.v,m0,mU,false⟩ fn.ntmps θ' ⟨sl,m1,hp1⟩ a w'→D7 ⟨θ',m1,hp1,X,w'⟩ r v→EY X θ w m0 hp0 m1 hp1 r (.returned v) w':=by
   intro sl v θ' hs hv
   exact⟨⟨v,θ',rfl,hv,⟨hs.owns,hs.apart,fun i b k hi hk=>(hs.mine i b k hi hk).1⟩,fun i b k hi hk=>(hs.mine i b k hi hk).2,hs.base.2⟩,hs.fr.os,hs.fr.tape,hs.fr.output,hs.fr.size,hs.fr.block⟩
  rcases rG with ⟨rvs,as,h1,nO,od,lX,h2,hr⟩|⟨t,h1,h2⟩|⟨t,u,a1,b1,h1,h2,hne,rfl⟩|⟨t,T,i,τ,l,sz,h1,tv,lX,h2,h3,rfl⟩
  ·obtain⟨θ0,sJ⟩:=pT
   obtain⟨a',rr,mH,_⟩:=JG sJ nO od
   obtain⟨θ',hs⟩:=h2 a' w' ⟨θ0,rr⟩
   have nJ:∀(j:Nat) rv b,rvs[j]?=some rv→as[j]?=some b→D7 ⟨θ',m1,hp1,X,w'⟩ b (a'.tmps.getD (V0 rv) undef):=fun j rv b hj hb=>hs.slots _ b (Pi lX od j rv b hj hb)
   have sv:∀{v:Value},D7 ⟨θ',m1,hp1,X,w'⟩ r v→EY X θ w m0 hp0 m1 hp1 r (.returned v) w':=fun hv =>
    ⟨⟨_,θ',rfl,hv,⟨hs.owns,hs.apart,fun i b k hi hk=>(hs.mine i b k hi hk).1⟩,fun i b k hi hk=>(hs.mine i b k hi hk).2,hs.base.2⟩,hs.fr.os,hs.fr.tape,hs.fr.output,hs.fr.size,hs.fr.block⟩
   have tup:rvs.length≠1→r=.tup as→∃v,(results fn a.tmps).run P w'=.ok v w'∧EY X θ w m0 hp0 m1 hp1 r (.returned v) w':=by
    intro hne hr
    refine⟨_,Kq (vs:=rvs.map fun rv=>a'.tmps.getD (V0 rv) undef) h1 hne (by simp) (fun j rv v hj hv=>?_),sv ?_⟩
    ·simp only[List.getElem?_map,hj,Option.map_some,Option.some.injEq]at hv
     subst hv
     exact mH rv (List.mem_of_getElem? hj)
    ·rw[hr]
     refine .tup as _ (by simp[lX]) fun j b v hb hv=>?_
     simp only[List.getElem?_map,Option.map_eq_some_iff]at hv
     obtain⟨rv,hj,rfl⟩:=hv
     exact nJ j rv b hj hb
   match rvs,as,lX,hr,h1,mH,nJ,tup with
   |[rv],[b],_,hr,h1,mH,nJ,_ =>
    have hr:r=b:=hr
    subst hr
    exact⟨sJ.defers.1 rfl,_,SB h1 (mH rv (by simp)),sv (nJ 0 rv _ rfl rfl)⟩
   |[],[],_,hr,_,_,_,tup=>obtain⟨v,sd,ol⟩:=tup (by simp) hr;exact⟨sJ.defers.1 rfl,v,sd,ol⟩
   |_::_::_,_::_::_,_,hr,_,_,_,tup=>obtain⟨v,sd,ol⟩:=tup (by simp) hr;exact⟨sJ.defers.1 rfl,v,sd,ol⟩
  ·obtain⟨θ',hs⟩:=h2 a w' pT
   exact⟨hs.defers.1 rfl,_,results_tmp h1 _ _ _,post hs (hs.slots t r (by simp[look]))⟩
  ·obtain⟨θ',hs⟩:=h2 a w' pT
   refine⟨hs.defers.1 rfl,_,results_tmp2 h1 _ _ _,post hs (.tup [a1,b1] [_,_] rfl fun j x y hx hy=>?_)⟩
   match j,hx,hy with
   |0,hx,hy=>cases hx;cases hy;exact hs.slots t _ (by simp[look])
   |1,hx,hy=>cases hx;cases hy;exact hs.slots u _ (by rw[E6,if_neg hne,E6,if_pos rfl])
  ·obtain⟨θ',hs⟩:=h2 a w' pT
   obtain⟨b,hθ,hv,_⟩:=k7 (hs.slots t (.ref i 0) (by simp[look]))
   obtain⟨b',mG,T',mv,hh,hsz,hr⟩:=(hs.owns i _ h3).2
   have oB:θ' i=.pointer (some ⟨b,0,none⟩):=hθ
   have oQ:θ' i=.pointer (some ⟨b',0,none⟩):=mv
   rw[oB]at oQ
   cases oQ
   have tQ:w'.heap[b]?=some (.cells mG T' (0,0)):=hh
   refine⟨hs.defers.1 rfl,.agg mG,?_,post hs ?_⟩
   ·have oX:=S0 (P:=P) (T:=T) (sz:=sz) (w:=w') (a:=⟨b,0,none⟩) (cs:=mG.toList) (by rw[Array.length_toList,hsz,lX]) (fun j v hj=>by rw[H3,J8 tQ];simpa using hj)
    rw[Array.getD_eq_getD_getElem?]at hv
    simp[results,h1,hv,Sem.run_bind,Sem.run_pure,asAddr,oX]
   ·have:=D7.agg (c:=⟨θ',m1,hp1,X,w'⟩) l mG.toList (by simp[hsz]) (fun j x y hx hy=>hr j x y hx (by simpa using hy))
    simpa using this
 cases e with
 |normal=>exact fin hq
 |ret=>exact fin hq
 |exit id=>exact hq.elim
 |goto l=>exact hq.elim
 |panic c=>exact hq.elim
 |outgrown=>exact hq.elim
theorem Um {f : Nat} {fn : Func} {code : Code} {args : List AV} {r : AV} {rs : Array ResultVar} {m0 m1 : Nat} {hp0 hp1 : Hp} (hf : P.funcs[f]? = some fn) (nK : (fn.name == "runtime.NumGoroutine") = false) (hb : fn.body = some code) (hn : fn.ntmps = n) (qX : fn.results = rs)
  (mB:Nat.ble args.length n=true) (h:∀E,E.n0=m0→C7 P E n code ⟨BT args 0,m0,hp0⟩ (C8 P E n rs m1 hp1 r)):B9 P f m0 hp0 args m1 hp1 r :=
 ⟨⟨fn,hf,nK,by rw[hb];rfl⟩,fun X θ w vs hX mU pf hl oc=>SM hf hb hn qX mB hX mU pf hl oc (h _ rfl)⟩
def U7(ρ s:Nat→Nat):Hp→Hp
 |[]=>[]
 |(k,b)::r=>(ρ k,b.map (j9 ρ s k))::U7 ρ s r
theorem HS{ρ s:Nat→Nat}{m:Nat}(sX:∀i j,i<m→j<m→ρ i=ρ j→i=j):∀(hp h:Hp),K9 m hp=true→∀j,j<m→look (U7 ρ s hp++h) (ρ j)=match look hp j with
  |some b=>some (b.map (j9 ρ s j))
  |none=>look h (ρ j)
 |[],h,_,j,hj=>rfl
 |(k,b)::r,h,lY,j,hj=>by
  have hk:k<m∧K9 m r=true:=by
   match b,lY with
   |none,lY=>simp only[K9,Bool.and_eq_true,Nat.blt_eq]at lY;exact lY
   |some (.bx τ l),lY=>simp only[K9,Bool.and_eq_true,Nat.blt_eq]at lY;exact⟨lY.1.1,lY.2⟩
   |some (.row ..),lY=>simp only[K9,Bool.and_eq_true,Nat.blt_eq]at lY;exact lY
   |some (.map ..),lY=>simp only[K9,Bool.and_eq_true,Nat.blt_eq]at lY;exact lY
   |some (.it ..),lY=>simp only[K9,Bool.and_eq_true,Nat.blt_eq]at lY;exact lY
  simp only[U7,List.cons_append,E6]
  by_cases e:k=j
  ·subst e;simp
  ·have:ρ k≠ρ j:=fun h2=>e (sX k j hk.1 hj h2)
   simp only[if_neg this,if_neg e]
   exact HS sX r h hk.2 j hj
theorem CI{ρ s:Nat→Nat}{m:Nat}:∀(hp h:Hp),K9 m hp=true→∀i,(∀j,j<m→ρ j≠i)→look (U7 ρ s hp++h) i=look h i
 |[],h,_,i,_=>rfl
 |(k,b)::r,h,lY,i,hi=>by
  have hk:k<m∧K9 m r=true:=by
   match b,lY with
   |none,lY=>simp only[K9,Bool.and_eq_true,Nat.blt_eq]at lY;exact lY
   |some (.bx τ l),lY=>simp only[K9,Bool.and_eq_true,Nat.blt_eq]at lY;exact⟨lY.1.1,lY.2⟩
   |some (.row ..),lY=>simp only[K9,Bool.and_eq_true,Nat.blt_eq]at lY;exact lY
   |some (.map ..),lY=>simp only[K9,Bool.and_eq_true,Nat.blt_eq]at lY;exact lY
   |some (.it ..),lY=>simp only[K9,Bool.and_eq_true,Nat.blt_eq]at lY;exact lY
  simp only[U7,List.cons_append,E6,if_neg (hi k hk.1)]
  exact CI r h hk.2 i hi
def K2(ι:List Nat)(i:Nat):Nat:=ι.getD i 0
def XJ(h:Hp)(i:Nat):Nat:=match A5 h i with
 |some (.row e _ v _)=>cond (Y5 e) v (v+1)
 |_=>0
def Dr(h hp0:Hp)(ι off:List Nat):Nat→Prop
 |0=>True
 |m+1=>A5 h (K2 ι m)=(A5 hp0 m).map (j9 (K2 ι) (K2 off) m)∧Dr h hp0 ι off m
theorem NC{h hp0:Hp}{ι off:List Nat}:∀{m:Nat},Dr h hp0 ι off m→∀i,i<m→A5 h (K2 ι i)=(A5 hp0 i).map (j9 (K2 ι) (K2 off) i)
 |0,_,i,hi=>absurd hi (Nat.not_lt_zero _)
 |m+1,hb,i,hi=>by
  by_cases e:i=m
  ·subst e;exact hb.1
  ·exact NC hb.2 i (by omega)
def BB(hp0 hp1:Hp):Nat→Bool
 |0=>true
 |m+1=>(look hp1 m).isSome && (match A5 hp1 m,A5 hp0 m with
  |some (.row e sz _ _),some (.row e' lb _ _)=>Nat.beq sz lb && (Y5 e == Y5 e')
  |some (.row ..),_=>false
  |_,_=>true) && BB hp0 hp1 m
theorem Ks{hp0 hp1:Hp}:∀{m:Nat},BB hp0 hp1 m=true→∀i,i<m→(look hp1 i).isSome=true∧∀e sz v l,A5 hp1 i=some (.row e sz v l)→∃e' v' l',A5 hp0 i=some (.row e' sz v' l')∧Y5 e=Y5 e'
 |0,_,i,hi=>absurd hi (Nat.not_lt_zero _)
 |m+1,hb,i,hi=>by
  simp only[BB,Bool.and_eq_true]at hb
  by_cases e:i=m
  ·subst e
   refine⟨hb.1.1,fun e sz v l hl=>?_⟩
   have h2:=hb.1.2
   rw[hl]at h2
   split at h2
   ·rename_i h3 h4
    cases h3
    rw[Bool.and_eq_true]at h2
    refine⟨_,_,_,by rw[h4,Nat.eq_of_beq_eq_true h2.1],?_⟩
    exact eq_of_beq h2.2
   ·cases h2
   ·rename_i h4 h3
    first|exact absurd rfl (h3 e sz v l)|exact absurd rfl (h4 e sz v l)|exact(h3 e sz v l rfl).elim|exact(h4 e sz v l rfl).elim
  ·exact Ks hb.2 i (by omega)
def Cu(ι:List Nat)(nx:Nat):Bool:=match ι with
 |[]=>true
 |i::r=>Nat.blt i nx && !(r.contains i) && Cu r nx
theorem ND:∀{ι:List Nat} {nx:Nat},Cu ι nx=true→(∀i,i<ι.length→K2 ι i<nx)∧∀i j,i<ι.length→j<ι.length→K2 ι i=K2 ι j→i=j
 |[],nx,_=>⟨fun i hi=>absurd hi (Nat.not_lt_zero _),fun i j hi=>absurd hi (Nat.not_lt_zero _)⟩
 |a::r,nx,h=>by
  simp only[Cu,Bool.and_eq_true,Nat.blt_eq,Bool.not_eq_true']at h
  obtain⟨h1,h2⟩:=ND h.2
  have mN:∀i,i<r.length→K2 r i∈r:=fun i hi=>by simp[K2,List.getD,hi]
  have wU:a∉r:=by simpa using h.1.2
  refine⟨fun i hi=>?_,fun i j hi hj he=>?_⟩
  ·cases i with
   |zero=>exact h.1.1
   |succ i=>exact h1 i (by simpa using hi)
  ·cases i with
   |zero =>
    cases j with
    |zero=>rfl
    |succ j=>exact absurd (show a∈r from (show a=K2 r j from he)▸mN j (by simpa using hj)) wU
   |succ i =>
    cases j with
    |zero=>exact absurd (show a∈r from (show K2 r i=a from he)▸mN i (by simpa using hi)) wU
    |succ j=>exact congrArg (·+1) (h2 i j (by simpa using hi) (by simpa using hj) he)
def gρ(ι:List Nat)(m0 nx:Nat)(i:Nat):Nat:=cond (Nat.blt i m0) (K2 ι i) (nx+(i-m0))
def gs(ι:List Nat)(m0:Nat)(h:Hp)(i:Nat):Nat:=cond (Nat.blt i m0) (XJ h (K2 ι i)) 0
theorem KH{ι:List Nat}{m0 nx i:Nat}(h:i<m0):gρ ι m0 nx i=K2 ι i:=by
 have:Nat.blt i m0=true:=Nat.blt_eq▸h
 simp[gρ,this]
theorem HT{ι:List Nat}{m0 nx i:Nat}(h:¬i<m0):gρ ι m0 nx i=nx+(i-m0):=by
 have:Nat.blt i m0=false:=by
  cases hb:Nat.blt i m0
  ·rfl
  ·exact absurd (Nat.blt_eq▸hb) h
 simp[gρ,this]
theorem Za{c c':Cx}{ρ s:Nat→Nat}(hθ:∀i,i<c.nx→c'.θ (ρ i)=c.θ i)(hN:∀i,i<c.nx→c'.θ.N (ρ i)=c.θ.N i)(hw:c'.w=c.w)(hU:∀k,c.U k→c'.U k)
  (mf:∀i,i<c.nx→∀e sz v l,A5 c.hp i=some (.row e sz v l)→A5 c'.hp (ρ i)=some (.row e sz (v+s i) l))
  {i:Nat} {b:C6} (hi:i<c.nx) (xR:∀τ l,b=.bx τ l→U4 c.nx l=true) (o:L6 c' (ρ i) (j9 ρ s i b)):L6 c i b:=by
 have sH:∀{a:AV} {x:Value},Im c'.U c'.w a x→Im c.U c.w a x:=fun hi=>hi.mono (fun k _ _=>by rw[hw]) fun k _ hu=>hU k hu
 cases b with
 |bx τ l =>
  obtain⟨b',mG,T,e1,e2,e3,e4⟩:=o
  refine⟨b',mG,T,by rw[←hθ i hi];exact e1,by rw[←hw];exact e2,by rw[P9,List.length_map]at e3;exact e3,fun j u z hu hz=>?_⟩
  refine Pg hθ hw hU mf (Ax (xR τ l rfl) u (List.mem_of_getElem? hu)) (e4 j _ z ?_ hz)
  rw[P9];simp[hu]
 |row e sz v l =>
  obtain⟨xs,e1,e2,e3,e4⟩:=o
  refine⟨xs,by rw[←hθ i hi,←hw];exact e1,e2,fun k el hk j x hx=>?_,fun hne=>⟨fun k p hk=>by rw[←hw];exact(e4 hne).1 k p (by rw[hN i hi];exact hk),fun k el hk j e' lb l' hj=>?_⟩⟩
  ·obtain⟨y,hy,hi⟩:=e3 k el hk j x hx
   exact⟨y,hy,sH hi⟩
  ·obtain⟨g,m,cap,y,ys,q1,q2,q3,q4,q5,q6,q7⟩:=(e4 hne).2 k el hk j e' lb l' hj
   exact⟨g,m,cap,y,ys,by rw[←hθ i hi];exact q1,by rw[←hw];exact q2,by rw[←hw];exact q3,q4,q5,fun q mx hq j' x hx=>by
    obtain⟨z,hz,hi⟩:=q6 q mx hq j' x hx
    exact⟨z,hz,sH hi⟩,fun b hb=>by rw[←hN i hi];exact q7 b hb⟩
 |map m =>
  obtain⟨r,es,clock,e1,e2,e3,e4⟩:=o
  exact⟨r,es,clock,by rw[←hθ i hi];exact e1,by rw[←hw];exact e2,e3,fun j q e hj he=>⟨(e4 j q e hj he).1,sH (e4 j q e hj he).2⟩⟩
 |it t p =>
  obtain⟨r,e1,e2⟩:=o
  exact⟨r,by rw[←hθ i hi];exact e1,by rw[←hw];exact e2⟩
theorem Zb{C:Cx}{A B:List AV}{x y:List Value}(h1:A.length=x.length)(ha:∀(j:Nat) u v,A[j]?=some u→x[j]?=some v→D7 C u v)(hb:∀(j:Nat) u v,B[j]?=some u→y[j]?=some v→D7 C u v):∀(j:Nat) u v,(A++B)[j]?=some u→(x++y)[j]?=some v→D7 C u v:=fun j u v hu hv=>by
 by_cases hj:j<A.length
 ·rw[List.getElem?_append_left hj]at hu
  rw[List.getElem?_append_left (by omega)]at hv
  exact ha j u v hu hv
 ·rw[List.getElem?_append_right (by omega)]at hu
  rw[List.getElem?_append_right (by omega),←h1]at hv
  exact hb _ u v hu hv
theorem HU{Cl:List Value→World→(Ending→World→Prop)→Prop}(ux:∀{vs:List Value} {w:World} {R R':Ending→World→Prop},Cl vs w R→(∀e w',R e w'→R' e w')→Cl vs w R')
  {A args:List AV} {r:AV} {m0 m1:Nat} {hp0 hp1:Hp} (ι off:List Nat) {θ:Th} {a:Act} {w:World} (hs:J5 E n θ σ a w) {vs:List Value} (yO:A.length=vs.length) (hr:∀(j:Nat) x v,A[j]?=some x→vs[j]?=some v→D7 (cx E θ σ w) x v)
  (hL:BA (K2 ι) (K2 off) args=A) (mB:U4 m0 args=true) (hι:Nat.beq ι.length m0=true) (sR:Cu ι σ.nx=true) (mP:Dr σ.hp hp0 ι off m0) (mD:BB hp0 hp1 m0=true)
  (py:K9 m0 hp0=true) (nL:K9 m1 hp1=true) (hm:Nat.ble m0 m1=true)
  (hc:∀(X:Nat→Prop) (θc:Th),(∀k,X k→k<w.heap.size)→R8 (fun k=>X k∨owned θc hp0 k) w→IY X θc m0 hp0 w→(∀k,owned θc hp0 k→(cx E θ σ w).own k)→(∀k,E.X k→X k)→(∀k,X k→(cx E θ σ w).U k)→args.length=vs.length→(∀(j:Nat) a v,args[j]?=some a→vs[j]?=some v→D7 ⟨θc,m0,hp0,X,w⟩ a v) →
   Cl vs w (EY X θc w m0 hp0 m1 hp1 r)) :
  Cl vs w fun e w'=>∃v Θ,e=.returned v∧J5 E n Θ ⟨σ.sl,σ.nx+(m1-m0),U7 (gρ ι m0 σ.nx) (gs ι m0 σ.hp) hp1++σ.hp⟩ a w' ∧
   D7 (cx E Θ ⟨σ.sl,σ.nx+(m1-m0),U7 (gρ ι m0 σ.nx) (gs ι m0 σ.hp) hp1++σ.hp⟩ w') (N7 (gρ ι m0 σ.nx) (gs ι m0 σ.hp) r) v∧w.heap.size≤w'.heap.size∧∀k,k<w.heap.size→¬(cx E θ σ w).own k→w'.heap[k]?=w.heap[k]?:=by
 have hι:=Nat.eq_of_beq_eq_true hι
 have hm:=Nat.ble_eq▸hm
 obtain⟨sO,rp⟩:=ND sR
 rw[hι]at sO rp
 have mP:=NC mP
 have mD:=Ks mD
 let C:=cx E θ σ w
 let θc:Th:=⟨fun i=>θ (K2 ι i),fun i=>θ.N (K2 ι i)⟩
 let Xc:Nat→Prop:=fun k=>C.U k∧¬owned θc hp0 k
 let c0:Cx:=⟨θc,m0,hp0,Xc,w⟩
 have oC:∀k,owned θc hp0 k→∃i b0,i<m0∧A5 hp0 i=some b0∧A5 σ.hp (K2 ι i)=some (j9 (K2 ι) (K2 off) i b0)∧FP θ (K2 ι i) (j9 (K2 ι) (K2 off) i b0) k:=by
  rintro k ⟨i,b,hi,hk⟩
  have lY:=(CW py hi).1
  exact⟨i,b,lY,hi,by rw[mP i lY,hi];rfl,(FP.ren (θ:=θc) rfl rfl).2 hk⟩
 have xw:∀k,c0.U k→C.U k:=by
  rintro k (hk|hk)
  ·exact hk.1
  ·obtain⟨i,b0,_,_,h1,h2⟩:=oC k hk
   exact .inr ⟨_,_,h1,h2⟩
 have ow:∀i,i<c0.nx→∀e sz v l,A5 c0.hp i=some (.row e sz v l)→A5 C.hp (K2 ι i)=some (.row e sz (v+K2 off i) l):=by
  intro i hi e sz v l hl
  have:=mP i hi
  have mM:A5 hp0 i=some (.row e sz v l):=hl
  rw[mM]at this
  exact this
 have lX:args.length=vs.length:=by
  have:=congrArg List.length hL
  rw[P9,List.length_map]at this
  rw[this,yO]
 have vd:IY Xc θc m0 hp0 w:=by
  refine⟨fun i b hi=>?_,fun i j b b' k hi hj tj ur=>?_,fun i b k hi hk hX=>hX.2 ⟨i,b,hi,hk⟩⟩
  ·obtain⟨lY,xB⟩:=CW py hi
   have h1:A5 σ.hp (K2 ι i)=some (j9 (K2 ι) (K2 off) i b):=by rw[mP i lY,hi];rfl
   exact⟨lY,Za (c:=c0) (c':=C) (fun i _=>rfl) (fun i _=>rfl) rfl xw ow lY xB (hs.owns _ _ h1).2⟩
  ·have h1:=(CW py hi).1
   have h2:=(CW py hj).1
   refine rp i j h1 h2 (hs.apart _ _ (j9 (K2 ι) (K2 off) i b) (j9 (K2 ι) (K2 off) j b') k (by rw[mP i h1,hi];rfl) (by rw[mP j h2,hj];rfl) ((FP.ren (θ:=θc) rfl rfl).2 tj) ((FP.ren (θ:=θc) rfl rfl).2 ur))
 have up:∀k,owned θc hp0 k→C.own k:=fun k hk=>by
  obtain⟨i,b0,_,_,h1,h2⟩:=oC k hk
  exact⟨_,_,h1,h2⟩
 have pR:=hc Xc θc (fun k hk=>hs.evT.Ult k hk.1) (hs.evT.tab.mono (fun k _ hk=>hk.elim (fun h=>h.1) (fun h=>xw k (.inr h))) fun _ _ _=>rfl) vd up (fun k hk=>⟨.inl hk,fun ho=>by
  obtain⟨i,b0,_,_,h1,h2⟩:=oC k ho
  exact(hs.mine _ _ k h1 h2).1 hk⟩) (fun _ hk=>hk.1) lX fun j av v hj hv=>by
  refine Pg (c:=c0) (c':=C) (ρ:=K2 ι) (s:=K2 off) (fun i _=>rfl) rfl xw ow (Ax mB av (List.mem_of_getElem? hj)) (hr j _ v ?_ hv)
  rw[←hL,P9];simp[hj]
 refine ux pR ?_
 rintro e w' ⟨⟨v,θ',rfl,hv,pY,mI,mv⟩,qS,oY,pa,lj,my⟩
 let ρ:=gρ ι m0 σ.nx
 let s:=gs ι m0 σ.hp
 have rm:∀i j,i<m1→j<m1→ρ i=ρ j→i=j:=by
  intro i j hi hj he
  by_cases h1:i<m0<;>by_cases h2:j<m0
  ·exact rp i j h1 h2 (by simpa only[ρ,KH h1,KH h2]using he)
  ·have:=sO i h1
   simp only[ρ,KH h1,HT h2]at he
   omega
  ·have:=sO j h2
   simp only[ρ,HT h1,KH h2]at he
   omega
  ·simp only[ρ,HT h1,HT h2]at he
   omega
 have vq:∀j,j<m1→ρ j<σ.nx+(m1-m0):=by
  intro j hj
  by_cases h1:j<m0
  ·have:=sO j h1;simp only[ρ,KH h1];omega
  ·simp only[ρ,HT h1];omega
 have rR:∀j,j<m1→ρ j<σ.nx→j<m0:=by
  intro j hj lY
  by_cases h1:j<m0
  ·exact h1
  ·simp only[ρ,HT h1]at lY;omega
 let Θ:Th:=⟨fun i=>open Classical in if h:∃j,j<m1∧ρ j=i then θ' (Classical.choose h)else θ i,fun i=>open Classical in if h:∃j,j<m1∧ρ j=i then θ'.N (Classical.choose h)else θ.N i⟩
 have vT:∀j,j<m1→Θ (ρ j)=θ' j:=by
  intro j hj
  have hex:∃j',j'<m1∧ρ j'=ρ j:=⟨j,hj,rfl⟩
  have:Classical.choose hex=j:=rm _ _ (Classical.choose_spec hex).1 hj (Classical.choose_spec hex).2
  simp only[Θ,dif_pos hex,this]
 have uU:∀j,j<m1→Θ.N (ρ j)=θ'.N j:=by
  intro j hj
  have hex:∃j',j'<m1∧ρ j'=ρ j:=⟨j,hj,rfl⟩
  have:Classical.choose hex=j:=rm _ _ (Classical.choose_spec hex).1 hj (Classical.choose_spec hex).2
  simp only[Θ,dif_pos hex,this]
 have uG:∀i,(∀j,j<m1→ρ j≠i)→Θ.N i=θ.N i:=by
  intro i hi
  have:¬∃j,j<m1∧ρ j=i:=fun ⟨j,hj,he⟩=>hi j hj he
  simp only[Θ,dif_neg this]
 have wD:∀i,(∀j,j<m1→ρ j≠i)→Θ i=θ i:=by
  intro i hi
  have:¬∃j,j<m1∧ρ j=i:=fun ⟨j,hj,he⟩=>hi j hj he
  simp only[Θ,dif_neg this]
 have uI:∀{j:Nat} {b:C6} {k:Nat},j<m1→FP Θ (ρ j) (j9 ρ s j b) k→FP θ' j b k:=fun hj h=>(FP.ren (vT _ hj) (uU _ hj)).1 h
 have tr:∀{i:Nat} {b:C6} {k:Nat},(∀j,j<m1→ρ j≠i)→FP Θ i b k→FP θ i b k:=fun hi h=>by
  unfold FP at h ⊢
  rwa[wD _ hi,uG _ hi]at h
 let HP:=U7 ρ s hp1++σ.hp
 let σ':St:=⟨σ.sl,σ.nx+(m1-m0),HP⟩
 have oS:∀i,σ.nx≤i→A5 σ.hp i=none:=by
  intro i hi
  cases hx:A5 σ.hp i with
  |none=>rfl
  |some b=>have:=(hs.owns i b hx).1;omega
 have oT:∀j,j<m1→A5 HP (ρ j)=(A5 hp1 j).map (j9 ρ s j):=by
  intro j hj
  have:=HS (ρ:=ρ) (s:=s) rm hp1 σ.hp nL j hj
  unfold A5
  rw[this]
  cases hx:look hp1 j with
  |some b=>cases b<;>rfl
  |none =>
   simp only[Option.map_none]
   have oM:¬j<m0:=fun h=>by have:=(mD j h).1;rw[hx]at this;cases this
   have h2:=oS (ρ j) (by simp only[ρ,HT oM];omega)
   exact h2
 have nl:∀i,(∀j,j<m1→ρ j≠i)→A5 HP i=A5 σ.hp i:=by
  intro i hi
  unfold A5
  rw[CI (ρ:=ρ) (s:=s) hp1 σ.hp nL i hi]
 have pG:∀j,j<m0→ρ j=K2 ι j:=fun j hj=>KH hj
 have tF:∀k,owned θc hp0 k→C.own k:=fun k hk=>by
  obtain⟨i,b0,_,_,h1,h2⟩:=oC k hk
  exact⟨_,_,h1,h2⟩
 have rT:∀k,owned θc hp0 k→¬E.X k∧(E.O k∨E.w0.heap.size≤k):=fun k hk=>by
  obtain⟨i,b0,_,_,h1,h2⟩:=oC k hk
  exact hs.mine _ _ k h1 h2
 have ov:∀i b k,A5 σ.hp i=some b→(∀j,j<m1→ρ j≠i)→FP θ i b k→¬owned θc hp0 k:=fun i b k hi ln hk ho=>by
  obtain⟨j,b0,hj,_,h1,h2⟩:=oC k ho
  have:=hs.apart _ _ _ _ k hi h1 hk h2
  exact ln j (by omega) (by rw[pG j hj];exact this.symm)
 let C':=cx E Θ σ' w'
 have le:C.le C':=by
  refine⟨Nat.le_add_right _ _,fun i hi=>?_,fun i hi e' lb v' l' hl=>?_,lj,fun k hk hu=>my k hk fun ho=>hu (.inr (tF k ho)),fun k hk hu=>?_⟩
  ·by_cases hex:∃j,j<m1∧ρ j=i
   ·obtain⟨j,hj,rfl⟩:=hex
    have nu:=rR j hj hi
    have h1:=mv j nu
    have h2:θc j=θ (ρ j):=by rw[pG j nu]
    rw[h2]at h1
    show Θ (ρ j)=θ (ρ j)∨_
    rw[vT j hj]
    exact h1.imp id (·.1)
   ·exact .inl (wD i fun j hj he=>hex ⟨j,hj,he⟩)
  ·by_cases hex:∃j,j<m1∧ρ j=i
   ·obtain⟨j,hj,rfl⟩:=hex
    have nu:=rR j hj hi
    have h1:A5 HP (ρ j)=some (.row e' lb v' l'):=hl
    rw[oT j hj,Option.map_eq_some_iff]at h1
    obtain⟨b,hb,nw⟩:=h1
    cases b with
    |bx τ l=>cases nw
    |map m=>cases nw
    |it _ _=>cases nw
    |row e1 sz1 v1 l1 =>
     simp only[j9]at nw
     cases nw
     obtain⟨e0,v0,l0,h0,oH⟩:=(mD j nu).2 _ _ _ _ hb
     have h3:=ow j nu e0 lb v0 l0 h0
     refine⟨e0,v0+K2 off j,l0,by rw[pG j nu];exact h3,?_⟩
     have om:A5 σ.hp (K2 ι j)=some (.row e0 lb (v0+K2 off j) l0):=h3
     have mC:Nat.blt j m0=true:=Nat.blt_eq▸nu
     by_cases hk:Y5 e0=true
     ·have zP:s j=v0+K2 off j:=by
       simp only[s,gs,mC,XJ,om,hk,cond]
      by_cases zL:v1=0
      ·have wi:θ' j=θ (K2 ι j):=(mv j nu).resolve_right fun h=>h.2 ⟨_,_,_,_,hb,oH.trans hk⟩
       obtain⟨x1,o1,_⟩:=(pY.owns j _ hb).2
       obtain⟨x2,o2,_⟩:=(hs.owns _ _ om).2
       have zN:R7 w' e' lb (θ' j) l'.length x1:=o1
       have o2':R7 w e0 lb (θ (K2 ι j)) l0.length x2:=o2
       rw[wi]at zN
       refine .inr ⟨by rw[zP];omega,o2'.len zN,?_⟩
       show Θ (ρ j)=θ (ρ j)
       rw[vT j hj,wi,pG j nu]
      ·exact .inl (by rw[zP];omega)
     ·have:s j=v0+K2 off j+1:=by
       have lg:Y5 e0=false:=by
        cases hx:Y5 e0 with
        |false=>rfl
        |true=>exact absurd hx hk
       simp only[s,gs,mC,XJ,om,lg,cond]
      exact .inl (by omega)
   ·have h1:A5 HP i=some (.row e' lb v' l'):=hl
    have ln:∀j,j<m1→ρ j≠i:=fun j hj he=>hex ⟨j,hj,he⟩
    rw[nl i ln]at h1
    exact⟨e',v',l',h1,.inr ⟨rfl,rfl,wD i ln⟩⟩
  ·rcases hu with hu|⟨i,b,hi,mQ⟩
   ·exact .inl hu
   ·have mo:A5 HP i=some b:=hi
    have lg:FP Θ i b k:=mQ
    by_cases hex:∃j,j<m1∧ρ j=i
    ·obtain⟨j,hj,rfl⟩:=hex
     rw[oT j hj,Option.map_eq_some_iff]at mo
     obtain⟨b1,nD,rfl⟩:=mo
     rcases mI j b1 k nD (uI hj lg)with h|h
     ·exact .inr (tF k h)
     ·have pF:k<w.heap.size:=hk
      omega
    ·have ln:∀j,j<m1→ρ j≠i:=fun j hj he=>hex ⟨j,hj,he⟩
     rw[nl i ln]at mo
     exact .inr ⟨i,b,mo,tr ln lg⟩
 have ren:Ren ⟨θ',m1,hp1,Xc,w'⟩ C' ρ s:=by
  refine⟨vq,vT,uU,rfl,fun k hu=>?_,fun j hj e sz v' l hl=>?_⟩
  ·rcases hu with hu|⟨i,b,hi,hk⟩
   ·exact .inl ⟨.inl hu,fun ho=>(rT k ho).1 hu⟩
   ·have mo:A5 HP i=some b:=hi
    have lg:FP Θ i b k:=hk
    by_cases hex:∃j,j<m1∧ρ j=i
    ·obtain⟨j,hj,rfl⟩:=hex
     rw[oT j hj,Option.map_eq_some_iff]at mo
     obtain⟨b1,nD,rfl⟩:=mo
     exact .inr ⟨j,b1,nD,uI hj lg⟩
    ·have ln:∀j,j<m1→ρ j≠i:=fun j hj he=>hex ⟨j,hj,he⟩
     rw[nl i ln]at mo
     have lg:=tr ln lg
     exact .inl ⟨.inr ⟨i,b,mo,lg⟩,ov i b k mo ln lg⟩
  ·have h1:A5 HP (ρ j)=some (.row e sz v' l):=hl
   rw[oT j hj,Option.map_eq_some_iff]at h1
   obtain⟨b,hb,nw⟩:=h1
   cases b with
   |bx τ l=>cases nw
   |map m=>cases nw
   |it _ _=>cases nw
   |row e1 sz1 v1 l1 =>
    simp only[j9]at nw
    cases nw
    exact⟨v1,hb,rfl⟩
 have pB:J5 E n Θ σ' a w':=by
  refine⟨hs.size,hs.defers.mono fun k hd=>my k (HE hd) fun ho=>(vd.nodf ho) hd,⟨qS.trans hs.fr.os,oY.trans hs.fr.tape,pa.trans hs.fr.output,Nat.le_trans hs.fr.size lj,fun k hk hO=>?_⟩,fun t x hx=>(hs.slots t x hx).mono le,fun i b hi=>?_,fun i1 i2 b1 b2 k h1 h2 nr lg=>?_,fun i b k hi hk=>?_,hs.X,⟨by have:=hs.base.1;show E.n0≤σ.nx+_;omega,fun i hi=>?_⟩⟩
  ·have h1:=hs.fr.size
   rw[my k (by omega) fun ho=>?_]
   ·exact hs.fr.block k hk hO
   ·rcases(rT k ho).2 with h2|h2
    ·exact hO h2
    ·omega
  ·have mo:A5 HP i=some b:=hi
   by_cases hex:∃j,j<m1∧ρ j=i
   ·obtain⟨j,hj,rfl⟩:=hex
    rw[oT j hj,Option.map_eq_some_iff]at mo
    obtain⟨b1,nD,rfl⟩:=mo
    exact⟨vq j hj,Vp ren hj (pY.owns j b1 nD).2⟩
   ·have ln:∀j,j<m1→ρ j≠i:=fun j hj he=>hex ⟨j,hj,he⟩
    rw[nl i ln]at mo
    obtain⟨h1,h2⟩:=hs.owns i b mo
    refine⟨by show i<σ.nx+_;omega,h2.mono le (wD i ln) (fun k=>congrFun (uG i ln) k) fun k hk=>my k (h2.lt hk) (ov i b k mo ln hk)⟩
  ·have mJ:A5 HP i1=some b1:=h1
   have mR:A5 HP i2=some b2:=h2
   by_cases e1:∃j,j<m1∧ρ j=i1<;>by_cases e2:∃j,j<m1∧ρ j=i2
   ·obtain⟨j1,tL,rfl⟩:=e1
    obtain⟨j2,oP,rfl⟩:=e2
    rw[oT j1 tL,Option.map_eq_some_iff]at mJ
    rw[oT j2 oP,Option.map_eq_some_iff]at mR
    obtain⟨c1,nt,rfl⟩:=mJ
    obtain⟨c2,ng,rfl⟩:=mR
    rw[pY.apart j1 j2 c1 c2 k nt ng (uI tL nr) (uI oP lg)]
   ·obtain⟨j1,tL,rfl⟩:=e1
    have ln:∀j,j<m1→ρ j≠i2:=fun j hj he=>e2 ⟨j,hj,he⟩
    rw[oT j1 tL,Option.map_eq_some_iff]at mJ
    obtain⟨c1,nt,rfl⟩:=mJ
    have nr:=uI tL nr
    rw[nl i2 ln]at mR
    have lg:=tr ln lg
    rcases mI j1 c1 k nt nr with h|h
    ·exact absurd h (ov i2 b2 k mR ln lg)
    ·have:=(hs.owns i2 b2 mR).2.lt lg
     have h3:k<w.heap.size:=this
     omega
   ·obtain⟨j2,oP,rfl⟩:=e2
    have ln:∀j,j<m1→ρ j≠i1:=fun j hj he=>e1 ⟨j,hj,he⟩
    rw[oT j2 oP,Option.map_eq_some_iff]at mR
    obtain⟨c2,ng,rfl⟩:=mR
    have lg:=uI oP lg
    rw[nl i1 ln]at mJ
    have nr:=tr ln nr
    rcases mI j2 c2 k ng lg with h|h
    ·exact absurd h (ov i1 b1 k mJ ln nr)
    ·have:=(hs.owns i1 b1 mJ).2.lt nr
     have h3:k<w.heap.size:=this
     omega
   ·have rL:∀j,j<m1→ρ j≠i1:=fun j hj he=>e1 ⟨j,hj,he⟩
    have uo:∀j,j<m1→ρ j≠i2:=fun j hj he=>e2 ⟨j,hj,he⟩
    rw[nl i1 rL]at mJ
    rw[nl i2 uo]at mR
    exact hs.apart i1 i2 b1 b2 k mJ mR (tr rL nr) (tr uo lg)
  ·have mo:A5 HP i=some b:=hi
   by_cases hex:∃j,j<m1∧ρ j=i
   ·obtain⟨j,hj,rfl⟩:=hex
    rw[oT j hj,Option.map_eq_some_iff]at mo
    obtain⟨c1,nt,rfl⟩:=mo
    rcases mI j c1 k nt (uI hj hk)with h|h
    ·exact rT k h
    ·have h1:=hs.fr.size
     exact⟨fun hx=>by have:=hs.X k hx;omega,.inr (by omega)⟩
   ·have ln:∀j,j<m1→ρ j≠i:=fun j hj he=>hex ⟨j,hj,he⟩
    rw[nl i ln]at mo
    exact hs.mine i b k mo (tr ln hk)
  ·have mE:i<σ.nx:=by have:=hs.base.1;omega
   show Θ i=_∨_∧¬Kept HP i
   by_cases hex:∃j,j<m1∧ρ j=i
   ·obtain⟨j,hj,rfl⟩:=hex
    have nu:=rR j hj mE
    have h1:=mv j nu
    have h2:θc j=θ (ρ j):=by rw[pG j nu]
    rw[h2]at h1
    rw[vT j hj]
    by_cases hkp:Kept HP (ρ j)
    ·obtain⟨e,sz,v,l,hl,hk⟩:=hkp
     have mO:=hl
     rw[oT j hj,Option.map_eq_some_iff]at mO
     obtain⟨b,hb,nw⟩:=mO
     cases b with
     |bx _ _=>cases nw
     |map _=>cases nw
     |it _ _=>cases nw
     |row e1 sz1 v1 l1 =>
      simp only[j9]at nw
      cases nw
      have wi:=h1.resolve_right fun h=>h.2 ⟨_,_,_,_,hb,hk⟩
      obtain⟨e0,v0,l0,h0,oH⟩:=(mD j nu).2 _ _ _ _ hb
      have h3:=ow j nu _ _ _ _ h0
      rw[wi]
      rcases hs.base.2 (ρ j) hi with h4|⟨_,h4⟩
      ·exact .inl h4
      ·exact absurd ⟨_,_,_,_,(by rw[pG j nu];exact h3),oH.symm.trans hk⟩ h4
    ·rcases h1 with h1|⟨⟨x,m,k,h1⟩,_⟩
     ·rw[h1]
      exact(hs.base.2 _ hi).imp id fun h=>⟨h.1,hkp⟩
     ·rcases hs.base.2 _ hi with h4|⟨h4,_⟩
      ·exact .inr ⟨⟨x,m,k,by rw[←h4,h1]⟩,hkp⟩
      ·exact .inr ⟨h4,hkp⟩
   ·have ln:∀j,j<m1→ρ j≠i:=fun j hj he=>hex ⟨j,hj,he⟩
    rw[wD i ln]
    refine(hs.base.2 i hi).imp id fun ⟨h1,h2⟩=>⟨h1,fun ⟨e,sz,v,l,hl,hk⟩=>h2 ⟨e,sz,v,l,?_,hk⟩⟩
    rw[←nl i ln];exact hl
 exact⟨v,Θ,rfl,pB,OZ ren hv,lj,fun k hk ln=>my k hk fun ho=>ln (up k ho)⟩
theorem Pl{f:Nat}{g:Operand}{xs:List Operand}{ts:Array TypeId}{L args caps capF:List AV}{r:AV}{m0 m1:Nat}{hp0 hp1:Hp}(ι off:List Nat)(hc:B9 P f m0 hp0 args m1 hp1 r)
  (hg:(capF=[]∧caps=[]∧g=.func f)∨(capF=[]∧f<HA∧F3 σ g=some (.fo f caps))∨(caps=[]∧F3 σ g=some (.fo (HA+f) capF))) (ns:l8 (F3 σ) xs=some L) (hL:BA (K2 ι) (K2 off) args=capF++L++caps) (mB:U4 m0 args=true) (hι:Nat.beq ι.length m0=true) (sR:Cu ι σ.nx=true) (mP:Dr σ.hp hp0 ι off m0) (mD:BB hp0 hp1 m0=true)
  (py:K9 m0 hp0=true) (nL:K9 m1 hp1=true) (hm:Nat.ble m0 m1=true) (hd:Nat.blt d n=true)
  (k:B2 P E n ops rest (St.put ⟨σ.sl,σ.nx+(m1-m0),U7 (gρ ι m0 σ.nx) (gs ι m0 σ.hp) hp1++σ.hp⟩ d (N7 (gρ ι m0 σ.nx) (gs ι m0 σ.hp) r)) K) :
  B2 P E n ops (⟨some d,.call ⟨.value g,⟨xs⟩,ts⟩,ty,pos,after,none⟩::rest) σ K:=by
 intro a w ⟨θ,hs⟩
 obtain⟨hl,mw⟩:=CF hs.evT xs L ns
 let C:=cx E θ σ w
 obtain⟨cf,cs,oM,nB,uj,ly,nA⟩:∃cf cs:List Value,a.eval g=.func (.func f) cf.toArray cs.toArray∧capF.length=cf.length∧(∀(j:Nat) x c,capF[j]?=some x→cf[j]?=some c→D7 C x c)∧caps.length=cs.length∧∀(j:Nat) x c,caps[j]?=some x→cs[j]?=some c→D7 C x c:=by
  rcases hg with ⟨rfl,rfl,rfl⟩|⟨rfl,hf,hg⟩|⟨rfl,hg⟩
  ·exact⟨[],[],rfl,rfl,fun j x c hx=>by simp at hx,rfl,fun j x c hx=>by simp at hx⟩
  ·have:=hs.ev hg
   generalize a.eval g=v at this
   cases this with
   |im hi=>cases hi
   |fo f l cs hl hc=>exact⟨[],cs,by unfold RU;rw[if_pos hf],rfl,fun j x c hx=>by simp at hx,hl,hc⟩
  ·have:=hs.ev hg
   generalize a.eval g=v at this
   generalize hF:HA+f=F at this
   cases this with
   |im hi=>cases hi
   |fo F l cs hl hc=>exact⟨cs,[],by unfold RU;rw[if_neg (by omega),←hF,Nat.add_sub_cancel_left],hl,hc,rfl,fun j x c hx=>by simp at hx⟩
 have wI:L.length=(xs.map a.eval).length:=by rw[List.length_map,←hl]
 have hr:∀(j:Nat) x v,(capF++L++caps)[j]?=some x→(cf++xs.map a.eval++cs)[j]?=some v→D7 C x v :=
  Zb (by rw[List.length_append,List.length_append,nB,wI]) (Zb nB uj mw) nA
 unfold wpList
 rw[if_pos (by simp[Region.wanted])]
 left
 simp only[Oper.wp]
 rw[ZF hc.1 oM]
 simp only[Oper.upon]
 rw[show cf.toArray++(xs.map a.eval).toArray++cs.toArray=(cf++xs.map a.eval++cs).toArray by simp]
 refine Calls.mono (HU (Cl:=fun vs w R=>Calls P f vs.toArray w R) (fun h hr=>Calls.mono h hr) (args:=args) (r:=r) (hp1:=hp1) ι off hs (by rw[List.length_append,List.length_append,List.length_append,List.length_append,wI,nB,ly]) hr hL mB hι sR mP mD py nL hm fun X θc hX ht hb _ _ _ hl hv=>hc.2 X θc w _ hX ht hb hl hv) ?_
 rintro e w' ⟨v,Θ,rfl,pB,nJ,_⟩
 exact k _ _ ⟨Θ,pB.put (Nat.blt_eq▸hd) nJ⟩
theorem b5{f:Nat}{xs:List Operand}{ts:Array TypeId}{L args:List AV}{r:AV}{m0 m1:Nat}{hp0 hp1:Hp}(ι off:List Nat)(hc:B9 P f m0 hp0 args m1 hp1 r)
  (ns:l8 (F3 σ) xs=some L) (hL:BA (K2 ι) (K2 off) args=L) (mB:U4 m0 args=true) (hι:Nat.beq ι.length m0=true) (sR:Cu ι σ.nx=true) (mP:Dr σ.hp hp0 ι off m0) (mD:BB hp0 hp1 m0=true)
  (py:K9 m0 hp0=true) (nL:K9 m1 hp1=true) (hm:Nat.ble m0 m1=true) (hd:Nat.blt d n=true)
  (k:B2 P E n ops rest (St.put ⟨σ.sl,σ.nx+(m1-m0),U7 (gρ ι m0 σ.nx) (gs ι m0 σ.hp) hp1++σ.hp⟩ d (N7 (gρ ι m0 σ.nx) (gs ι m0 σ.hp) r)) K) :
  B2 P E n ops (⟨some d,.call ⟨.value (.func f),⟨xs⟩,ts⟩,ty,pos,after,none⟩::rest) σ K :=
 Pl (caps:=[]) (capF:=[]) ι off hc (.inl ⟨rfl,rfl,rfl⟩) ns (by rw[List.append_nil,List.nil_append];exact hL) mB hι sR mP mD py nL hm hd k
theorem G1{f:Nat}{xs:List Operand}{ts:Array TypeId}{L args:List AV}{r:AV}{m0 m1:Nat}{hp0 hp1:Hp}(ι off:List Nat)(hc:B9 P f m0 hp0 args m1 hp1 r)
  (ns:l8 (F3 σ) xs=some L) (hL:BA (K2 ι) (K2 off) args=L) (mB:U4 m0 args=true) (hι:Nat.beq ι.length m0=true) (sR:Cu ι σ.nx=true) (mP:Dr σ.hp hp0 ι off m0) (mD:BB hp0 hp1 m0=true)
  (py:K9 m0 hp0=true) (nL:K9 m1 hp1=true) (hm:Nat.ble m0 m1=true) (hd:Nat.blt d n=true)
  (k:U5 (N7 (gρ ι m0 σ.nx) (gs ι m0 σ.hp) r) fun r2=>U6 (U7 (gρ ι m0 σ.nx) (gs ι m0 σ.hp) hp1++σ.hp) fun hp2=>H0 (σ.nx+(m1-m0)) fun qj=>B2 P E n ops rest (St.put ⟨σ.sl,qj,hp2⟩ d r2) K) :
  B2 P E n ops (⟨some d,.call ⟨.value (.func f),⟨xs⟩,ts⟩,ty,pos,after,none⟩::rest) σ K :=
 b5 ι off hc ns hL mB hι sR mP mD py nL hm hd (D8 (S5 (EW k)))
theorem Vq{f:Nat}{g:Operand}{xs:List Operand}{ts:Array TypeId}{L args caps:List AV}{r:AV}{m0 m1:Nat}{hp0 hp1:Hp}(ι off:List Nat)(hc:B9 P f m0 hp0 args m1 hp1 r)
  (hg:F3 σ g=some (.fo f caps)) (ns:l8 (F3 σ) xs=some L) (hL:BA (K2 ι) (K2 off) args=L++caps) (mB:U4 m0 args=true) (hι:Nat.beq ι.length m0=true) (sR:Cu ι σ.nx=true) (mP:Dr σ.hp hp0 ι off m0) (mD:BB hp0 hp1 m0=true)
  (py:K9 m0 hp0=true) (nL:K9 m1 hp1=true) (hm:Nat.ble m0 m1=true) (hd:Nat.blt d n=true)
  (k:U5 (N7 (gρ ι m0 σ.nx) (gs ι m0 σ.hp) r) fun r2=>U6 (U7 (gρ ι m0 σ.nx) (gs ι m0 σ.hp) hp1++σ.hp) fun hp2=>H0 (σ.nx+(m1-m0)) fun qj=>B2 P E n ops rest (St.put ⟨σ.sl,qj,hp2⟩ d r2) K) (hf:Nat.blt f HA=true:=by rfl) :
  B2 P E n ops (⟨some d,.call ⟨.value g,⟨xs⟩,ts⟩,ty,pos,after,none⟩::rest) σ K :=
 Pl (capF:=[]) ι off hc (.inr (.inl ⟨rfl,by simpa using hf,hg⟩)) ns (by rw[List.nil_append];exact hL) mB hι sR mP mD py nL hm hd (D8 (S5 (EW k)))
theorem Lf{f:Nat}{xs:List Operand}{caps l:List AV}(ha:l8 (F3 σ) xs=some caps)(hd:Nat.blt d n=true)(k:B2 P E n ops rest (σ.put d (.fo f caps)) K)(hf:Nat.blt f HA=true:=by rfl):
  b7 P E n ops ⟨some d,.makeFunc (.func f) ⟨[]⟩ ⟨xs⟩,ty,pos,after,none⟩ rest l σ K :=
 ⟨Ij (Rs ha (by simpa using hf)) hd k⟩
end rules
section pure
variable {P:Program} {E:Env} {nx:Nat} {hp:Hp} {ev:Operand→Option AV} {ty:TypeId} {x y:Operand} {F:AV→Prop} {T T2:TypeId}
theorem ik{av:AV}(hx:ev x=some av):Dy P E nx hp ev (.move x) ty av:=fun _ _ _ _ _ _ h=>⟨_,fun _=>rfl,h.rel hx⟩
theorem cN{av:AV}(hx:ev x=some av):Dy P E nx hp ev (.assign x) ty av:=fun _ _ _ _ _ _ h=>⟨_,fun _=>rfl,h.rel hx⟩
theorem SN{op:BinOp}{k:IntKind}{a b:Int}{r:Value}(hx:ev x=some (.v (.int k a)))(hy:ev y=some (.v (.int k b)))(hr:Ci op k a b=some r):
  Dy P E nx hp ev (.binOp op T x y T2) ty (.v r) :=
 fun _ _ _ _ _ _ h=>⟨r,fun w=>K0 (by rw[(h.rel hx).val,(h.rel hy).val];exact Aa ..) (by rw[(h.rel hx).val,(h.rel hy).val];exact Rb hr T w),.im (.v _)⟩
theorem il{a b:List UInt8}(hx:ev x=some (.str a))(hy:ev y=some (.str b))(hr:a.length+b.length≤9223372036854775807):
  Dy P E nx hp ev (.binOp .add T x y T2) ty (.str (a++b)) :=
 fun _ _ _ _ _ _ h=>⟨_,fun w=>K0 (by rw[(h.rel hx).sval,(h.rel hy).sval];exact GH ..) (by rw[(h.rel hx).sval,(h.rel hy).sval];exact Rc hr T w),.im (.str _)⟩
theorem Un{S f off sz:Nat}[tf:D9 P S f off sz]{i o:Nat}(hx:ev x=some (.ref i o))(hz:Nat.blt 0 sz=true):Dy P E nx hp ev (.fieldAddr S x f) ty (.ref i (o+off)) :=
 fun _ _ _ θ a w h=>by
  obtain⟨b,hθ,hv,mE⟩:=k7 (h.rel hx)
  refine⟨.pointer (some ⟨b,o+off,none⟩),fun w=>?_,.ref i _ b mE hθ⟩
  simp only[execOp,hv,Sem.run_bind,Ab (P:=P) (S:=S) (f:=f) (off:=off) (sz:=sz) (Nat.blt_eq▸hz),Result.andThen_ok,H3]
  rfl
theorem SO{S f off sz:Nat}[tf:D9 P S f off sz]{l:List AV}(hx:ev x=some (.iptr l))(hz:Nat.blt 0 sz=true):Dy P E nx hp ev (.fieldAddr S x f) ty (.iptr (l.drop off)) :=
 fun _ _ _ θ a w h=>by
  obtain⟨p,g,hv,hu,hc,hr⟩:=Er (h.rel hx)
  refine⟨.pointer (some (p.add off)),fun w=>?_,.im (.iptr _ _ (fun j=>g (off+j)) (fun hne=>?_) (fun j hj=>?_) fun j u oo=>?_)⟩
  ·simp only[execOp,hv,Sem.run_bind,Ab (P:=P) (S:=S) (f:=f) (off:=off) (sz:=sz) (Nat.blt_eq▸hz),Result.andThen_ok]
   rfl
  ·rw[l7];exact hu (by rintro rfl;simp at hne)
  ·rw[DW];exact hc _ (by simp at hj;omega)
  ·rw[List.getElem?_drop]at oo;exact hr _ _ oo
theorem Uo{S f off sz:Nat}[tf:D9 P S f off sz]{i ver k o e us:Nat}{l:List (List AV)}(hx:ev x=some (.elt i ver k o))(hb:A5 hp i=some (.row e us ver l))(hz:Nat.blt 0 sz=true):Dy P E nx hp ev (.fieldAddr S x f) ty (.elt i ver k (o+off)) :=
 fun _ _ _ θ a w h=>by
  obtain⟨g,m,cap,hθ,hv,mE⟩:=CU (h.rel hx) hb
  refine⟨.pointer (some ⟨g,k*us+o+off,none⟩),fun w=>?_,.elt i ver k _ _ mE fun e' lb v' l' mM=>?_⟩
  ·simp only[execOp,hv,Sem.run_bind,Ab (P:=P) (S:=S) (f:=f) (off:=off) (sz:=sz) (Nat.blt_eq▸hz),Result.andThen_ok,H3]
   rfl
  ·have:A5 hp i=some (.row e' lb v' l'):=mM
   rw[hb]at this
   cases this
   exact⟨Nat.le_refl _,fun _=>⟨g,m,cap,hθ,by rw[Nat.add_assoc]⟩⟩
theorem kL{b:Bool}(hx:ev x=some (.v (.bool b))):Dy P E nx hp ev (.unOp .not T x) ty (.v (.bool (!b))) :=
 fun _ _ _ _ _ _ h=>⟨_,fun w=>by simp[execOp,Op.unary,(h.rel hx).val,Sem.run_bind,Sem.run_pure],.im (.v _)⟩
theorem Zc[ts:j8 P T]{l:List UInt8}(hx:ev x=some (.str l)):Dy P E nx hp ev (.call ⟨.builtin .len,#[x],#[T]⟩) ty (.i l.length) :=
 fun _ _ _ _ _ _ h=>⟨_,fun w=>by rw[S3,(h.rel hx).sval];simp[builtin,run_len_string w T ty _ ts.out,Sem.run_bind,Sem.run_pure,goInt,ByteArray.size],.im (.v _)⟩
theorem cO{e sz:Nat}[ts:L8 P T e sz]{lb:Nat}{l:List (List AV)}(hx:ev x=some (.sl lb l)):Dy P E nx hp ev (.call ⟨.builtin .len,#[x],#[T]⟩) ty (.i l.length) :=
 fun _ _ _ _ _ _ h=>by
  obtain⟨_,p,cap,hv⟩:=ZA (h.rel hx)
  exact⟨_,fun w=>by rw[S3,hv];simp[builtin,run_len_slice ts.out.1,Sem.run_bind,Sem.run_pure],.im (.v _)⟩
theorem Zd{e sz:Nat}[ts:L8 P T e sz]{i ver len e' lb:Nat}{l:List (List AV)}(hx:ev x=some (.row i ver len))(hb:A5 hp i=some (.row e' lb ver l)):Dy P E nx hp ev (.call ⟨.builtin .len,#[x],#[T]⟩) ty (.i len) :=
 fun _ _ _ θ a w h=>by
  obtain⟨hl,hv,_⟩:=s7 (h.rel hx) hb
  obtain⟨xs,la,_⟩:=h.row hb
  obtain⟨p,cap,hs,_⟩:=k8 la
  have mj:a.eval x=.slice p l.length cap:=by rw[hv];exact hs
  exact⟨_,fun w=>by rw[S3,mj,hl];simp[builtin,run_len_slice ts.out.1,Sem.run_bind,Sem.run_pure],.im (.v _)⟩
theorem Up{e sz:Nat}[ts:L8 P T e sz]{i ver len e':Nat}{l:List (List AV)}{k:IntKind}{j:Int}(hx:ev x=some (.row i ver len))(hb:A5 hp i=some (.row e' sz ver l))(hy:ev y=some (.v (.int k j)))(h0:0≤j)(h1:j<len):
  Dy P E nx hp ev (.indexAddr T x y) ty (.elt i ver j.toNat 0) :=
 fun _ _ _ θ a w h=>by
  obtain⟨hl,hv,mE⟩:=s7 (h.rel hx) hb
  obtain⟨xs,la,hsz,_⟩:=h.row hb
  have hj:=(h.rel hy).val
  rcases la.2 with ⟨hθ,hn⟩|⟨g,cap,lc,hθ,_,hg,_⟩
  ·omega
  ·have mj:a.eval x=.slice (some ⟨g,0,none⟩) l.length cap:=by rw[hv];exact hθ
   refine⟨.pointer (some ⟨g,j.toNat*sz,none⟩),fun w=>?_,.elt i ver _ 0 _ mE fun e2 nI v2 l2 mO=>?_⟩
   ·simp only[execOp,mj,hj,Sem.run_bind]
    rw[Dn (P:=P) (T:=T) (e:=e) (sz:=sz) h0 (by omega),H3,Nat.zero_add]
    rfl
   ·have:A5 hp i=some (.row e2 nI v2 l2):=mO
    rw[hb]at this
    cases this
    exact⟨Nat.le_refl _,fun _=>⟨g,l.length,cap,hθ,by simp⟩⟩
theorem XK{e sz:Nat}[ts:L8 P T e sz]{l:List (List AV)}{k:IntKind}{i:Int}{el:List AV}(hx:ev x=some (.sl sz l))(hy:ev y=some (.v (.int k i)))(h0:0≤i)(lU:l[i.toNat]?=some el):Dy P E nx hp ev (.indexAddr T x y) ty (.iptr el) :=
 fun _ _ _ θ a w h=>by
  have lY:i.toNat<l.length:=(List.getElem?_eq_some_iff.1 lU).1
  have hi:=(h.rel hy).val
  rcases Es (h.rel hx)with ⟨_,e⟩|⟨p,cap,f,hv,h3,h4,h5,h6,h7,h8⟩
  ·subst e;simp at lY
  ·have hsz:=h6 _ (List.mem_of_getElem? lU)
   refine⟨.pointer (some (p.add (i.toNat*sz))),fun w=>?_,.im (.iptr _ _ (f i.toNat) (fun hne=>?_) (fun j hj=>?_) fun j u hu=>h8 _ _ lU j u hu)⟩
   ·simp only[execOp,hv,hi,Sem.run_bind]
    rw[Dn (P:=P) (T:=T) (e:=e) (sz:=sz) h0 (by omega)]
    rfl
   ·rw[l7]
    refine h5 (by intro e;simp[e]at lY) ?_
    have h9:=List.length_pos_iff.2 hne
    omega
   ·rw[DW]
    exact h7 _ lY _ (by omega)
def cP:Op→Bool
 |.move _|.assign _|.fieldAddr ..|.build ..=>true
 |.binOp .quo ..|.binOp .rem ..|.binOp .shl ..|.binOp .shr ..=>false
 |.binOp ..=>true
 |_=>false
def Ze(ev:Operand→Option AV):Op→Bool
 |.indexAddr _ x _=>match ev x with
  |some (.row ..)=>true
  |some (.sl ..)=>true
  |_=>false
 |.call ⟨.builtin .len,⟨[x]⟩,_⟩=>match ev x with
  |some (.row ..)=>true
  |some (.sl ..)=>true
  |some (.str ..)=>true
  |_=>false
 |.unOp .not _ x=>match ev x with
  |some (.v (.bool _))=>true
  |_=>false
 |op=>cP op
def PV(P:Program)(op:Op)(ev:Operand→Option AV)(hp:Hp)(F:AV→Prop):Prop :=
 match op with
 |.move x=>W4 (ev x) F
 |.assign x=>W4 (ev x) F
 |.binOp op _ x y _=>match op,ev x,ev y with
  |.add,some (.v (.int .i64 a)),some (.v (.int .i64 b))=>G5 (-9223372036854775808≤a+b∧a+b≤9223372036854775807) (F (.v (.int .i64 (a+b))))
  |.sub,some (.v (.int .i64 a)),some (.v (.int .i64 b))=>G5 (-9223372036854775808≤a-b∧a-b≤9223372036854775807) (F (.v (.int .i64 (a-b))))
  |.add,some (.str a),some (.str b)=>G5 (a.length+b.length≤9223372036854775807) (F (.str (a++b)))
  |op,some (.v (.int k a)),some (.v (.int k' b))=>cond (decide (k=k')) (match Ci op k a b with
   |some r=>F (.v r)
   |none=>False) False
  |_,_,_=>False
 |.fieldAddr S x f=>OV P S f fun off sz=>cond (Nat.blt 0 sz) (match ev x with
  |some (.ref i o)=>F (.ref i (o+off))
  |some (.iptr l)=>F (.iptr (l.drop off))
  |some (.elt i ver k o)=>(match A5 hp i with
   |some (.row _ _ mK _)=>G5 (ver=mK) (F (.elt i ver k (o+off)))
   |_=>False)
  |_=>False) False
 |.build T ⟨parts⟩=>match Bo ev parts with
  |some ps=>Iw P T fun zs pl=>EA hp ps (W4 ((Bw pl zs ps).map AV.agg) F)
  |none=>False
 |.indexAddr T x y=>(match ev x,ev y with
  |some (.sl sz l),some (.v (.int _ i))=>IX P T fun _ lb=>cond (Nat.beq sz lb) (P2 l i fun el=>F (.iptr el)) False
  |some (.row r ver len),some (.v (.int _ i))=>(match A5 hp r with
   |some (.row _ sz mK _)=>G5 (ver=mK) (IX P T fun _ lb=>cond (Nat.beq sz lb) (G5 (0≤i∧i<len) (F (.elt r ver i.toNat 0))) False)
   |_=>False)
  |_,_=>False)
 |.call ⟨.builtin .len,⟨[x]⟩,⟨[T]⟩⟩=>(match ev x with
  |some (.sl _ l)=>IX P T fun _ _=>OU l fun m=>F (.i m)
  |some (.str s)=>Dq P T (F (.i s.length))
  |some (.row r ver len)=>(match A5 hp r with
   |some (.row _ _ mK _)=>G5 (ver=mK) (IX P T fun _ _=>F (.i len))
   |_=>False)
  |_=>False)
 |.unOp .not _ x=>(match ev x with
  |some (.v (.bool b))=>F (.v (.bool (!b)))
  |_=>False)
 |_=>False
theorem io{op:Op}(h:PV P op ev hp F):∃av,Dy P E nx hp ev op ty av∧F av:=by
 unfold PV at h
 split at h
 ·obtain⟨a,hx,h⟩:=J6 h;exact⟨a,ik hx,h⟩
 ·obtain⟨a,hx,h⟩:=J6 h;exact⟨a,cN hx,h⟩
 ·split at h
  ·rename_i hx hy;exact⟨_,SN hx hy (by simp only[Ci,P1 h.h]),h.k⟩
  ·rename_i hx hy;exact⟨_,SN hx hy (by simp only[Ci,P1 h.h]),h.k⟩
  ·rename_i hx hy;exact⟨_,il hx hy h.h,h.k⟩
  ·rename_i hx hy
   obtain⟨hk,hq⟩:=cond_false h
   have hk:=of_decide_eq_true hk
   subst hk
   split at hq
   ·rename_i hr;exact⟨_,SN hx hy hr,hq⟩
   ·exact hq.elim
  ·exact h.elim
 ·obtain⟨⟨off,sz,tf,h⟩⟩:=h
  obtain⟨hz,h⟩:=cond_false h
  split at h
  ·rename_i hx;exact⟨_,Un (off:=off) (sz:=sz) hx hz,h⟩
  ·rename_i hx;exact⟨_,SO (off:=off) (sz:=sz) hx hz,h⟩
  ·rename_i hx
   split at h
   ·rename_i hb
    obtain⟨rfl,h⟩:=h
    exact⟨_,Uo (off:=off) (sz:=sz) hx hb hz,h⟩
   ·exact h.elim
  ·exact h.elim
 ·split at h
  ·rename_i ps pn
   obtain⟨⟨zs,pl,tz,tp,h⟩⟩:=h
   obtain⟨hf,h⟩:=o9 h
   obtain⟨a,ha,h⟩:=J6 h
   rw[Option.map_eq_some_iff]at ha
   obtain⟨l,hl,rfl⟩:=ha
   exact⟨_,Vg (T:=_) pn hf hl,h⟩
  ·exact h.elim
 ·split at h
  ·rename_i hx hy
   obtain⟨⟨e,lb,ts,h⟩⟩:=h
   obtain⟨hc,hq⟩:=cond_false h
   have hc:=Nat.eq_of_beq_eq_true hc
   subst hc
   obtain⟨h0,h1,hk⟩:=hq
   rename_i sz l kk i
   have lY:i.toNat<l.length:=by omega
   have lU:l[i.toNat]?=some l[i.toNat]:=List.getElem?_eq_getElem lY
   exact⟨_,XK (e:=e) hx hy h0 lU,hk _ lU⟩
  ·rename_i hx hy
   split at h
   ·rename_i hb
    obtain⟨rfl,h⟩:=h
    obtain⟨⟨e,lb,ts,h⟩⟩:=h
    obtain⟨hc,hq⟩:=cond_false h
    have hc:=Nat.eq_of_beq_eq_true hc
    subst hc
    exact⟨_,Up (e:=e) hx hb hy hq.h.1 hq.h.2,hq.k⟩
   ·exact h.elim
  ·exact h.elim
 ·split at h
  ·rename_i hx
   obtain⟨⟨e,lb,ts,h⟩⟩:=h
   exact⟨_,cO (e:=e) (sz:=lb) hx,h.k⟩
  ·rename_i hx
   obtain⟨ts,h⟩:=h
   exact⟨_,Zc hx,h⟩
  ·rename_i hx
   split at h
   ·rename_i hb
    obtain⟨rfl,h⟩:=h
    obtain⟨⟨e,lb,ts,h⟩⟩:=h
    exact⟨_,Zd (e:=e) (sz:=lb) hx hb,h⟩
   ·exact h.elim
  ·exact h.elim
 ·split at h
  ·rename_i hx;exact⟨_,kL hx,h⟩
  ·exact h.elim
 ·exact h.elim
end pure
def l4(ops:Array Oper):List (List Nat):=ops.toList.map fun o=>(o.after.toList.filter fun e=>Region.binds .any e).map (·.on)
def b8(all:List Bool):Nat→List (List Nat)→List Bool→List Nat
 |k,e::es,b::bs=>cond b (b8 all (k+1) es bs) (cond (e.all fun j=>all.getD j false) (k::b8 all (k+1) es bs) (b8 all (k+1) es bs))
 |_,_,_=>[]
theorem Cv{all:List Bool}:∀(es:List (List Nat)) (bs:List Bool) (k i:Nat),i∈b8 all k es bs↔∃j e,i=k+j∧es[j]?=some e∧bs[j]?=some false∧(∀x∈e,all.getD x false=true)
 |[],bs,k,i=>by simp[b8]
 |e::es,[],k,i=>by simp[b8]
 |e::es,b::bs,k,i=>by
  have ih:=Cv (all:=all) es bs (k+1) i
  have key:(∃j e',i=k+j∧(e::es)[j]?=some e'∧(b::bs)[j]?=some false∧(∀x∈e',all.getD x false=true))↔(i=k∧b=false∧∀x∈e,all.getD x false=true)∨i∈b8 all (k+1) es bs:=by
   rw[ih]
   constructor
   ·rintro ⟨j,e',h1,h2,h3,h4⟩
    cases j with
    |zero=>simp at h2 h3;subst h2;exact .inl ⟨by omega,h3,h4⟩
    |succ j=>exact .inr ⟨j,e',by omega,by simpa using h2,by simpa using h3,h4⟩
   ·rintro (⟨h1,h2,h3⟩|⟨j,e',h1,h2,h3,h4⟩)
    ·exact⟨0,e,by omega,rfl,by simp[h2],h3⟩
    ·exact⟨j+1,e',by omega,by simpa using h2,by simpa using h3,h4⟩
  rw[key]
  have mA:(e.all fun j=>all.getD j false)=true↔∀x∈e,all.getD x false=true:=by rw[List.all_eq_true]
  cases b with
  |true=>simp[b8]
  |false =>
   simp only[b8,Bool.cond_false]
   cases ha:e.all fun j=>all.getD j false with
   |true =>
    rw[ha]at mA
    simp only[true_iff]at mA
    simp only[Bool.cond_true,List.mem_cons]
    constructor
    ·intro h
     rcases h with h|h
     ·exact Or.inl ⟨h,by first|trivial|rfl,by first|exact mA|trivial⟩
     ·exact Or.inr h
    ·intro h
     rcases h with h|h
     ·exact Or.inl h.1
     ·exact Or.inr h
   |false =>
    rw[ha]at mA
    simp only[Bool.false_eq_true,false_iff]at mA
    simp only[Bool.cond_false]
    constructor
    ·exact Or.inr
    ·intro h
     rcases h with h|h
     ·exact absurd h.2.2 mA
     ·exact h
theorem V8{ops:Array Oper}{l:List Bool}(hl:l.length=ops.size)(i:Nat):i∈Region.ready .any ops l.toArray↔i∈b8 l 0 (l4 ops) l:=by
 rw[mem_ready,Cv]
 constructor
 ·rintro ⟨h1,o,ho,h2⟩
  have lY:i<ops.size:=(Array.getElem?_eq_some_iff.1 ho).1
  refine⟨i,_,by omega,by simp[l4,ho];rfl,?_,?_⟩
  ·have oq:i<l.length:=by omega
   simp[oq]at h1 ⊢
   exact h1
  ·intro x hx
   simp only[List.mem_map,List.mem_filter,Array.mem_toList_iff]at hx
   obtain⟨e,⟨he,hb⟩,rfl⟩:=hx
   have:=h2 e he hb
   simpa using this
 ·rintro ⟨j,e,h0,h1,h2,h3⟩
  have:j=i:=by omega
  subst this
  simp only[l4,List.getElem?_map,Option.map_eq_some_iff,Array.getElem?_toList]at h1
  obtain⟨o,ho,rfl⟩:=h1
  refine⟨by simp[h2],o,ho,fun e he hb=>?_⟩
  have:=h3 e.on (List.mem_map.2 ⟨e,List.mem_filter.2 ⟨by simpa using he,hb⟩,rfl⟩)
  simpa using this
theorem Lg{P:Program}{o:Oper}{a:Act}{w:World}{K K':Act→World→Prop}{Q Q':Exit→Act→World→Prop}(hQ:∀e a w,Q e a w→e=.normal)(h:∀a w,K a w→K' a w)(hh:o.wp P a w K Q):o.wp P a w K' Q':=by
 unfold Oper.wp at *
 generalize (execOp a.eval o).run P w=r at *
 cases r with
 |ok n w' =>
  cases n<;>simp only[Oper.upon]at hh ⊢ <;>
   first
    |exact h _ _ hh
    |exact Calls.mono hh (fun e pE he=>by
      cases e with
      |returned v=>exact h _ _ he
      |panicked c=>exact absurd (hQ _ _ _ he) (by simp)
      |outgrown=>obtain⟨a,w,hx⟩:=he;exact absurd (hQ _ _ _ hx) (by simp))
    |exact Rows.mono hh (fun _ _ he=>h _ _ he)
 |halt x w' =>
  cases x<;>simp only[Oper.upon]at hh ⊢
  exact absurd (hQ _ _ _ hh) (by simp)
theorem Oa{P:Program}{ops:Array Oper}{Q Q':Exit→Act→World→Prop}(hQ:∀e a w,Q e a w→e=.normal)(h:∀a w,Q .normal a w→Q' .normal a w):∀(lZ:Nat) (listed:Array Bool) (a:Act) (w:World),wpAny P .any ops Q lZ listed a w→wpAny P .any ops Q' lZ listed a w:=by
 intro lZ
 induction lZ with
 |zero=>intro l a w hx;exact⟨hx.1,h a w hx.2⟩
 |succ lZ ih =>
  intro l a w hx
  refine⟨fun hr=>h a w (hx.1 hr),fun i hi=>?_⟩
  have h1:=hx.2 i hi
  unfold wpOp at h1 ⊢
  split at h1
  ·exact ih _ _ _ h1
  ·split at h1
   ·rename_i hw
    rw[if_pos hw]
    rcases h1 with h1|⟨_,a1,w1,hx⟩
    ·exact .inl (Lg hQ (fun a' w' hn=>ih _ _ _ hn) h1)
    ·exact absurd (hQ _ _ _ hx) (by simp)
   ·rename_i hw
    rw[if_neg hw]
    exact ih _ _ _ h1
section rules
variable {P:Program} {E:Env} {n:Nat} {ops:Array Oper} {σ:St} {K:St→Prop} {Q:Exit→St→Prop}
def D3(P:Program)(E:Env)(n:Nat)(ops:Array Oper)(lZ:Nat)(l:List Bool)(σ:St)(K:St→Prop):Prop :=
 ∀a w,j4 E n σ a w→wpAny P .any ops (fun e a' w'=>e=.normal∧∃σ',K σ'∧j4 E n σ' a' w') lZ l.toArray a w
def cQ(P:Program)(E:Env)(n:Nat)(ops:Array Oper)(lZ:Nat)(l:List Bool)(σ:St)(K:St→Prop):List Nat→Prop
 |[]=>True
 |i::r=>(match ops[i]? with
  |some o=>B2 P E n ops [o] σ fun σ'=>D3 P E n ops lZ (l.set i true) σ' K
  |none=>False)∧cQ P E n ops lZ l σ K r
theorem SP{lZ:Nat}{l:List Bool}:∀{r:List Nat},cQ P E n ops lZ l σ K r→∀i∈r,∃o,ops[i]?=some o∧B2 P E n ops [o] σ fun σ'=>D3 P E n ops lZ (l.set i true) σ' K
 |[],_,i,hi=>by cases hi
 |j::r,h,i,hi=>by
  rcases List.mem_cons.1 hi with rfl|hi
  ·have:=h.1
   split at this
   ·rename_i o ho;exact⟨o,ho,this⟩
   ·exact this.elim
  ·exact SP h.2 i hi
structure XL(P:Program)(E:Env)(n:Nat)(ops:Array Oper)(lZ:Nat)(l:List Bool)(σ:St)(K:St→Prop)(r:List Nat):Prop where
 h:cQ P E n ops lZ l σ K r
def JH(ev:Operand→Option AV)(ops:Array Oper)(l:List Bool):List Nat→Option Nat
 |[]=>none
 |i::r=>match ops[i]? with
  |some ⟨some _,op,_,_,_,none⟩=>cond (Ze ev op) (some i) (JH ev ops l r)
  |_=>JH ev ops l r
structure XM(p:Prop)(A:Prop):Prop where
 h:p
 k:A
def iq(P:Program)(E:Env)(n:Nat)(ops:Array Oper)(lZ:Nat)(l:List Bool)(σ:St)(K:St→Prop):Prop :=
 match b8 l 0 (l4 ops) l with
 |[]=>K σ
 |i::r=>match lZ with
  |0=>False
  |lZ+1=>match JH (F3 σ) ops l (i::r)with
   |some i=>match ops[i]? with
    |some ⟨some d,op,_,_,_,none⟩=>XM (Region.free .any ops l.toArray i=true∧i∈b8 l 0 (l4 ops) l) (cond (Nat.blt d n) (PV P op (F3 σ) σ.hp fun av=>D3 P E n ops lZ (l.set i true) (σ.put d av) K) False)
    |_=>False
   |none=>XL P E n ops lZ l σ K (i::r)
theorem V5(l:List Bool)(i:Nat):l.toArray.setIfInBounds i true=(l.set i true).toArray:=by simp
theorem fN{lZ:Nat}{l:List Bool}(ww:Region.noSelect ops=true)(hl:Nat.beq l.length ops.size=true)(h:iq P E n ops lZ l σ K):D3 P E n ops lZ l σ K:=by
 have hl:=Nat.eq_of_beq_eq_true hl
 unfold iq at h
 split at h
 ·rename_i hr
  intro a w hs
  have nZ:Region.ready .any ops l.toArray=[]:=by
   cases hx:Region.ready .any ops l.toArray with
   |nil=>rfl
   |cons i r=>have:=(V8 hl i).1 (by rw[hx];simp);rw[hr]at this;cases this
  exact wpAny_done nZ ⟨rfl,σ,h,hs⟩ _
 ·rename_i i r hr
  split at h
  ·exact h.elim
  ·rename_i lZ
   split at h
   ·rename_i i' sM
    split at h
    ·rename_i d op ty pos after oU
     obtain⟨⟨hf,xC⟩,h⟩:=h
     obtain⟨hd,h⟩:=cond_false h
     obtain⟨av,hp,h⟩:=io (E:=E) (nx:=σ.nx) (ty:=ty) h
     rintro a w ⟨θ,hs⟩
     obtain⟨v,sd,ol⟩:=hp (some d) pos after θ a w hs.evT
     refine wpAny_take oU ww hf (by simpa using (V8 hl i').2 xC) (fun c a w hc=>by cases hc.1) (v:=v) (.inl ⟨by simp[Region.wanted],sd⟩) ?_
     rw[V5]
     exact h _ _ ⟨θ,hs.put (Nat.blt_eq▸hd) ol⟩
    ·exact h.elim
   ·intro a w hs
    refine⟨fun nZ=>?_,fun j hj=>?_⟩
    ·have:=(V8 hl i).2 (by rw[hr];simp)
     rw[nZ]at this
     cases this
    ·have lw:=(V8 hl j).1 hj
     rw[hr]at lw
     obtain⟨o,ho,hA⟩:=SP h.h j lw
     have hw:=hA a w hs
     unfold wpOp
     simp only[ho]
     unfold wpList at hw
     split
     ·rename_i nN
      rw[if_pos nN]at hw
      rcases hw with hw|⟨_,a1,w1,hx⟩
      ·refine .inl (Lg (fun e a w h=>h.1) (fun a' w' hn=>?_) hw)
       obtain⟨_,σ',hk,mg⟩:=hn
       rw[V5]
       exact hk a' w' mg
      ·exact absurd hx.1 (by simp)
     ·rename_i nN
      rw[if_neg nN]at hw
      obtain⟨_,σ',hk,mg⟩:=hw
      rw[V5]
      exact hk _ _ mg
def O8(ops:Array Oper):List Bool:=ops.toList.map fun _=>false
theorem JI{id:Nat}[hm:JC P](S:St)(h:D3 P E n ops ops.size (O8 ops) σ fun σ'=>St.le E n σ' S)(k:Q .normal S):Cr P E n id ops σ Q:=by
 refine⟨fun a w ⟨θ,hs⟩=>wp_region_any hm.out ?_⟩
 have hb:Below w.heap.size w { w with drawn:=w.drawn+1 }:=Below.drew (Below.refl _ _)
 have h1:=h a { w with drawn:=w.drawn+1 } ⟨θ,hs.below hb⟩
 have e:(O8 ops).toArray=Array.replicate ops.size false:=by
  apply Array.ext'
  simp[O8,List.map_const']
 rw[e]at h1
 exact Oa (fun e a w hx=>hx.1) (fun a w hx=>by
  obtain⟨_,σ',mX,mg⟩:=hx
  exact⟨S,k,mX a w mg⟩) _ _ _ _ h1
theorem B5{σ1 σ2 σ3:St}(h:St.le E n σ1 σ2)(h':St.le E n σ2 σ3):St.le E n σ1 σ3:=fun a w hs=>h' a w (h a w hs)
theorem A8{σ1:St}:St.le E n σ1 σ1:=fun a w hs=>hs
def swp(i j k:Nat):Nat:=cond (Nat.beq k i) j (cond (Nat.beq k j) i k)
theorem Gi(i j k:Nat):swp i j k=if k=i then j else if k=j then i else k:=by
 unfold swp
 cases h1:Nat.beq k i with
 |true=>rw[if_pos (Nat.eq_of_beq_eq_true h1)];rfl
 |false =>
  have:k≠i:=by intro e;subst e;simp at h1
  rw[if_neg this]
  cases h2:Nat.beq k j with
  |true=>rw[if_pos (Nat.eq_of_beq_eq_true h2)];rfl
  |false =>
   have:k≠j:=by intro e;subst e;simp at h2
   rw[if_neg this];rfl
theorem DY(i j k:Nat):swp i j (swp i j k)=k:=by
 rw[Gi i j k]
 split
 ·rename_i h;subst h
  rw[Gi]
  split
  ·rename_i h;exact h
  ·rw[if_pos rfl]
 ·split
  ·rename_i h;subst h;rw[Gi,if_pos rfl]
  ·rename_i h1 h2;rw[Gi,if_neg h1,if_neg h2]
theorem BC(i j:Nat){m:Nat}(h0:E.n0=m)(hb:(Nat.ble m i && Nat.ble m j && Nat.blt i σ.nx && Nat.blt j σ.nx)=true)(lY:K9 σ.nx σ.hp=true):
  St.le E n σ ⟨As (N7 (swp i j) fun _=>0) σ.sl,σ.nx,U7 (swp i j) (fun _=>0) σ.hp⟩:=by
 simp only[Bool.and_eq_true,Nat.ble_eq,Nat.blt_eq]at hb
 obtain⟨⟨⟨hi0,nu⟩,hi⟩,hj⟩:=hb
 have vz:∀k,k<σ.nx→swp i j k<σ.nx:=fun k hk=>by
  rw[Gi]
  split
  ·exact hj
  ·split
   ·exact hi
   ·exact hk
 have sX:∀a b,a<σ.nx→b<σ.nx→swp i j a=swp i j b→a=b:=fun a b _ _ h=>by rw[←DY i j a,h,DY]
 have sx:∀q,q<σ.nx→A5 (U7 (swp i j) (fun _=>0) σ.hp) (swp i j q)=(A5 σ.hp q).map (j9 (swp i j) (fun _=>0) q):=by
  intro q hq
  have:=HS (ρ:=swp i j) (s:=fun _=>0) sX σ.hp [] lY q hq
  rw[List.append_nil]at this
  unfold A5
  rw[this]
  cases look σ.hp q with
  |none=>rfl
  |some b=>cases b<;>rfl
 have ln:∀k,σ.nx≤k→A5 (U7 (swp i j) (fun _=>0) σ.hp) k=none:=by
  intro k hk
  have:=CI (ρ:=swp i j) (s:=fun _=>0) (m:=σ.nx) σ.hp [] lY k (fun q hq he=>by have:=vz q hq;omega)
  rw[List.append_nil]at this
  unfold A5
  rw[this]
  rfl
 rintro a w ⟨θ,hs⟩
 let σ':St:=⟨As (N7 (swp i j) fun _=>0) σ.sl,σ.nx,U7 (swp i j) (fun _=>0) σ.hp⟩
 let θ':Th:=⟨fun k=>θ (swp i j k),fun k=>θ.N (swp i j k)⟩
 have back:∀k b,A5 σ'.hp k=some b→∃q b0,k=swp i j q∧q<σ.nx∧A5 σ.hp q=some b0∧b=j9 (swp i j) (fun _=>0) q b0∧∀z,FP θ' k b z→FP θ q b0 z:=by
  intro k b hb
  by_cases hk:k<σ.nx
  ·have nh:A5 (U7 (swp i j) (fun _=>0) σ.hp) (swp i j (swp i j k))=some b:=by rw[DY];exact hb
   rw[sx _ (vz k hk),Option.map_eq_some_iff]at nh
   obtain⟨b0,h1,h2⟩:=nh
   refine⟨swp i j k,b0,(DY i j k).symm,vz k hk,h1,h2.symm,fun z hz=>?_⟩
   subst h2
   unfold FP at hz ⊢
   rwa[Ph]at hz
  ·rw[ln k (by omega)]at hb;cases hb
 have ren:Ren (cx E θ σ w) (cx E θ' σ' w) (swp i j) (fun _=>0):=by
  refine⟨vz,fun k hk=>by show θ (swp i j (swp i j k))=_;rw[DY];rfl,fun k hk=>by show θ.N (swp i j (swp i j k))=_;rw[DY];rfl,rfl,fun k hu=>?_,fun q hq e sz v' l hl=>?_⟩
  ·rcases hu with hu|⟨q,b,hb,hk⟩
   ·exact .inl hu
   ·obtain⟨q',b0,rfl,hq,h1,h2,h3⟩:=back q b hb
    exact .inr ⟨q',b0,h1,h3 k hk⟩
  ·have h1:A5 (U7 (swp i j) (fun _=>0) σ.hp) (swp i j q)=some (.row e sz v' l):=hl
   rw[sx q hq,Option.map_eq_some_iff]at h1
   obtain⟨b,hb,nw⟩:=h1
   cases b with
   |bx τ l=>cases nw
   |map m=>cases nw
   |it _ _=>cases nw
   |row e1 sz1 v1 l1 =>
    simp only[j9]at nw
    cases nw
    exact⟨v1,hb,rfl⟩
 refine⟨θ',hs.size,hs.defers,hs.fr,fun s x hx=>?_,fun k b hb=>?_,fun k1 k2 b1 b2 k h1 h2 nr lg=>?_,fun k b q hb hk=>?_,hs.X,⟨hs.base.1,fun k hk=>?_⟩⟩
 ·have oE:look (As (N7 (swp i j) fun _=>0) σ.sl) s=some x:=hx
  rw[Cn,Option.map_eq_some_iff]at oE
  obtain⟨x0,h1,rfl⟩:=oE
  exact OZ ren (hs.slots s x0 h1)
 ·obtain⟨q,b0,rfl,hq,h1,rfl,h3⟩:=back k b hb
  exact⟨vz q hq,Vp ren hq (hs.owns q b0 h1).2⟩
 ·obtain⟨q1,c1,rfl,_,g1,_,g2⟩:=back k1 b1 h1
  obtain⟨q2,c2,rfl,_,g3,_,g4⟩:=back k2 b2 h2
  rw[hs.apart q1 q2 c1 c2 k g1 g3 (g2 k nr) (g4 k lg)]
 ·obtain⟨q1,c1,rfl,_,g1,_,g2⟩:=back k b hb
  exact hs.mine q1 c1 q g1 (g2 q hk)
 ·have:swp i j k=k:=by rw[Gi,if_neg (by omega),if_neg (by omega)]
  show θ (swp i j k)=_∨_
  rw[this]
  refine(hs.base.2 k hk).imp id fun ⟨h1,h2⟩=>⟨h1,fun ⟨e,sz,v,l,hl,nH⟩=>h2 ?_⟩
  obtain⟨q,b0,hq,_,nF,oB,_⟩:=back k _ hl
  have hqk:q=k:=(DY i j q).symm.trans ((congrArg (swp i j) hq.symm).trans this)
  subst hqk
  cases b0 with
  |bx τ l=>cases oB
  |map m=>cases oB
  |it _ _=>cases oB
  |row e1 sz1 v1 l1 =>
   simp only[j9]at oB
   cases oB
   exact⟨_,_,_,_,nF,nH⟩
theorem ir{lZ:Nat}{l:List Bool}:XL P E n ops lZ l σ K []:=⟨trivial⟩
theorem iu{lZ:Nat}{l:List Bool}{i:Nat}{r:List Nat}(h1:match ops[i]? with
  |some o=>B2 P E n ops [o] σ fun σ'=>D3 P E n ops lZ (l.set i true) σ' K
  |none=>False) (h2:XL P E n ops lZ l σ K r):XL P E n ops lZ l σ K (i::r):=⟨⟨h1,h2.h⟩⟩
theorem iv{p A:Prop}(h:p)(k:A):XM p A:=⟨h,k⟩
end rules
def MV(P:Program)(op:Op)(ev:Operand→Option AV)(F:AV→Prop):Prop :=
 match op with
 |.move x=>W4 (ev x) F
 |.assign x=>W4 (ev x) F
 |.binOp op T x y _=>Rz P T op (ev x) (ev y) F
 |.load T x=>match ev x with
  |some (.iptr l)=>Mu P T [] (some (.iptr l)) F
  |_=>False
 |.fieldAddr S x f=>match ev x with
  |some (.iptr l)=>OV P S f fun off sz=>cond (Nat.blt 0 sz) (F (.iptr (l.drop off))) False
  |some (.ref i o)=>OV P S f fun off sz=>cond (Nat.blt 0 sz) (F (.ref i (o+off))) False
  |_=>False
 |.indexAddr T x y=>match ev x with
  |some (.sl sz l)=>JA P T [] (some (.sl sz l)) (ev y) F
  |_=>False
 |.call ⟨.builtin .len,⟨[x]⟩,⟨[T]⟩⟩=>match ev x with
  |some (.sl sz l)=>HO P T [] (some (.sl sz l)) F
  |some (.str s)=>HO P T [] (some (.str s)) F
  |some (.v (.slice none 0 0))=>HO P T [] (some (.v (.slice none 0 0))) F
  |_=>False
 |.call ⟨.value (.func f),⟨args⟩,_⟩=>match l8 ev args with
  |some l=>cond (I8 l) (RF P f (l++[]) F) False
  |none=>False
 |.build T ⟨parts⟩=>match Bo ev parts with
  |some ps=>Iw P T fun zs pl=>EA [] ps (W4 ((Bw pl zs ps).map AV.agg) F)
  |none=>False
 |.buildSlice T len ⟨parts⟩=>match Bo ev parts with
  |some ps=>Ey P T fun _ sz _ _=>cond (Cj 0 ps && s8 sz (L9 ps) && Nat.beq ps.length len && Nat.blt 0 sz) (G5 (len*sz≤16777216) (EA [] ps (Ms (L9 ps) (F (.sl sz (L9 ps)))))) False
  |none=>False
 |.convert S T x=>W4 (ev x) fun a=>BS P S T a F
 |.extract x k=>match ev x with
  |some (.tup l)=>W4 (l[k]?) F
  |_=>False
 |.slice T x lo hi none=>match ev x with
  |some (.str s)=>Dq P T (match Ar ev 0 lo,Ar ev s.length hi with
   |some l,some h=>G5 (0≤l∧l≤h∧h≤s.length) (F (.str ((s.take h.toNat).drop l.toNat)))
   |_,_=>False)
  |_=>False
 |.unOp .not _ x=>match ev x with
  |some (.v (.bool b))=>F (.v (.bool (!b)))
  |_=>False
 |.index T x y=>match ev x,ev y with
  |some (.str s),some (.v (.int _ i))=>Dq P T (P2 s i fun b=>F (.v (.int .u8 b.toNat)))
  |_,_=>False
 |_=>False
theorem fO{hp:Hp}{a:AV}(h:One [] a):One hp a:=by
 cases h with
 |row hl=>cases hl
 |v h=>exact .v h
 |str l=>exact .str l
 |sl s l=>exact .sl s l
 |iptr l=>exact .iptr l
 |ref i o=>exact .ref i o
 |mp i=>exact .mp i
 |fn f l=>exact .fn f l
 |fo f l=>exact .fo f l
theorem cR{hp:Hp}{a:AV}(h:Fits [] a):Fits hp a:=by
 cases a<;>first|exact trivial|exact fO h
theorem JJ{hp:Hp}:∀{ps:List (Nat×AV)},Do [] ps→Do hp ps
 |[],_=>trivial
 |(_,a)::r,h=>⟨cR h.1,JJ h.2⟩
theorem kq{P:Program}{op:Op}{ev:Operand→Option AV}{F:AV→Prop}(h:MV P op ev F):∃av,(∀(E:Env) (nx:Nat) (hp:Hp) (ty:TypeId),G7 P E nx hp ev op ty av)∧F av:=by
 unfold MV at h
 split at h
 ·obtain⟨a,hx,h⟩:=J6 h;exact⟨a,fun _ _ _ _=>Yx hx,h⟩
 ·obtain⟨a,hx,h⟩:=J6 h;exact⟨a,fun _ _ _ _=>Ra hx,h⟩
 ·rename_i op T x y T2
  unfold Rz at h
  split at h
  ·rename_i hx hy;exact⟨_,fun _ _ _ _=>eN hx hy h.h,h.k⟩
  ·rename_i hx hy;exact⟨_,fun _ _ _ _=>eO hx hy h.h,h.k⟩
  ·rename_i hx hy
   obtain⟨hk,hq⟩:=cond_false h
   clear h
   have hk:=of_decide_eq_true hk
   subst hk
   unfold Rx at hq
   split at hq
   ·exact⟨_,fun _ _ _ _=>Dz hx hy (by simp only[Ci,P1 hq.h]),hq.k⟩
   ·exact⟨_,fun _ _ _ _=>Dz hx hy (by simp only[Ci,P1 hq.h]),hq.k⟩
   ·exact⟨_,fun _ _ _ _=>Dz hx hy (by simp only[Ci,P1 hq.h]),hq.k⟩
   ·refine⟨_,fun E nx hp ty=>?_,hq.k⟩
    have nC:=RC (P:=P) (E:=E) (nx:=nx) (hp:=hp) (ty:=ty) (T:=T) (T2:=T2) hx hy hq.h.1
    rw[P1 hq.h.2]at nC
    exact nC
   ·exact⟨_,fun _ _ _ _=>RC hx hy hq.h,hq.k⟩
   ·exact⟨_,fun _ _ _ _=>eM hx hy hq.h,hq.k⟩
   ·split at hq
    ·rename_i hr;exact⟨_,fun _ _ _ _=>Dz hx hy hr,hq⟩
    ·exact hq.elim
  ·rename_i s t hx hy
   unfold bn at h
   split at h
   ·exact⟨_,fun _ _ _ _=>Yz hx hy h.h,h.k⟩
   ·split at h
    ·rename_i hr;exact⟨_,fun _ _ _ _=>Yy hx hy hr,h⟩
    ·exact h.elim
  ·rename_i a b hx hy
   unfold XC at h
   split at h
   ·have:=h.h;exact⟨_,fun _ _ _ _=>RD (T:=T) false hx hy,h.k⟩
   ·have:=h.h;exact⟨_,fun _ _ _ _=>RD (T:=T) true hx hy,h.k⟩
   ·exact h.elim
  ·rename_i l m hx hy
   unfold Cq at h
   split at h
   ·obtain⟨hk,hq⟩:=cond_false h
    obtain⟨rfl,rfl⟩:=of_decide_eq_true hk
    have:=hq.h;exact⟨_,fun _ _ _ _=>HH (T:=T) false hx hy,hq.k⟩
   ·obtain⟨hk,hq⟩:=cond_false h
    obtain⟨rfl,rfl⟩:=of_decide_eq_true hk
    have:=hq.h;exact⟨_,fun _ _ _ _=>HH (T:=T) true hx hy,hq.k⟩
   ·obtain⟨hk,hq⟩:=cond_false h
    obtain⟨rfl,rfl,rfl⟩:=of_decide_eq_true hk
    have:=hq.h;exact⟨_,fun _ _ _ _=>HJ (T:=T) false hx hy,hq.k⟩
   ·obtain⟨hk,hq⟩:=cond_false h
    obtain⟨rfl,rfl,rfl⟩:=of_decide_eq_true hk
    have:=hq.h;exact⟨_,fun _ _ _ _=>HJ (T:=T) true hx hy,hq.k⟩
   ·obtain⟨hk,hq⟩:=cond_false h
    obtain rfl:=of_decide_eq_true hk
    have:=hq.h;exact⟨_,fun _ _ _ _=>Md (T:=T) false hx hy,hq.k⟩
   ·obtain⟨hk,hq⟩:=cond_false h
    obtain rfl:=of_decide_eq_true hk
    have:=hq.h;exact⟨_,fun _ _ _ _=>Md (T:=T) true hx hy,hq.k⟩
   ·exact h.elim
  ·exact h.elim
 ·rename_i T x
  split at h
  ·rename_i l hx
   unfold Mu at h
   obtain⟨⟨ag,sz,tv,h⟩⟩:=h
   cases ag with
   |true =>
    change cond (Nat.beq l.length sz) _ _ at h
    cases hc:Nat.beq l.length sz with
    |true =>
     rw[hc]at h
     exact⟨_,fun _ _ _ _=>Aq (sz:=sz) hx (by rw[←Nat.eq_of_beq_eq_true hc,List.take_length]) (Nat.eq_of_beq_eq_true hc),h⟩
    |false =>
     rw[hc]at h
     exact⟨_,fun _ _ _ _=>Aq (sz:=sz) hx rfl h.h,h.k⟩
   |false =>
    cases l with
    |nil=>exact h.elim
    |cons av r=>exact⟨_,fun _ _ _ _=>Kh (sz:=sz) hx,h⟩
  ·exact h.elim
 ·split at h
  ·rename_i hx
   obtain⟨⟨off,sz,tf,h⟩⟩:=h
   obtain⟨hz,h⟩:=cond_false h
   exact⟨_,fun _ _ _ _=>Ik (off:=off) (sz:=sz) hx hz,h⟩
  ·rename_i hx
   obtain⟨⟨off,sz,tf,h⟩⟩:=h
   obtain⟨hz,h⟩:=cond_false h
   exact⟨_,fun _ _ _ _=>Ki (off:=off) (sz:=sz) hx hz,h⟩
  ·exact h.elim
 ·split at h
  ·rename_i hx
   unfold JA at h
   split at h
   ·rename_i vn hy
    cases vn
    obtain⟨⟨e,lb,ts,h⟩⟩:=h
    obtain⟨hz,hq⟩:=cond_false h
    clear h
    have:=Nat.eq_of_beq_eq_true hz
    subst this
    obtain⟨h0,h1,hk⟩:=hq
    exact⟨_,fun _ _ _ _=>MZ (e:=e) hx hy h0 (List.getElem?_eq_getElem (by omega)),hk _ (List.getElem?_eq_getElem (by omega))⟩
   ·rename_i vn _;cases vn
   ·rename_i vn _;cases vn
   ·exact h.elim
  ·exact h.elim
 ·split at h
  ·rename_i hx
   unfold HO at h
   obtain⟨⟨e,sz,ts,h⟩⟩:=h
   exact⟨_,fun _ _ _ _=>Rg (e:=e) (sz:=sz) hx,h.k⟩
  ·rename_i hx
   unfold HO at h
   obtain⟨ts,h⟩:=h
   exact⟨_,fun _ _ _ _=>PU hx,h⟩
  ·rename_i hx
   unfold HO at h
   obtain⟨⟨e,sz,ts,h⟩⟩:=h
   exact⟨_,fun _ _ _ _=>PX (e:=e) (sz:=sz) hx,h⟩
  ·exact h.elim
 ·split at h
  ·rename_i l hl
   obtain⟨hc,h⟩:=cond_false h
   obtain⟨⟨r,hr,h⟩⟩:=h
   rw[List.append_nil]at hr
   exact⟨_,fun _ _ _ _=>Ri hr hl hc,h⟩
  ·exact h.elim
 ·split at h
  ·rename_i ps pn
   obtain⟨⟨zs,pl,tz,tp,h⟩⟩:=h
   obtain⟨hf,h⟩:=o9 h
   obtain⟨a,ha,h⟩:=J6 h
   rw[Option.map_eq_some_iff]at ha
   obtain⟨l,hl,rfl⟩:=ha
   exact⟨_,fun _ _ _ _=>Vh (T:=_) pn (JJ hf) hl,h⟩
  ·exact h.elim
 ·split at h
  ·rename_i ps pn
   obtain⟨⟨e,sz,bs,z,ts,tz,tb,hz,h⟩⟩:=h
   obtain⟨hc,h⟩:=cond_false h
   simp only[Bool.and_eq_true,Nat.beq_eq,Nat.blt_eq]at hc
   obtain⟨hs,h⟩:=h
   obtain⟨hf,h⟩:=o9 h
   obtain⟨hi,h⟩:=ET h
   exact⟨_,fun _ _ _ _=>It (e:=e) (z:=z) pn (JJ hf) hc.1.1.1 hc.1.1.2 hc.1.2 hz hs hc.2 hi,h⟩
  ·exact h.elim
 ·obtain⟨a,hx,h⟩:=J6 h
  obtain⟨⟨r,hr,h⟩⟩:=h
  cases hr with
  |bytes l hl=>rename_i e sz _ _ _;exact⟨_,fun _ _ _ _=>Kk (e:=e) (sz:=sz) hx hl,h⟩
  |back l=>rename_i e sz _ _ _;exact⟨_,fun _ _ _ _=>Kl (e:=e) (sz:=sz) hx,h⟩
  |int m=>exact⟨_,fun _ _ _ _=>Mb hx,h⟩
  |rune m=>exact⟨_,fun _ _ _ _=>Km hx,h⟩
 ·split at h
  ·rename_i hx
   obtain⟨a,ha,h⟩:=J6 h
   exact⟨_,fun _ _ _ _=>Pa hx ha,h⟩
  ·exact h.elim
 ·split at h
  ·rename_i hx
   obtain⟨ts,h⟩:=h
   split at h
   ·rename_i hl hh;exact⟨_,fun _ _ _ _=>Ko hx hl hh h.h.1 h.h.2.1 h.h.2.2,h.k⟩
   ·exact h.elim
  ·exact h.elim
 ·split at h
  ·rename_i hx;exact⟨_,fun _ _ _ _=>eP hx,h⟩
  ·exact h.elim
 ·split at h
  ·rename_i s k i hx hy
   obtain⟨ts,h0,h1,hk⟩:=h
   have lY:i.toNat<s.length:=by omega
   have lU:s[i.toNat]?=some s[i.toNat]:=List.getElem?_eq_getElem lY
   exact⟨_,fun _ _ _ _=>Kj hx hy h0 lU,hk _ lU⟩
  ·exact h.elim
 ·exact h.elim
structure MB where
 i:Nat
 d:Nat
 av:AV
 rd:List (Nat×AV)
def kr(P:Program)(ops:Array Oper)(m:MB):Prop:=∃op ty pos after,ops[m.i]?=some ⟨some m.d,op,ty,pos,after,none⟩∧∀(E:Env) (nx:Nat) (hp:Hp) (ty:TypeId),G7 P E nx hp (F3 ⟨m.rd,0,[]⟩) op ty m.av
def Fk(ops:Array Oper)(i:Nat):List Nat:=(l4 ops).getD i []
def M6:List MB→List (Nat×AV)
 |[]=>[]
 |⟨_,d,av,_⟩::r=>(d,av)::M6 r
def W9(l:List Bool)(mb:List MB):List MB:=mb.filter fun m=>l.getD m.i false
def lN(ops:Array Oper)(mb:List MB)(sl:List (Nat×AV)):Prop:=∀m∈mb,∀p∈m.rd,look sl p.1=some p.2∨∃m'∈mb,m'.d=p.1∧m'.av=p.2∧m'.i∈Fk ops m.i
def Ds(n:Nat)(sl:List (Nat×AV)):List MB→Bool
 |[]=>true
 |m::r=>Nat.blt m.d n && (look sl m.d).isNone && (r.all fun u=>!(Nat.beq u.d m.d) && !(Nat.beq u.i m.i)) && Ds n sl r
theorem Fl{n:Nat}{sl:List (Nat×AV)}:∀{mb:List MB},Ds n sl mb=true→(∀m∈mb,m.d<n∧look sl m.d=none)∧(∀m∈mb,∀m'∈mb,m.d=m'.d→m=m')∧∀m∈mb,∀m'∈mb,m.i=m'.i→m=m'
 |[],_=>⟨(fun m hm=>by cases hm),(fun m hm=>by cases hm),fun m hm=>by cases hm⟩
 |a::r,h=>by
  simp only[Ds,Bool.and_eq_true,List.all_eq_true,Bool.not_eq_true',Nat.blt_eq,Option.isNone_iff_eq_none]at h
  obtain⟨⟨⟨h1,h2⟩,h3⟩,h4⟩:=h
  obtain⟨i1,i2,i3⟩:=Fl h4
  have sa:∀u∈r,u.d≠a.d∧u.i≠a.i:=fun u hu=>by
   have h5:=h3 u hu
   refine⟨fun e=>?_,fun e=>?_⟩
   ·have:=h5.1;rw[e]at this;simp at this
   ·have:=h5.2;rw[e]at this;simp at this
  refine⟨fun m hm=>?_,fun m hm m' mq e=>?_,fun m hm m' mq e=>?_⟩
  ·rcases List.mem_cons.1 hm with rfl|hm
   ·exact⟨h1,h2⟩
   ·exact i1 m hm
  ·rcases List.mem_cons.1 hm with h5|h5<;>rcases List.mem_cons.1 mq with h6|h6
   ·rw[h5,h6]
   ·subst h5;exact absurd e.symm (sa _ h6).1
   ·subst h6;exact absurd e (sa _ h5).1
   ·exact i2 m h5 m' h6 e
  ·rcases List.mem_cons.1 hm with h5|h5<;>rcases List.mem_cons.1 mq with h6|h6
   ·rw[h5,h6]
   ·subst h5;exact absurd e.symm (sa _ h6).2
   ·subst h6;exact absurd e (sa _ h5).2
   ·exact i3 m h5 m' h6 e
theorem R5(l m:List (Nat×AV))(s:Nat):look (l++m) s=match look l s with
  |some x=>some x
  |none=>look m s:=by
 induction l with
 |nil=>rfl
 |cons a r ih =>
  obtain⟨k,x⟩:=a
  simp only[List.cons_append,E6]
  by_cases e:k=s
  ·simp[e]
  ·simp[e,ih]
theorem Gj{T:List MB}{s:Nat}(h:∀m∈T,m.d≠s):look (M6 T) s=none:=by
 induction T with
 |nil=>rfl
 |cons a r ih =>
  obtain⟨ai,ad,wE,vf⟩:=a
  have h0:ad≠s:=h ⟨ai,ad,wE,vf⟩ (by simp)
  simp only[M6,E6]
  rw[if_neg h0,ih fun m hm=>h m (by simp[hm])]
theorem EB{T:List MB}{m:MB}(hu:∀m∈T,∀m'∈T,m.d=m'.d→m=m')(hm:m∈T):look (M6 T) m.d=some m.av:=by
 induction T with
 |nil=>cases hm
 |cons a r ih =>
  obtain⟨ai,ad,wE,vf⟩:=a
  simp only[M6,E6]
  by_cases e:ad=m.d
  ·rw[if_pos e,←hu ⟨ai,ad,wE,vf⟩ (by simp) m hm e]
  ·rw[if_neg e]
   rcases List.mem_cons.1 hm with rfl|hm
   ·exact absurd rfl e
   ·exact ih (fun x hx y hy=>hu x (by simp[hx]) y (by simp[hy])) hm
theorem u5{T:List MB}{s:Nat}{x:AV}(h:look (M6 T) s=some x):∃m∈T,m.d=s∧m.av=x:=by
 induction T with
 |nil=>cases h
 |cons a r ih =>
  obtain⟨ai,ad,wE,vf⟩:=a
  simp only[M6,E6]at h
  by_cases e:ad=s
  ·rw[if_pos e]at h;cases h;exact⟨⟨ai,ad,_,vf⟩,by simp,e,rfl⟩
  ·rw[if_neg e]at h
   obtain⟨m,hm,h1,h2⟩:=ih h
   exact⟨m,by simp[hm],h1,h2⟩
theorem HV{E:Env}{n nx:Nat}{hp:Hp}{sl zO:List (Nat×AV)}{a:Act}{w:World}(e:∀s x,look zO s=some x→look sl s=some x)(h:j4 E n ⟨sl,nx,hp⟩ a w):j4 E n ⟨zO,nx,hp⟩ a w:=by
 obtain⟨θ,h⟩:=h
 exact⟨θ,h.size,h.defers,h.fr,fun s x hs=>h.slots s x (e s x hs),h.owns,h.apart,h.mine,h.X,h.base⟩
def C9(P:Program)(E:Env)(n:Nat)(ops:Array Oper)(done:List Bool)(mb:List MB)(σ:St)(K:St→Prop):Prop :=
 (∀m∈mb,kr P ops m)→lN ops mb σ.sl→Ds n σ.sl mb=true →
 ∀(lZ:Nat) (l:List Bool) (a:Act) (w:World),l.length=ops.size→(∀i,done.getD i false=true→l.getD i false=true)→(∀i,l.getD i false=true→done.getD i false=true∨∃m∈mb,m.i=i)→l.count false≤lZ →
  j4 E n ⟨M6 (W9 l mb)++σ.sl,σ.nx,σ.hp⟩ a w→wpAny P .any ops (fun e a' w'=>e=.normal∧∃σ',K σ'∧j4 E n σ' a' w') lZ l.toArray a w
def u6(ops:Array Oper)(mb:List MB)(i:Nat):List MB:=mb.filter fun m=>(Fk ops i).contains m.i
def n6(ops:Array Oper)(mb:List MB)(i:Nat):List MB:=mb.filter fun m=>!((Fk ops i).contains m.i)
def JK(ops:Array Oper)(done:List Bool)(mb:List MB)(i:Nat):List Bool:=(u6 ops mb i).foldl (fun l m=>l.set m.i true) (done.set i true)
def Ad:List MB→List Nat
 |[]=>[]
 |m::r=>m.rd.map (·.1)++Ad r
structure NE(P:Program)(E:Env)(n:Nat)(ops:Array Oper)(done:List Bool)(mb:List MB)(K:St→Prop)(base:List (Nat×AV))(k:Nat)(ex:List (Nat×AV))(σ':St):Prop where
 sl:σ'.sl=σ'.sl.take k++ex
 rd:(Ad mb).map (look (σ'.sl.take k))=(Ad mb).map (look base)
 chk:Ds n (σ'.sl.take k) mb=true
 go:C9 P E n ops done mb ⟨σ'.sl.take k,σ'.nx,σ'.hp⟩ K
def NF(P:Program)(E:Env)(n:Nat)(ops:Array Oper)(done:List Bool)(mb:List MB)(σ:St)(K:St→Prop)(i:Nat):Prop :=
 match ops[i]? with
 |some o=>∀ex:List (Nat×AV),B2 P E n ops [o] ⟨M6 (u6 ops mb i)++(σ.sl++ex),σ.nx,σ.hp⟩ fun σ'=>NE P E n ops (JK ops done mb i) (n6 ops mb i) K (M6 (u6 ops mb i)++σ.sl) (match o.dst,o.guard with
  |some _,some _=>(u6 ops mb i).length+σ.sl.length+2
  |some _,none=>(u6 ops mb i).length+σ.sl.length+1
  |none,_=>(u6 ops mb i).length+σ.sl.length) ex σ'
 |none=>False
def XN(P:Program)(E:Env)(n:Nat)(ops:Array Oper)(done:List Bool)(mb:List MB)(σ:St)(K:St→Prop):List Nat→Prop
 |[]=>True
 |i::r=>NF P E n ops done mb σ K i∧XN P E n ops done mb σ K r
theorem SQ{P:Program}{E:Env}{n:Nat}{ops:Array Oper}{done:List Bool}{mb:List MB}{σ:St}{K:St→Prop}:∀{r:List Nat},XN P E n ops done mb σ K r→∀i∈r,NF P E n ops done mb σ K i
 |[],_,i,hi=>by cases hi
 |j::r,h,i,hi=>by
  rcases List.mem_cons.1 hi with rfl|hi
  ·exact h.1
  ·exact SQ h.2 i hi
def HW(ops:Array Oper)(done:List Bool)(mb:List MB):List Nat :=
 (List.range ops.size).filter fun i=>!(done.getD i false) && !(mb.any fun m=>Nat.beq m.i i) && (Fk ops i).all fun j=>done.getD j false || mb.any fun m=>Nat.beq m.i j
def Gk(ops:Array Oper):Bool:=(List.range ops.size).all fun i=>(Fk ops i).all fun j=>Nat.blt j i
def RI(ops:Array Oper)(done:List Bool)(mb:List MB):Bool:=(List.range ops.size).all fun i=>done.getD i false || mb.any fun m=>Nat.beq m.i i
theorem HX(l:List Bool)(i j:Nat):(l.set i true).getD j false=if i=j∧i<l.length then true else l.getD j false:=by
 simp only[List.getD_eq_getElem?_getD,List.getElem?_set]
 by_cases e:i=j
 ·subst e
  by_cases h:i<l.length
  ·simp[h]
  ·simp[h]
 ·simp[e]
theorem Pm:∀(l:List Bool) (i:Nat),l[i]?=some false→(l.set i true).count false+1=l.count false
 |[],i,h=>by simp at h
 |b::r,0,h=>by simp at h;subst h;simp
 |b::r,i+1,h=>by
  have:=Pm r i (by simpa using h)
  rw[List.set_cons_succ,List.count_cons,List.count_cons]
  omega
theorem Gl:∀(T:List MB) (l:List Bool) (j:Nat),(∀m∈T,m.i<l.length)→((T.foldl (fun l m=>l.set m.i true) l).getD j false=true↔l.getD j false=true∨∃m∈T,m.i=j)
 |[],l,j,_=>by simp
 |m::r,l,j,h=>by
  rw[List.foldl_cons,Gl r _ j (fun x hx=>by rw[List.length_set];exact h x (by simp[hx])),HX]
  have hm:=h m (by simp)
  by_cases e:m.i=j
  ·subst e
   constructor
   ·intro _;exact .inr ⟨m,by simp,rfl⟩
   ·intro _;left;rw[if_pos ⟨rfl,hm⟩]
  ·rw[if_neg (fun h=>e h.1)]
   constructor
   ·rintro (h1|⟨x,hx,e2⟩)
    ·exact .inl h1
    ·exact .inr ⟨x,by simp[hx],e2⟩
   ·rintro (h1|⟨x,hx,e2⟩)
    ·exact .inl h1
    ·rcases List.mem_cons.1 hx with rfl|hx
     ·exact absurd e2 e
     ·exact .inr ⟨x,hx,e2⟩
theorem Vr{ops:Array Oper}{i:Nat}(h:i<ops.size):(l4 ops)[i]?=some (Fk ops i):=by
 have hl:i<(l4 ops).length:=by simp[l4];exact h
 rw[Fk,List.getD_eq_getElem?_getD,List.getElem?_eq_getElem hl];rfl
theorem KI{P:Program}{E:Env}{n:Nat}{ops:Array Oper}{done:List Bool}{mb:List MB}{σ:St}{K:St→Prop}(lX:Nat.beq done.length ops.size=true)(mD:Gk ops=true)
  (nR:RI ops done mb=true→K ⟨M6 mb++σ.sl,σ.nx,σ.hp⟩) (mA:XN P E n ops done mb σ K (HW ops done mb)):C9 P E n ops done mb σ K:=by
 have lX:=Nat.eq_of_beq_eq_true lX
 intro nO lW mT
 obtain⟨nt,ng,tR⟩:=Fl mT
 have rS:∀m∈mb,m.i<ops.size:=fun m hm=>by
  obtain⟨op,ty,pos,after,h,_⟩:=nO m hm
  exact(Array.getElem?_eq_some_iff.1 h).1
 have og:∀l,∀m∈W9 l mb,m∈mb∧l.getD m.i false=true:=fun l m hm=>by
  unfold W9 at hm
  exact List.mem_filter.1 hm
 have mm:∀l,∀m∈mb,l.getD m.i false=true→m∈W9 l mb:=fun l m hm h=>List.mem_filter.2 ⟨hm,h⟩
 have hu:∀l,∀m∈W9 l mb,∀m'∈W9 l mb,m.d=m'.d→m=m':=fun l m hm m' mq=>ng m (og l m hm).1 m' (og l m' mq).1
 -- a slot of the state is none of those that may be filled
 have oS:∀l s x,look σ.sl s=some x→look (M6 (W9 l mb)) s=none:=fun l s x hs=>Gj fun m hm e=>by
  have:=(nt m (og l m hm).1).2
  rw[e,hs]at this
  cases this
 have fin:∀(l:List Bool) (a:Act) (w:World),(∀i,i<ops.size→l.getD i false=true)→(∀i,l.getD i false=true→done.getD i false=true∨∃m∈mb,m.i=i)→j4 E n ⟨M6 (W9 l mb)++σ.sl,σ.nx,σ.hp⟩ a w→(Exit.normal=Exit.normal∧∃σ',K σ'∧j4 E n σ' a w):=by
  intro l a w hl h2 hs
  refine⟨rfl,_,nR ?_,HV (fun s x h=>?_) hs⟩
  ·unfold RI
   rw[List.all_eq_true]
   intro i hi
   rcases h2 i (hl i (List.mem_range.1 hi))with h|⟨m,hm,e⟩
   ·rw[h];rfl
   ·have:(mb.any fun m=>Nat.beq m.i i)=true:=List.any_eq_true.2 ⟨m,hm,by simp[e]⟩
    rw[this];simp
  ·have:W9 l mb=mb:=List.filter_eq_self.2 fun m hm=>hl _ (rS m hm)
   rw[this];exact h
 have sK:∀(l:List Bool),l.length=ops.size→Region.ready .any ops l.toArray=[]→∀i,i<ops.size→l.getD i false=true:=by
  intro l hl hr i
  induction i using Nat.strongRecOn with
  |_ i ih =>
   intro hi
   cases hx:l.getD i false with
   |true=>rfl
   |false =>
    exfalso
    have mN:i∈b8 l 0 (l4 ops) l:=by
     rw[Cv]
     refine⟨i,Fk ops i,by omega,Vr hi,?_,fun x zl=>?_⟩
     ·rw[List.getD_eq_getElem?_getD]at hx
      have h1:l[i]?=some (l[i]'(by omega)):=List.getElem?_eq_getElem (by omega)
      rw[h1]at hx ⊢
      simpa using hx
     ·unfold Gk at mD
      have h1:=List.all_eq_true.1 mD i (List.mem_range.2 hi)
      have h2:=List.all_eq_true.1 h1 x zl
      have h3:x<i:=by simpa using h2
      exact ih x h3 (by omega)
    have:=(V8 hl i).2 mN
    rw[hr]at this
    cases this
 intro lZ
 induction lZ with
 |zero =>
  intro l a w hl h1 h2 pQ hs
  have h0:∀i,i<ops.size→l.getD i false=true:=by
   intro i hi
   have sW:l[i]?=some (l[i]'(by omega)):=List.getElem?_eq_getElem (by omega)
   rw[List.getD_eq_getElem?_getD,sW]
   cases hb:l[i]'(by omega)with
   |true=>rfl
   |false =>
    have:0<l.count false:=List.count_pos_iff.2 (hb▸List.getElem_mem _)
    omega
  refine⟨?_,fin l a w h0 h2 hs⟩
  cases hx:Region.ready .any ops l.toArray with
  |nil=>rfl
  |cons i r =>
   have:=(V8 hl i).1 (by rw[hx];simp)
   rw[Cv]at this
   obtain⟨j,e,e1,_,e2,_⟩:=this
   have hj:j<ops.size:=by rw[←hl];exact(List.getElem?_eq_some_iff.1 e2).1
   have:=h0 j hj
   rw[List.getD_eq_getElem?_getD,e2]at this
   cases this
 |succ lZ ih =>
  intro l a w hl h1 h2 pQ hs
  refine⟨fun hr=>fin l a w (sK l hl hr) h2 hs,fun i hi=>?_⟩
  have mo:=(V8 hl i).1 hi
  rw[Cv]at mo
  obtain⟨i',e,ei,he,hf,uN⟩:=mo
  obtain rfl:i=i':=by omega
  have yw:i<ops.size:=by rw[←hl];exact(List.getElem?_eq_some_iff.1 hf).1
  rw[Vr yw]at he
  cases he
  have yv:l.getD i false=false:=by rw[List.getD_eq_getElem?_getD,hf];rfl
  have mM:(l.set i true).length=ops.size:=by rw[List.length_set];exact hl
  have st:(l.set i true).count false≤lZ:=by have:=Pm l i hf;omega
  have mc:∀j,(l.set i true).getD j false=true↔j=i∨l.getD j false=true:=by
   intro j
   rw[HX]
   by_cases e:i=j
   ·subst e;simp;omega
   ·simp[e,Ne.symm e]
  by_cases hm:∃m∈mb,m.i=i
  ·obtain⟨m,hm,tl⟩:=hm
   subst tl
   obtain⟨op,ty,pos,after,ho,hq⟩:=nO m hm
   unfold wpOp
   simp only[ho]
   rw[if_pos (by simp[Region.wanted])]
   left
   obtain⟨θ,hs⟩:=hs
   have ns:y9 E θ σ.nx σ.hp (F3 ⟨m.rd,0,[]⟩) a w:=by
    have h0:=hs.evT
    refine⟨h0.fr,h0.owns,h0.X,fun {x av} hx=>h0.rel (x:=x) ?_,h0.apart,h0.fresh,h0.tab⟩
    cases x with
    |tmp t =>
     have oE:look m.rd t=some av:=hx
     show look (M6 (W9 l mb)++σ.sl) t=some av
     have mN:∀(rd:List (Nat×AV)),look rd t=some av→(t,av)∈rd:=by
      intro rd
      induction rd with
      |nil=>intro h;cases h
      |cons p r ih =>
       obtain⟨k,x⟩:=p
       intro h
       rw[E6]at h
       by_cases e:k=t
       ·subst e;rw[if_pos rfl]at h;cases h;simp
       ·rw[if_neg e]at h;exact List.mem_cons_of_mem _ (ih h)
     rw[R5]
     rcases lW m hm (t,av) (mN _ oE)with h|⟨m',mq,e1,e2,e3⟩
     ·rw[oS l t av h];exact h
     ·have h4:m'∈W9 l mb:=mm l m' mq (uN _ e3)
      have h5:=EB (hu l) h4
      have e1:m'.d=t:=e1
      have e2:m'.av=av:=e2
      rw[e1,e2]at h5
      rw[h5]
    |const c=>exact hx
    |global g=>exact hx
    |func f=>exact hx
   refine RZ (hq E σ.nx σ.hp ty (some m.d) pos after θ a w (fun v w'=>Below w.heap.size w w'∧D7 (kx E θ σ.nx σ.hp w') m.av v) ns fun v w' hb hr=>⟨hb,hr⟩) fun v w' wV=>?_
   rw[V5]
   refine ih (l.set m.i true) _ w' mM (fun j hj=>(mc j).2 (.inr (h1 j hj))) (fun j hj=>?_) st ?_
   ·rcases(mc j).1 hj with e|e
    ·exact .inr ⟨m,hm,e.symm⟩
    ·exact h2 j e
   ·have oz:=(hs.below wV.1).put (d:=m.d) (nt m hm).1 (x:=m.av) (v:=v) wV.2
    refine HV (sl:=(m.d,m.av)::(M6 (W9 l mb)++σ.sl)) (fun s x h=>?_) ⟨θ,oz⟩
    rw[R5]at h
    rw[E6,R5]
    cases hx:look (M6 (W9 (l.set m.i true) mb)) s with
    |some y =>
     rw[hx]at h
     cases h
     obtain⟨m',mq,e1,e2⟩:=u5 hx
     obtain⟨h3,h4⟩:=og _ m' mq
     by_cases e:m.d=s
     ·rw[if_pos e,ng m hm m' h3 (by rw[e,e1]),e2]
     ·rw[if_neg e]
      have h5:l.getD m'.i false=true:=by
       rcases(mc _).1 h4 with h6|h6
       ·have:=tR m' h3 m hm h6
        subst this
        exact absurd e1 e
       ·exact h6
      have:=EB (hu l) (mm l m' h3 h5)
      rw[e1,e2]at this
      rw[this]
    |none =>
     rw[hx]at h
     have h':look σ.sl s=some x:=h
     have hne:m.d≠s:=fun e=>by have:=(nt m hm).2;rw[e,h']at this;cases this
     rw[if_neg hne,oS l s x h']
     exact h'
  ·have oV:∀m∈mb,m.i≠i:=fun m mq e=>hm ⟨m,mq,e⟩
   have uT:done.getD i false=false:=by
    cases hx:done.getD i false with
    |false=>rfl
    |true=>rw[h1 i hx]at yv;cases yv
   have vM:(mb.any fun m=>Nat.beq m.i i)=false:=by
    rw[List.any_eq_false]
    intro m mq h
    exact oV m mq (Nat.eq_of_beq_eq_true h)
   have wu:i∈HW ops done mb:=by
    unfold HW
    rw[List.mem_filter]
    refine⟨List.mem_range.2 yw,?_⟩
    rw[uT,vM]
    simp only[Bool.not_false,Bool.true_and,List.all_eq_true]
    intro j hj
    rcases h2 j (uN j hj)with h|⟨m,mq,e⟩
    ·rw[h];rfl
    ·have:(mb.any fun m=>Nat.beq m.i j)=true:=List.any_eq_true.2 ⟨m,mq,by simp[e]⟩
     rw[this];simp
   have qT:=SQ mA i wu
   unfold NF at qT
   split at qT
   ·rename_i o ho
    have tI:∀m,m∈u6 ops mb i↔m∈mb∧m.i∈Fk ops i:=fun m=>by simp[u6,List.mem_filter]
    have pK:∀m,m∈n6 ops mb i↔m∈mb∧m.i∉Fk ops i:=fun m=>by simp[n6,List.mem_filter]
    have rr:j4 E n ⟨M6 (u6 ops mb i)++(σ.sl++M6 (W9 l (n6 ops mb i))),σ.nx,σ.hp⟩ a w:=by
     refine HV (fun s x h=>?_) hs
     rw[R5]at h ⊢
     cases hx:look (M6 (u6 ops mb i)) s with
     |some y =>
      rw[hx]at h
      cases h
      obtain⟨m,mq,e1,e2⟩:=u5 hx
      obtain⟨h3,h4⟩:=(tI m).1 mq
      have:=EB (hu l) (mm l m h3 (uN _ h4))
      rw[e1,e2]at this
      rw[this]
     |none =>
      rw[hx]at h
      have h:look (σ.sl++M6 (W9 l (n6 ops mb i))) s=some x:=h
      rw[R5]at h
      cases hy:look σ.sl s with
      |some y =>
       rw[hy]at h
       cases h
       rw[oS l s _ hy]
      |none =>
       rw[hy]at h
       have h:look (M6 (W9 l (n6 ops mb i))) s=some x:=h
       obtain⟨m,mq,e1,e2⟩:=u5 h
       obtain⟨h3,h4⟩:=List.mem_filter.1 mq
       have:=EB (hu l) (mm l m ((pK m).1 h3).1 h4)
       rw[e1,e2]at this
       rw[this]
    have hw:=qT (M6 (W9 l (n6 ops mb i))) a w rr
    have last:∀(kk:Nat) σ' a' w',NE P E n ops (JK ops done mb i) (n6 ops mb i) K (M6 (u6 ops mb i)++σ.sl) kk (M6 (W9 l (n6 ops mb i))) σ'→j4 E n σ' a' w'→wpAny P .any ops (fun e a' w'=>e=.normal∧∃σ',K σ'∧j4 E n σ' a' w') lZ (l.set i true).toArray a' w':=by
     intro kk σ' a' w' hp mg
     have oa:∀j,(JK ops done mb i).getD j false=true↔(done.getD j false=true∨j=i)∨∃m∈u6 ops mb i,m.i=j:=by
      intro j
      unfold JK
      rw[Gl _ _ _ (fun m mq=>by rw[List.length_set,lX];exact rS m ((tI m).1 mq).1),HX]
      by_cases e:i=j
      ·subst e;simp;left;omega
      ·simp[e,Ne.symm e]
     have vh:∀m∈u6 ops mb i,look (M6 (u6 ops mb i)++σ.sl) m.d=some m.av:=fun m mq=>by
      rw[R5,EB (fun m h m' h'=>ng m ((tI m).1 h).1 m' ((tI m').1 h').1) mq]
     refine hp.go (fun m mq=>nO m ((pK m).1 mq).1) (fun m mq p yZ=>?_) hp.chk lZ (l.set i true) a' w' mM (fun j hj=>?_) (fun j hj=>?_) st ?_
     ·have tC:look (σ'.sl.take kk) p.1=look (M6 (u6 ops mb i)++σ.sl) p.1:=by
       have mN:p.1∈Ad (n6 ops mb i):=by
        have:∀(L:List MB),m∈L→p.1∈Ad L:=by
         intro L
         induction L with
         |nil=>intro h;cases h
         |cons a r ih =>
          intro h
          simp only[Ad,List.mem_append,List.mem_map]
          rcases List.mem_cons.1 h with rfl|h
          ·exact .inl ⟨p,yZ,rfl⟩
          ·exact .inr (ih h)
        exact this _ mq
       obtain⟨t,ht,et⟩:=List.getElem_of_mem mN
       have h3:=congrArg (fun L:List (Option AV)=>L[t]?) hp.rd
       simp only[List.getElem?_map,List.getElem?_eq_getElem ht,Option.map_some,Option.some.injEq,et]at h3
       exact h3
      rcases lW m ((pK m).1 mq).1 p yZ with h|⟨m',uY,e1,e2,e3⟩
      ·left
       rw[tC,R5,Gj (fun u oo e=>by
        have:=(nt u ((tI u).1 oo).1).2
        rw[e,h]at this
        cases this)]
       exact h
      ·by_cases vp:m'.i∈Fk ops i
       ·left
        rw[tC,←e1,vh m' ((tI m').2 ⟨uY,vp⟩),e2]
       ·exact .inr ⟨m',(pK m').2 ⟨uY,vp⟩,e1,e2,e3⟩
     ·rw[mc]
      rcases(oa j).1 hj with (h|h)|⟨m,mq,e⟩
      ·exact .inr (h1 j h)
      ·exact .inl h
      ·exact .inr (e▸uN _ ((tI m).1 mq).2)
     ·rw[oa]
      rcases(mc j).1 hj with h|h
      ·exact .inl (.inl (.inr h))
      ·rcases h2 j h with h|⟨m,mq,e⟩
       ·exact .inl (.inl (.inl h))
       ·by_cases vp:m.i∈Fk ops i
        ·exact .inl (.inr ⟨m,(tI m).2 ⟨mq,vp⟩,e⟩)
        ·exact .inr ⟨m,(pK m).2 ⟨mq,vp⟩,e⟩
     ·have pO:=hp.sl
      obtain⟨c1,c2,c3⟩:=Fl hp.chk
      have:W9 (l.set i true) (n6 ops mb i)=W9 l (n6 ops mb i):=by
       unfold W9
       refine List.filter_congr fun m mq=>?_
       rw[HX,if_neg (fun h=>oV m ((pK m).1 mq).1 h.1.symm)]
      rw[this]
      refine HV (sl:=σ'.sl) (fun s x h=>?_) mg
      rw[R5]at h
      rw[pO,R5]
      cases hx:look (M6 (W9 l (n6 ops mb i))) s with
      |some y =>
       rw[hx]at h
       cases h
       obtain⟨m,mq,e1,e2⟩:=u5 hx
       have h3:=(c1 m (List.mem_filter.1 mq).1).2
       rw[e1]at h3
       rw[h3]
      |none =>
       rw[hx]at h
       have h:look (σ'.sl.take kk) s=some x:=h
       rw[h]
    unfold wpOp
    simp only[ho]
    unfold wpList at hw
    split
    ·rename_i nN
     rw[if_pos nN]at hw
     rcases hw with hw|⟨_,a1,w1,hx⟩
     ·refine .inl (Lg (fun e a w h=>h.1) (fun a' w' hn=>?_) hw)
      obtain⟨_,σ',hk,mg⟩:=hn
      rw[V5]
      exact last _ σ' a' w' hk mg
     ·exact absurd hx.1 (by simp)
    ·rename_i nN
     rw[if_neg nN]at hw
     obtain⟨_,σ',hk,mg⟩:=hw
     rw[V5]
     exact last _ σ' _ _ hk mg
   ·exact qT.elim
def RJ:List MB→(List MB→Prop)→Prop
 |[],F=>F []
 |⟨i,d,av,rd⟩::r,F=>Ct rd fun rd2=>RJ r fun s=>F (⟨i,d,av,rd2⟩::s)
theorem NG:∀{l:List MB} {F:List MB→Prop},RJ l F→F l
 |[],F,h=>h
 |⟨i,d,av,rd⟩::r,F,h=>NG (l:=r) (F:=fun s=>F (⟨i,d,av,rd⟩::s)) (l9 h)
def Lh(op:Op)(sl:List (Nat×AV)):List (Nat×AV):=op.operands.toList.filterMap fun x=>match x with
 |.tmp t=>(look sl t).map fun a=>(t,a)
 |_=>none
def Vs(ops:Array Oper)(mb:List MB)(i:Nat)(op:Op):Bool:=op.operands.toList.all fun x=>match x with
 |.tmp t=>mb.all fun m=>!(Nat.beq m.d t) || (Fk ops i).contains m.i
 |_=>true
def SR(ev:Operand→Option AV)(x:Operand):Bool:=match ev x with
 |some a=>J2 a
 |none=>false
def lO(op:Op)(ev:Operand→Option AV):Bool :=
 match op with
 |.move x=>(ev x).isSome
 |.assign x=>(ev x).isSome
 |.binOp _ _ x y _=>SR ev x && SR ev y
 |.load _ x=>match ev x with
  |some (.iptr _)=>true
  |_=>false
 |.fieldAddr _ x _=>match ev x with
  |some (.iptr _)=>true
  |some (.ref _ _)=>true
  |_=>false
 |.indexAddr _ x y=>(match ev x with
  |some (.sl _ _)=>true
  |_=>false) && SR ev y
 |.call ⟨.builtin .len,⟨[x]⟩,⟨[_]⟩⟩=>match ev x with
  |some (.sl _ _)=>true
  |some (.str _)=>true
  |some (.v (.slice none 0 0))=>true
  |_=>false
 |.call ⟨.value (.func f),⟨args⟩,_⟩=>match l8 ev args with
  |some l=>I8 l
  |none=>false
 |.build _ ⟨parts⟩=>match Bo ev parts with
  |some ps=>ps.all fun p=>J2 p.2
  |none=>false
 |.buildSlice _ _ ⟨parts⟩=>match Bo ev parts with
  |some ps=>ps.all fun p=>J2 p.2
  |none=>false
 |.convert _ _ x=>SR ev x
 |.extract x k=>match ev x with
  |some (.tup l)=>(l[k]?).isSome
  |_=>false
 |.slice _ x lo hi none=>(match ev x with
  |some (.str _)=>true
  |_=>false) && (match lo with
  |some o=>SR ev o
  |none=>true) && (match hi with
  |some o=>SR ev o
  |none=>true)
 |.unOp .not _ x=>match ev x with
  |some (.v (.bool _))=>true
  |_=>false
 |.index _ x y=>(match ev x with
  |some (.str _)=>true
  |_=>false) && SR ev y
 |_=>false
def RK(ops:Array Oper)(n:Nat)(done:List Bool)(mb:List MB)(sl:List (Nat×AV))(i:Nat):Bool :=
 !(done.getD i false) && !(mb.any fun m=>Nat.beq m.i i) && ((Fk ops i).all fun j=>done.getD j false || mb.any fun m=>Nat.beq m.i j) && match ops[i]? with
  |some ⟨some d,op,_,_,_,none⟩=>lO op (F3 ⟨M6 mb++sl,0,[]⟩) && Ds n sl (⟨i,d,.any,[]⟩::mb) && Vs ops mb i op
  |_=>false
theorem cS{op:Op}{sl:List (Nat×AV)}{p:Nat×AV}(h:p∈Lh op sl):look sl p.1=some p.2∧Operand.tmp p.1∈op.operands.toList:=by
 unfold Lh at h
 rw[List.mem_filterMap]at h
 obtain⟨x,hx,h⟩:=h
 split at h
 ·rw[Option.map_eq_some_iff]at h
  obtain⟨a,ha,rfl⟩:=h
  exact⟨ha,hx⟩
 ·cases h
theorem SS{P:Program}{E:Env}{n:Nat}{ops:Array Oper}{done:List Bool}{mb:List MB}{σ:St}{K:St→Prop}{i d:Nat}{op:Op}{ty:TypeId}{pos:String}{after:Array Edge}(oU:ops[i]?=some ⟨some d,op,ty,pos,after,none⟩)
  (uN:Vs ops mb i op=true) (qc:Ds n σ.sl (⟨i,d,.any,[]⟩::mb)=true) (uT:done.getD i false=false)
  (h:MV P op (F3 ⟨Lh op (M6 mb++σ.sl),0,[]⟩) fun av=>C9 P E n ops done (⟨i,d,av,Lh op (M6 mb++σ.sl)⟩::mb) σ K):C9 P E n ops done mb σ K:=by
 obtain⟨av,hq,h⟩:=kq h
 intro nO lW mT lZ l a w hl h1 h2 pQ hs
 obtain⟨c1,c2,c3⟩:=Fl qc
 have sW:l.getD i false=false:=by
  cases hx:l.getD i false with
  |false=>rfl
  |true =>
   exfalso
   rcases h2 i hx with h|⟨m,hm,e⟩
   ·rw[uT]at h;cases h
   ·simp only[Ds,Bool.and_eq_true,List.all_eq_true,Bool.not_eq_true']at qc
    have h3:=(qc.1.2 m hm).2
    rw[e]at h3
    simp at h3
 refine h (fun m hm=>?_) (fun m hm p hp=>?_) qc lZ l a w hl h1 (fun j hj=>?_) pQ ?_
 ·rcases List.mem_cons.1 hm with rfl|hm
  ·exact⟨op,ty,pos,after,oU,hq⟩
  ·exact nO m hm
 ·rcases List.mem_cons.1 hm with rfl|hm
  ·obtain⟨h3,h4⟩:=cS hp
   rw[R5]at h3
   cases hx:look (M6 mb) p.1 with
   |none=>rw[hx]at h3;exact .inl h3
   |some y =>
    rw[hx]at h3
    cases h3
    obtain⟨m',mq,e1,e2⟩:=u5 hx
    refine .inr ⟨m',List.mem_cons_of_mem _ mq,e1,e2,?_⟩
    have h5:=List.all_eq_true.1 uN _ h4
    have h6:=List.all_eq_true.1 h5 m' mq
    rw[e1]at h6
    simpa using h6
  ·rcases lW m hm p hp with h3|⟨m',mq,h4⟩
   ·exact .inl h3
   ·exact .inr ⟨m',List.mem_cons_of_mem _ mq,h4⟩
 ·rcases h2 j hj with h3|⟨m,hm,e⟩
  ·exact .inl h3
  ·exact .inr ⟨m,List.mem_cons_of_mem _ hm,e⟩
 ·have:W9 l (⟨i,d,av,Lh op (M6 mb++σ.sl)⟩::mb)=W9 l mb:=by
   unfold W9
   rw[List.filter_cons,if_neg (by simp only[sW];exact Bool.false_ne_true)]
  rw[this]
  exact hs
structure iw(F:List (Nat×AV)→Prop):Prop where
 h:∀ex,F ex
theorem ku{F:List (Nat×AV)→Prop}(h:∀ex,F ex):iw F:=⟨h⟩
structure NH(P:Program)(E:Env)(n:Nat)(ops:Array Oper)(done:List Bool)(mb:List MB)(σ:St)(K:St→Prop)(r:List Nat):Prop where
 h:XN P E n ops done mb σ K r
theorem fP{P:Program}{E:Env}{n:Nat}{ops:Array Oper}{done:List Bool}{mb:List MB}{σ:St}{K:St→Prop}:NH P E n ops done mb σ K []:=⟨trivial⟩
def XO(P:Program)(E:Env)(n:Nat)(ops:Array Oper)(done:List Bool)(mb:List MB)(σ:St)(K:St→Prop)(i:Nat):Prop :=
 match ops[i]? with
 |some o=>Ct (M6 (u6 ops mb i)++σ.sl) fun vR=>iw fun ex=>B2 P E n ops [o] ⟨vR++ex,σ.nx,σ.hp⟩ fun σ'=>NE P E n ops (JK ops done mb i) (n6 ops mb i) K (M6 (u6 ops mb i)++σ.sl) (match o.dst,o.guard with
  |some _,some _=>(u6 ops mb i).length+σ.sl.length+2
  |some _,none=>(u6 ops mb i).length+σ.sl.length+1
  |none,_=>(u6 ops mb i).length+σ.sl.length) ex σ'
 |none=>False
theorem XP{P:Program}{E:Env}{n:Nat}{ops:Array Oper}{done:List Bool}{mb:List MB}{σ:St}{K:St→Prop}{i:Nat}(h:XO P E n ops done mb σ K i):NF P E n ops done mb σ K i:=by
 unfold XO at h
 unfold NF
 split at h
 ·have h2:=(l9 h).h
  simp only[List.append_assoc]at h2
  exact h2
 ·exact h.elim
theorem fQ{P:Program}{E:Env}{n:Nat}{ops:Array Oper}{done:List Bool}{mb:List MB}{σ:St}{K:St→Prop}{i:Nat}{r:List Nat}(h:XO P E n ops done mb σ K i)(k:NH P E n ops done mb σ K r):NH P E n ops done mb σ K (i::r):=⟨⟨XP h,k.h⟩⟩
theorem fR{P:Program}{E:Env}{n:Nat}{ops:Array Oper}{done:List Bool}{mb:List MB}{K:St→Prop}{base:List (Nat×AV)}{k:Nat}{ex:List (Nat×AV)}{σ':St}(h1:σ'.sl=σ'.sl.take k++ex)(h2:(Ad mb).map (look (σ'.sl.take k))=(Ad mb).map (look base))(h3:Ds n (σ'.sl.take k) mb=true)
  (h4:Ct (σ'.sl.take k) fun vR=>U6 σ'.hp fun hp2=>H0 σ'.nx fun qj=>KG done fun qy=>RJ mb fun wz=>C9 P E n ops qy wz ⟨vR,qj,hp2⟩ K):NE P E n ops done mb K base k ex σ' :=
 ⟨h1,h2,h3,NG (EX (D8 (S5 (l9 h4))))⟩
def ix(P:Program)(E:Env)(n:Nat)(ops:Array Oper)(done:List Bool)(mb:List MB)(σ:St)(K:St→Prop):Prop :=
 match (List.range ops.size).find? (RK ops n done mb σ.sl)with
 |some i=>match ops[i]? with
  |some ⟨some d,op,_,_,_,none⟩=>Ct (Lh op (M6 mb++σ.sl)) fun rd=>MV P op (F3 ⟨rd,0,[]⟩) fun av=>C9 P E n ops done (⟨i,d,av,rd⟩::mb) σ K
  |_=>False
 |none=>RH (HW ops done mb) fun L=>match L with
  |[]=>cond (RI ops done mb) (K ⟨M6 mb++σ.sl,σ.nx,σ.hp⟩) False
  |i::r=>NH P E n ops done mb σ K (i::r)
theorem Pn{P:Program}{E:Env}{n:Nat}{ops:Array Oper}{done:List Bool}{mb:List MB}{σ:St}{K:St→Prop}(lX:Nat.beq done.length ops.size=true)(mD:Gk ops=true)(h:ix P E n ops done mb σ K):C9 P E n ops done mb σ K:=by
 unfold ix at h
 split at h
 ·rename_i i hi
  have hc:=List.find?_some hi
  split at h
  ·rename_i d op ty pos after oU
   simp only[RK,oU,Bool.and_eq_true,Bool.not_eq_true']at hc
   exact SS oU hc.2.2 hc.2.1.2 hc.1.1.1 (l9 h)
  ·exact h.elim
 ·have h:=HR h
  split at h
  ·rename_i hr
   obtain⟨ha,h⟩:=cond_false h
   exact KI lX mD (fun _=>h) (by rw[hr];trivial)
  ·rename_i i r hr
   refine KI lX mD (fun ha=>?_) (by rw[hr];exact h.h)
   exfalso
   have mN:i∈HW ops done mb:=by rw[hr];simp
   unfold HW at mN
   rw[List.mem_filter]at mN
   have h2:=List.all_eq_true.1 ha i mN.1
   have h3:=mN.2
   simp only[Bool.and_eq_true,Bool.not_eq_true']at h3
   rw[h3.1.1,h3.1.2]at h2
   cases h2
theorem FA{P:Program}{E:Env}{n:Nat}{ops:Array Oper}{σ:St}{K:St→Prop}(h:C9 P E n ops (O8 ops) [] σ K):D3 P E n ops ops.size (O8 ops) σ K:=fun a w hs =>
 h (fun m hm=>by cases hm) (fun m hm=>by cases hm) rfl ops.size (O8 ops) a w (by simp[O8]) (fun i h=>h) (fun i h=>.inl h) (by
  have:=List.count_le_length (a:=false) (l:=O8 ops)
  simpa [O8]using this) hs
theorem G9{P:Program}{E:Env}{n:Nat}{ops:Array Oper}{σ:St}{Q:Exit→St→Prop}{id:Nat}[hm:JC P](S:St)(h:KG (O8 ops) fun d=>Ct σ.sl fun sl=>C9 P E n ops d [] ⟨sl,σ.nx,σ.hp⟩ fun σ'=>St.le E n σ' S)(k:Q .normal S):Cr P E n id ops σ Q:=JI S (FA (l9 (EX h))) k
def eY(S:Nat→List AV→Prop):List Nat→List AV→Prop
 |[],l=>l=[]
 |t::r,l=>∃a b,S t a∧eY S r b∧l=a++b
def iy(S:List AV→Prop):Nat→List AV→Prop
 |0,l=>l=[]
 |n+1,l=>∃a b,S a∧iy S n b∧l=a++b
def Gm(P:Program)(tot:Nat):List Field→Nat→Bool
 |[],o=>Nat.beq o tot
 |f::r,o=>Nat.beq f.offset o && Gm P tot r (o+P.cellsOf f.type)
def Sh(P:Program):Nat→TypeId→List AV→Prop
 |0,_,_=>False
 |f+1,t,l=>match P.underlying t with
  |some .bool=>∃b,l=[.v (.bool b)]
  |some (.int k)=>∃n,(Lit.int k n).wf=true∧l=[.v (.int k n)]
  |some .string=>∃s,s.length≤maxLen∧l=[.str s]
  |some (.slice e)=>∃ls,ls.length≤maxLen∧(∀x∈ls,Sh P f e x)∧l=[.sl (P.cellsOf e) ls]
  |some (.struct fs)=>Gm P (P.cellsOf t) fs.toList 0=true→eY (Sh P f) (fs.toList.map (·.type)) l
  |some (.array n e)=>P.cellsOf t=n*P.cellsOf e→iy (Sh P f e) n l
  |_=>True
def Gn:Nat→Prop:=fun _=>False
def DS(w:World)(l:List AV)(cs:List Value):Prop:=l.length=cs.length∧∀(j:Nat) x y,l[j]?=some x→cs[j]?=some y→Im Gn w x y
theorem DS.nil{w:World}:DS w [] []:=⟨rfl,fun j x y h=>by simp at h⟩
theorem DS.one{w:World}{a:AV}{v:Value}(h:Im Gn w a v):DS w [a] [v]:=⟨rfl,fun j x y hx hy=>by
 cases j with
 |zero=>simp at hx hy;subst hx hy;exact h
 |succ j=>simp at hx⟩
theorem DS.app{w:World}{l m:List AV}{cs ds:List Value}(h:DS w l cs)(h':DS w m ds):DS w (l++m) (cs++ds):=by
 refine⟨by rw[List.length_append,List.length_append,h.1,h'.1],fun j x y hx hy=>?_⟩
 by_cases hj:j<l.length
 ·rw[List.getElem?_append_left hj]at hx
  rw[List.getElem?_append_left (by rw[←h.1];exact hj)]at hy
  exact h.2 j x y hx hy
 ·rw[List.getElem?_append_right (by omega)]at hx
  rw[List.getElem?_append_right (by rw[←h.1];omega),←h.1]at hy
  exact h'.2 _ x y hx hy
theorem DS.raw{w:World}(cs:List Value):DS w (cs.map .v) cs:=⟨by simp,fun j x y hx hy=>by
 rw[List.getElem?_map,hy]at hx
 simp at hx;subst hx;exact .v _⟩
theorem HY{α β:Type}{f:α→Option β}:∀{l:List α} {r:List β},l.mapM f=some r→r.length=l.length∧∀(i:Nat) x,l[i]?=some x→∃y,r[i]?=some y∧f x=some y
 |[],r,h=>by simp at h;subst h;simp
 |a::l,r,h=>by
  rw[List.mapM_cons]at h
  cases ha:f a with
  |none=>rw[ha]at h;cases h
  |some y =>
   rw[ha]at h
   cases hl:l.mapM f with
   |none=>rw[hl]at h;cases h
   |some r' =>
    rw[hl]at h
    cases h
    obtain⟨h1,h2⟩:=HY hl
    refine⟨by simp[h1],fun i x hi=>?_⟩
    cases i with
    |zero=>simp at hi;subst hi;exact⟨y,rfl,ha⟩
    |succ i=>simp at hi;simpa using h2 i x hi
theorem Uq{w:World}{base:Nat}{a:Addr}{n:Nat}{cs:List Value}(h:w.cells? base a n=some cs):cs.length=n∧∀j,j<n→∃v,cs[j]?=some v∧w.cell? (a.add j)=some v:=by
 unfold World.cells? at h
 split at h
 ·obtain⟨h1,h2⟩:=HY h
  rw[List.length_range]at h1
  refine⟨h1,fun j hj=>?_⟩
  obtain⟨y,hy,hc⟩:=h2 j j (by rw[List.getElem?_range hj])
  exact⟨y,hy,hc⟩
 ·cases h
theorem cT{α:Type}(n:Nat)(f:Nat→α)(i:Nat):((List.range n).map f)[i]?=if i<n then some (f i)else none:=by
 by_cases h:i<n
 ·simp[h]
 ·simp[h]
section
variable {H:Type} {enc:TypeId×Value→H} {P:Program} {w:World} {base:Nat} {spare:Nat→Bool} {held:Bool}
theorem Po{S:Nat→List AV→Prop}{T:Nat→List Value→Option (DataW H×List MemPlace)}(hT:∀t cs y,T t cs=some y→∃l,S t l∧DS w l cs){tot:Nat}(cs:List Value)(mz:cs.length=tot):
  ∀(fs:List Field) (o:Nat) {r},Gm P tot fs o=true→(fs.mapM fun f=>T f.type ((cs.drop f.offset).take (P.cellsOf f.type)))=some r→∃l,eY S (fs.map (·.type)) l∧DS w l (cs.drop o)
 |[],o,r,hc,h=>by
  have:o=tot:=Nat.eq_of_beq_eq_true hc
  exact⟨[],rfl,by rw[List.drop_of_length_le (by omega)];exact .nil⟩
 |f::fs,o,r,hc,h=>by
  simp only[Gm,Bool.and_eq_true]at hc
  have ho:f.offset=o:=Nat.eq_of_beq_eq_true hc.1
  rw[List.mapM_cons]at h
  cases ha:T f.type ((cs.drop f.offset).take (P.cellsOf f.type))with
  |none=>rw[ha]at h;cases h
  |some y =>
   rw[ha]at h
   cases hl:(fs.mapM fun f=>T f.type ((cs.drop f.offset).take (P.cellsOf f.type)))with
   |none=>rw[hl]at h;cases h
   |some r' =>
    obtain⟨a,xV,wj⟩:=hT _ _ _ ha
    obtain⟨b,nD,mC⟩:=Po hT cs mz fs _ hc.2 hl
    refine⟨a++b,⟨a,b,xV,nD,rfl⟩,?_⟩
    have:=wj.app mC
    rw[ho,←List.drop_drop,List.take_append_drop]at this
    exact this
theorem SU{S:List AV→Prop}{c:Nat}{T:List Value→Option (DataW H×List MemPlace)}(hT:∀cs y,T cs=some y→∃l,S l∧DS w l cs)(cs:List Value):
  ∀(n i:Nat),cs.length=(i+n)*c→(∀k,k<n→∃y,T ((cs.drop ((i+k)*c)).take c)=some y)→∃l,iy S n l∧DS w l (cs.drop (i*c))
 |0,i,hl,_=>⟨[],rfl,by rw[List.drop_of_length_le (by rw[hl,Nat.add_zero];exact Nat.le_refl _)];exact .nil⟩
 |n+1,i,hl,h=>by
  obtain⟨y,hy⟩:=h 0 (by omega)
  obtain⟨a,xV,wj⟩:=hT _ _ hy
  obtain⟨b,nD,mC⟩:=SU hT cs n (i+1) (by rw[hl];congr 1;omega) (fun k hk=>by
   obtain⟨z,hz⟩:=h (k+1) (by omega)
   exact⟨z,by rw[show i+1+k=i+(k+1) by omega];exact hz⟩)
  refine⟨a++b,⟨a,b,xV,nD,rfl⟩,?_⟩
  have:=wj.app mC
  rw[Nat.add_zero,Nat.add_mul,Nat.one_mul,←List.drop_drop,List.take_append_drop]at this
  exact this
theorem fS:∀(lZ:Nat) (t:TypeId) (cs:List Value) (y:DataW H×List MemPlace),DataW.trod enc P w base spare held lZ t cs=some y→∃l,Sh P lZ t l∧DS w l cs:=by
 intro lZ
 induction lZ with
 |zero=>intro t cs y h;simp[DataW.trod]at h
 |succ f ih =>
  intro t cs y h
  have raw:(∀l,Sh P (f+1) t l)→∃l,Sh P (f+1) t l∧DS w l cs:=fun mA=>⟨_,mA _,.raw cs⟩
  unfold DataW.trod at h
  split at h
  ·rename_i ht
   exact⟨[.v (.bool _)],by simp only[Sh,ht];exact⟨_,rfl⟩,.one (.v _)⟩
  ·rename_i k k' n ht
   split at h
   ·rename_i hk
    obtain⟨rfl,hwf⟩:=hk
    exact⟨[.v (.int k' n)],by simp only[Sh,ht];exact⟨_,hwf,rfl⟩,.one (.v _)⟩
   ·cases h
  ·rename_i ht;exact raw fun l=>by simp only[Sh,ht]
  ·rename_i s ht
   split at h
   ·rename_i hs
    refine⟨[.str s.data.toList],by simp only[Sh,ht];exact⟨_,by rw[Array.length_toList];exact hs,rfl⟩,.one ?_⟩
    have:=Im.str (U:=Gn) (w:=w) s.data.toList
    simpa using this
   ·cases h
  ·rename_i ht;exact raw fun l=>by simp only[Sh,ht]
  ·rename_i ht;exact raw fun l=>by simp only[Sh,ht]
  ·rename_i e ht
   exact⟨[.sl (P.cellsOf e) []],by simp only[Sh,ht];exact⟨[],Nat.zero_le _,(fun x hx=>by cases hx),rfl⟩,.one (.slnil _)⟩
  ·rename_i e a len cap ht
   simp only at h
   split at h
   ·rename_i hb
    obtain⟨nF,vG,qq⟩:=hb
    rw[Option.bind_eq_some_iff]at h
    obtain⟨elems,lU,_⟩:=h
    obtain⟨_,pu⟩:=HY lU
    have key:∀i,∃p:List AV×List Value,i<len→Sh P f e p.1∧DS w p.1 p.2∧p.2.length=P.cellsOf e∧∀j,j<P.cellsOf e→∃v,p.2[j]?=some v∧w.cell? (a.add (i*P.cellsOf e+j))=some v:=by
     intro i
     by_cases hi:i<len
     ·obtain⟨z,_,hz⟩:=pu i i (by rw[List.getElem?_range hi])
      rw[Option.bind_eq_some_iff]at hz
      obtain⟨csi,mz,vF⟩:=hz
      obtain⟨lX,mS⟩:=Uq mz
      obtain⟨l,hsh,hp⟩:=ih _ _ _ vF
      exact⟨(l,csi),fun _=>⟨hsh,hp,lX,fun j hj=>by
       obtain⟨v,hv,hc⟩:=mS j hj
       rw[DW]at hc
       exact⟨v,hv,hc⟩⟩⟩
     ·exact⟨([],[]),fun h=>absurd h hi⟩
    have qn:=fun i=>Classical.choose_spec (key i)
    generalize hg:(fun i=>Classical.choose (key i))=g at qn
    have gi:∀i,Classical.choose (key i)=g i:=fun i=>congrFun hg i
    simp only[gi]at qn
    refine⟨[.sl (P.cellsOf e) ((List.range len).map fun i=>(g i).1)],?_,.one ?_⟩
    ·simp only[Sh,ht]
     refine⟨_,by simp;omega,fun x hx=>?_,rfl⟩
     obtain⟨i,hi,rfl⟩:=List.mem_map.1 hx
     exact(qn i (List.mem_range.1 hi)).1
    ·have hl:((List.range len).map fun i=>(g i).1).length=len:=by simp
     have:=Im.sl (U:=Gn) (w:=w) (P.cellsOf e) ((List.range len).map fun i=>(g i).1) a cap (fun i j=>(g i).2.getD j undef) (by rw[hl];exact vG) qq (fun _ _ h=>h)
      (fun x hx=>by
       obtain⟨i,hi,rfl⟩:=List.mem_map.1 hx
       obtain⟨_,h1,h2,_⟩:=qn i (List.mem_range.1 hi)
       rw[h1.1,h2])
      (fun i hi j hj=>by
       rw[hl]at hi
       obtain⟨_,_,_,h3⟩:=qn i hi
       obtain⟨v,hv,hc⟩:=h3 j hj
       simp only[List.getD_eq_getElem?_getD,hv]
       exact hc)
      (fun i x hx j u hu=>by
       rw[cT]at hx
       split at hx
       ·rename_i hi
        cases hx
        obtain⟨_,h1,h2,h3⟩:=qn i hi
        have hj:j<P.cellsOf e:=by rw[←h2,←h1.1];exact(List.getElem?_eq_some_iff.1 hu).1
        obtain⟨v,hv,_⟩:=h3 j hj
        simp only[List.getD_eq_getElem?_getD,hv]
        exact h1.2 j u v hu hv
       ·cases hx)
     rw[hl]at this
     exact this
   ·cases h
  ·rename_i fs ht
   split at h
   ·rename_i hl
    rw[Option.map_eq_some_iff]at h
    obtain⟨r,hr,_⟩:=h
    by_cases hc:Gm P (P.cellsOf t) fs.toList 0=true
    ·obtain⟨l,h1,h2⟩:=Po (S:=Sh P f) (fun t cs y h=>ih t cs y h) _ hl fs.toList 0 hc hr
     exact⟨l,by simp only[Sh,ht];exact fun _=>h1,by simpa using h2⟩
    ·exact raw fun l=>by simp only[Sh,ht];exact fun h=>absurd h hc
   ·cases h
  ·rename_i n e ht
   split at h
   ·rename_i hl
    rw[Option.map_eq_some_iff]at h
    obtain⟨r,hr,_⟩:=h
    by_cases hc:P.cellsOf t=n*P.cellsOf e
    ·obtain⟨_,nP⟩:=HY hr
     obtain⟨l,h1,h2⟩:=SU (S:=Sh P f e) (c:=P.cellsOf e) (T:=fun cs=>DataW.trod enc P w base spare held f e cs) (fun cs y h=>ih e cs y h) _ n 0 (by rw[hl,hc,Nat.zero_add]) (fun k hk=>by
      obtain⟨z,_,hz⟩:=nP k k (by rw[List.getElem?_range hk])
      exact⟨z,by rw[Nat.zero_add];exact hz⟩)
     exact⟨l,by simp only[Sh,ht];exact fun _=>h1,by simpa using h2⟩
    ·exact raw fun l=>by simp only[Sh,ht];exact fun h=>absurd h hc
   ·cases h
  all_goals first
   |cases h;done
   |(rename_i ht;exact raw (by intro l;simp only[Sh,ht]))
   |(rename_i ht;split at h<;>first|(cases h;done)|exact raw (by intro l;simp only[Sh,ht]))
   |(rename_i ht _;exact raw (by intro l;simp only[Sh,ht]))
def AW(P:Program)(t:TypeId)(a:AV):Prop:=match P.underlying t with
 |some (.struct _)|some (.array _ _)=>∃lZ l,a=.agg l∧Sh P lZ t l
 |_=>∃lZ,Sh P lZ t [a]
theorem SV{v:Value}(h:∀cs,v≠.agg cs):v.cells=#[v]:=by
 cases v<;>first|rfl|exact absurd rfl (h _)
theorem Ur{r:Reach}{b0:Nat}{t:TypeId}{v:Value}(h:Cell.okWide P w r b0 t v):∀cs,v≠.agg cs:=by
 rintro cs rfl
 simp only[Cell.okWide,Cell.ok]at h
 split at h<;>simp_all
theorem cU{r:Reach}{b0:Nat}{t:TypeId}{v:Value}{d:DataW H}{ps:List MemPlace}(nO:Value.okWide P w r b0 t v)(h:DataW.Trod enc P w base spare held t v d ps):∃a,AW P t a∧Im Gn w a v:=by
 obtain⟨lZ,h⟩:=h
 obtain⟨l,hs,hp⟩:=fS lZ t _ _ h
 have one:(∀cs,v≠.agg cs)→∃a,l=[a]∧Im Gn w a v:=by
  intro wU
  rw[SV wU]at hp
  obtain⟨h1,h2⟩:=hp
  match l,h1,h2 with
  |[a],_,h2=>exact⟨a,rfl,h2 0 a v rfl rfl⟩
 have agg:∀cs,v=.agg cs→Im Gn w (.agg l) v:=by
  rintro cs rfl
  have rz:DS w l cs.toList:=hp
  have:=Im.agg (U:=Gn) (w:=w) l cs.toList rz.1 rz.2
  simpa using this
 unfold AW
 unfold Value.okWide at nO
 split at nO
 ·rename_i ht
  obtain⟨cs,hv,_⟩:=nO
  exact⟨.agg l,(by simp only[ht];exact⟨lZ,l,rfl,hs⟩),agg cs hv⟩
 ·rename_i ht
  obtain⟨cs,hv,_⟩:=nO
  exact⟨.agg l,(by simp only[ht];exact⟨lZ,l,rfl,hs⟩),agg cs hv⟩
 ·obtain⟨a,rfl,ha⟩:=one (Ur nO)
  refine⟨a,?_,ha⟩
  split
  all_goals first|exact⟨lZ,hs⟩|(exfalso;simp_all)
def KJ(P:Program):List TypeId→List AV→Prop
 |[],l=>l=[]
 |t::ts,l=>∃a r,l=a::r∧AW P t a∧KJ P ts r
theorem Pp{r:Reach}{b0:Nat}:∀{ts:List TypeId} {vs:List Value} {ds:List (DataW H)} {ps:List MemPlace},(∀(j:Nat) t v,ts[j]?=some t→vs[j]?=some v→Value.okWide P w r b0 t v)→DataW.TrodAll enc P w base spare held ts vs ds ps →
  ds.length=ts.length∧∃l,KJ P ts l∧l.length=vs.length∧∀(j:Nat) a v,l[j]?=some a→vs[j]?=some v→Im Gn w a v
 |[],[],[],ps,_,_=>⟨rfl,[],rfl,rfl,fun j a v h=>by simp at h⟩
 |[],[],_::_,ps,_,h=>h.elim
 |[],_::_,_,ps,_,h=>h.elim
 |_::_,[],_,ps,_,h=>h.elim
 |_::_,_::_,[],ps,_,h=>h.elim
 |t::ts,v::vs,d::ds,ps,nO,h=>by
  obtain⟨p,q,h1,h2,_⟩:=h
  obtain⟨a,ha,hi⟩:=cU (nO 0 t v rfl rfl) h1
  obtain⟨hd,l,hl,lX,hr⟩:=Pp (ts:=ts) (vs:=vs) (fun j t v ht hv=>nO (j+1) t v (by simpa using ht) (by simpa using hv)) h2
  refine⟨by simp[hd],a::l,⟨a,l,rfl,ha,hl⟩,by simp[lX],fun j x y hx hy=>?_⟩
  cases j with
  |zero=>simp at hx hy;subst hx hy;exact hi
  |succ j=>exact hr j x y (by simpa using hx) (by simpa using hy)
theorem Pq(hl:laidOutB P=true){w':World}(hb:Below w.heap.size w w'):∀{ts:List TypeId} {vs:List Value} {ds:List (DataW H)} {ps:List MemPlace},(ts.all fun t=>P.readableRec t && decide (t<P.types.size))=true→(∀x∈ps,x.block<w.heap.size) →
  DataW.TrodAll enc P w 0 (fun _=>true) true ts vs ds ps→DataW.TrodAll enc P w' 0 (fun b=>decide (b<w.heap.size)) true ts vs ds ps
 |[],[],[],ps,_,_,h=>h
 |[],[],_::_,ps,_,_,h=>h.elim
 |[],_::_,_,ps,_,_,h=>h.elim
 |_::_,[],_,ps,_,_,h=>h.elim
 |_::_,_::_,[],ps,_,_,h=>h.elim
 |t::ts,v::vs,d::ds,ps,hr,lY,h=>by
  obtain⟨p,q,h1,h2,rfl⟩:=h
  rw[List.all_cons,Bool.and_eq_true,Bool.and_eq_true]at hr
  exact⟨p,q,Below.trod hl hr.1.1 (of_decide_eq_true hr.1.2) h1 hb fun x hx=>lY x (by simp[hx]),Pq hl hb hr.2 (fun x hx=>lY x (by simp[hx])) h2,rfl⟩
theorem cV{f:Nat}{fn:Func}{s:ChangeSpec}{tb:TypeId}{handsOn:Bool}{W:World}{args:Array Value}{ds gs:List (DataW H)}{before:List MemPlace}{b0:Nat}{r:Reach}
  (hl:laidOutB P=true) (hr:(fn.params.toList.all fun t=>P.readableRec t && decide (t<P.types.size))=true) (pJ:P.underlying tb=some .bool) (uF:fn.resultTypes=#[tb])
  (tD:s.vars=[]) (hs:∀ds:List (DataW H),ds.length=fn.params.toList.length→s.fn H (ds++[])={ results:=[.lit (.bool true)],args:=ds })
  (pR:∀l,KJ P fn.params.toList l→A3 P f l (.b true))
  (mU:R8 Gn W) (hval:∀(j:Nat) t v,fn.params[j]?=some t→args[j]?=some v→Value.okWide P W r b0 t v)
  (hW:DataW.Whole enc P fn.params.toList s.vars false W args.toList ds gs before) :
  Calls P f args W fun e W'=>∃v,e=.returned v∧s.post enc P fn false true handsOn false W args v W':=by
 have zJ:=hW
 obtain⟨p,q,hA,hV,rfl,hfz,uT⟩:=hW
 obtain⟨oa,l,hsh,pp,mY⟩:=Pp (r:=r) (b0:=b0) (fun j t v ht hv=>hval j t v (by simpa using ht) (by simpa using hv)) hA
 have lY:∀x∈p++q,x.block<W.heap.size:=fun x hx=>zJ.lt x hx
 rw[tD]at hV
 obtain⟨rfl,rfl⟩:gs=[]∧q=[]:=by
  cases gs with
  |nil=>exact⟨rfl,hV⟩
  |cons a b=>exact hV.elim
 have hc:=(pR l hsh).2 Gn W args.toList (fun k hk=>hk.elim) mU pp mY
 have ea:args.toList.toArray=args:=by simp
 rw[ea]at hc
 refine hc.mono fun e W' ⟨v,he,hi,hb⟩=>?_
 subst he
 cases hi
 refine⟨_,rfl,ds,[],p++[],[],p,[],zJ,?_,?_,?_,?_,fun h=>by cases h⟩
 ·rw[uF,hs ds oa]
  exact⟨[],[],shut_bool pJ true,rfl,rfl⟩
 ·rw[hs ds oa]
  exact Pq hl hb hr (fun x hx=>lY x (by simp[hx])) hA
 ·rw[tD,hs ds oa]
  rfl
 ·exact Below.frame hb _
end
section
variable {P:Program}
theorem Zf{k:IntKind}{n:Int}(h:(Lit.int k n).wf=true):k.min≤n∧n≤k.max:=by
 simpa [Lit.wf]using h
theorem wf_u8{n:Int}(h:(Lit.int .u8 n).wf=true):0≤n∧n<256:=by
 obtain⟨h1,h2⟩:=Zf h
 have e1:IntKind.min .u8=0:=rfl
 have e2:IntKind.max .u8=255:=rfl
 omega
theorem wf_i64{n:Int}(h:(Lit.int .i64 n).wf=true):-9223372036854775808≤n∧n≤9223372036854775807:=by
 obtain⟨h1,h2⟩:=Zf h
 have e1:IntKind.min .i64=-9223372036854775808:=by decide
 have e2:IntKind.max .i64=9223372036854775807:=by decide
 omega
theorem Zg{f t:Nat}{l:List AV}{k:IntKind}(ht:P.underlying t=some (.int k))(h:Sh P f t l):∃n,(Lit.int k n).wf=true∧l=[.v (.int k n)]:=by
 cases f with
 |zero=>exact h.elim
 |succ f=>simpa only[Sh,ht]using h
theorem SW{f t e c:Nat}{l:List AV}(ht:P.underlying t=some (.slice e))(hc:P.cellsOf e=c)(h:Sh P f t l):∃f' ls,ls.length≤maxLen∧(∀x∈ls,Sh P f' e x)∧l=[.sl c ls]∧f=f'+1:=by
 cases f with
 |zero=>exact h.elim
 |succ f =>
  simp only[Sh,ht]at h
  obtain⟨ls,h1,h2,h3⟩:=h
  exact⟨f,ls,h1,h2,by rw[h3,hc],rfl⟩
theorem Zh{f t:Nat}{l:List AV}{fs:Array Field}{ts:List Nat}(ht:P.underlying t=some (.struct fs))(hc:(Gm P (P.cellsOf t) fs.toList 0 && decide (fs.toList.map (·.type)=ts))=true)(h:Sh P f t l):∃f',eY (Sh P f') ts l∧f=f'+1:=by
 cases f with
 |zero=>exact h.elim
 |succ f =>
  simp only[Bool.and_eq_true,decide_eq_true_eq]at hc
  simp only[Sh,ht]at h
  exact⟨f,hc.2▸h hc.1,rfl⟩
def SX(P:Program)(t:Nat):Bool:=match P.underlying t with
 |some (.struct _)|some (.array _ _)=>true
 |_=>false
theorem fT{t:Nat}{a:AV}(ht:SX P t=true)(h:AW P t a):∃lZ l,a=.agg l∧Sh P lZ t l:=by
 unfold AW at h
 unfold SX at ht
 split at ht
 ·rename_i h1;simpa only[h1]using h
 ·rename_i h1;simpa only[h1]using h
 ·cases ht
theorem fU{t:Nat}{a:AV}(ht:SX P t=false)(h:AW P t a):∃lZ,Sh P lZ t [a]:=by
 unfold AW at h
 unfold SX at ht
 split at ht
 ·cases ht
 ·cases ht
 ·split at h
  all_goals first|exact h|(exfalso;simp_all)
theorem Pr{t e c:Nat}{a:AV}(ht:P.underlying t=some (.slice e))(hc:P.cellsOf e=c)(h:AW P t a):∃f ls,ls.length≤maxLen∧(∀x∈ls,Sh P f e x)∧a=.sl c ls:=by
 obtain⟨f,h⟩:=fU (by simp[SX,ht]) h
 obtain⟨f',ls,h1,h2,h3,_⟩:=SW ht hc h
 exact⟨f',ls,h1,h2,by simpa using h3⟩
theorem HZ{α:Type}{F:α→List AV}{R:α→Prop}:∀{ls:List (List AV)},(∀x∈ls,∃y,R y∧x=F y)→∃l:List α,ls=l.map F∧∀y∈l,R y
 |[],_=>⟨[],rfl,fun y h=>by cases h⟩
 |x::r,h=>by
  obtain⟨y,hy,e⟩:=h x (by simp)
  obtain⟨l,hl,hr⟩:=HZ (ls:=r) fun z hz=>h z (by simp[hz])
  refine⟨y::l,by simp[e,hl],fun z hz=>?_⟩
  rcases List.mem_cons.1 hz with rfl|hz
  ·exact hy
  ·exact hr z hz
abbrev N9(b:UInt8):List AV:=[.v (.int .u8 b.toNat)]
theorem Zi{t e:Nat}{a:AV}(ht:P.underlying t=some (.slice e))(he:P.underlying e=some (.int .u8))(hc:P.cellsOf e=1)(h:AW P t a):∃l:List UInt8,l.length≤maxLen∧a=.sl 1 (l.map N9):=by
 obtain⟨f,ls,h1,h2,h3⟩:=Pr ht hc h
 obtain⟨l,hl,_⟩:=HZ (F:=N9) (R:=fun _=>True) (ls:=ls) (fun x hx=>by
  obtain⟨n,hw,e⟩:=Zg he (h2 x hx)
  obtain⟨g1,g2⟩:=wf_u8 hw
  refine⟨UInt8.ofNat n.toNat,trivial,?_⟩
  rw[e,N9,UInt8.toNat_ofNat']
  rw[show ((n.toNat % 2 ^ 8:Nat):Int)=n by omega])
 exact⟨l,by rw[hl,List.length_map]at h1;exact h1,by rw[h3,hl]⟩
end
theorem XQ{α:Type}{l:List UInt8}{f:UInt8→α}{k:Nat}{F:α→Prop}(h:k<l.length)(kk:∀x,l[k]?=some x→x.toNat<256→F (f x)):P2 (l.map f) (k:Int) F:=Az h fun x hx=>kk x hx x.toNat_lt
theorem Zj{α:Type}{l:List UInt8}{f:UInt8→α}{i:Int}{F:α→Prop}(h0:0≤i)(h:i<l.length)(kk:∀x,l[i.toNat]?=some x→x.toNat<256→F (f x)):P2 (l.map f) i F:=o8 h0 h fun x hx=>kk x hx x.toNat_lt
theorem fV{l:List UInt8}{i:Int}{F:UInt8→Prop}(h0:0≤i)(h:i<l.length)(kk:∀x,l[i.toNat]?=some x→x.toNat<256→F x):P2 l i F:=ZL h0 h fun x hx=>kk x hx x.toNat_lt
theorem fW{P:Program}{S T:Nat}{k':IntKind}{b:UInt8}{F:AV→Prop}[R9 P T .i64][R9 P S k'](kk:F (.v (.int .i64 b.toNat))):BS P S T (.v (.int k' b.toNat)) F:=fL (P1 (by have:=b.toNat_lt;omega)) kk
theorem Z9{P:Program}{E:Env}{n:Nat}{ops:Array Oper}{rest:List Oper}{σ:St}{K:St→Prop}{d:Nat}{ty:TypeId}{pos:String}{after:Array Edge}{T len:Nat}{parts:List (Nat×Operand)}(hd:Nat.blt d n=true)
  (h:match Bo (F3 σ) parts with
   |some ps=>Ey P T fun e sz _ _=>cond (Cj 0 ps && s8 sz (L9 ps) && Nat.beq ps.length len && Nat.blt 0 sz && Nat.blt e K8) (G5 (len*sz≤16777216) (EA σ.hp ps (Ms (L9 ps) (H0 σ.nx fun nx=>B2 P E n ops rest ((σ.new (.row e sz 0 (L9 ps))).put d (.row nx 0 len)) K)))) False
   |none=>False):B2 P E n ops (⟨some d,.buildSlice T len ⟨parts⟩,ty,pos,after,none⟩::rest) σ K:=by
 split at h
 ·rename_i ps he
  obtain⟨⟨e,sz,bs,z,ts,tz,tb,hz,h⟩⟩:=h
  obtain⟨hc,h⟩:=cond_false h
  simp only[Bool.and_eq_true,Nat.beq_eq]at hc
  obtain⟨⟨⟨⟨h1,h2⟩,h3⟩,h4⟩,ob⟩:=hc
  obtain⟨h5,h⟩:=h
  obtain⟨h6,h⟩:=o9 h
  obtain⟨h7,h⟩:=ET h
  exact Mj (e:=e) (sz:=sz) (z:=z) he h6 h1 h2 h3 hz h5 (Nat.blt_eq▸h4) h7 (Nat.blt_eq▸ob) hd (D8 h)
 ·exact h.elim
def SY:AV→Bool
 |.v x=>XA x
 |.str _|.sl _ _|.iptr _|.fn _ _=>true
 |_=>false
theorem Kt{x:AV}(h:SY x=true):Y6 x:=by
 cases x<;>first|exact Ix h|trivial|cases h
theorem kv{m:List (List AV)}(h:(m.all fun el=>el.all SY)=true):∀el∈m,∀u∈el,Y6 u:=fun el lU u hu =>
 Kt (List.all_eq_true.1 (List.all_eq_true.1 h el lU) u hu)
theorem fX{α:Type}{l:List α}{f:α→List AV}(h:∀x,(f x).all SY=true):∀el∈l.map f,∀u∈el,Y6 u:=fun el lU u hu=>by
 obtain⟨x,_,rfl⟩:=List.mem_map.1 lU
 exact Kt (List.all_eq_true.1 (h x) u hu)
theorem F6(id:Nat){P:Program}{E:Env}{n:Nat}{ops:Array Oper}{σ:St}{Q:Exit→St→Prop}(h:Cr P E n id ops σ Q):Cr P E n id ops σ Q:=h
def Vt(o:Oper):Bool:=o.dst.isSome && match o.op with
 |.box ..|.alloc ..|.makeSlice ..|.makeMap ..|.mapUpdate ..|.store ..=>false
 |.call ⟨.builtin .append,_,_⟩=>false
 |_=>true
theorem iz{P:Program}{E:Env}{n:Nat}{ops:Array Oper}{σ:St}{id:Nat}{Q:Exit→St→Prop}[hm:JC P](hq:ops.toList.all Vt=true)(hd:EV ops=true)(h:DQ P E n ops ops.toList σ fun σ'=>Q .normal σ'):Cr P E n id ops σ Q :=
 B3 hd h
theorem O0{P:Program}{E:Env}{n:Nat}{ops:Array Oper}{σ σ':St}{id:Nat}{Q:Exit→St→Prop}(h:St.le E n σ σ')(k:Cr P E n id ops σ' Q):Cr P E n id ops σ Q:=⟨AC h k.h⟩
def Dt(sl:List (Nat×AV)):List Nat→List (Nat×AV)
 |[]=>[]
 |s::r=>match look sl s with
  |some x=>(s,x)::Dt sl r
  |none=>Dt sl r
def n8(hp:Hp):Nat→Hp
 |0=>[]
 |i+1=>match A5 hp i with
  |some b=>(i,some b)::n8 hp i
  |none=>n8 hp i
theorem Ha{sl:List (Nat×AV)}:∀{l:List Nat} {s:Nat} {x:AV},look (Dt sl l) s=some x→look sl s=some x
 |[],s,x,h=>by cases h
 |t::r,s,x,h=>by
  unfold Dt at h
  cases hx:look sl t with
  |none=>rw[hx]at h;exact Ha h
  |some y =>
   rw[hx]at h
   simp only[E6]at h
   by_cases e:t=s
   ·subst e;rw[if_pos rfl]at h;rw[hx];exact h
   ·rw[if_neg e]at h;exact Ha h
theorem GO{hp:Hp}:∀(m i:Nat),A5 (n8 hp m) i=if i<m then A5 hp i else none
 |0,i=>by simp[n8,A5,look]
 |m+1,i=>by
  unfold n8
  cases hx:A5 hp m with
  |none =>
   simp only
   rw[GO m i]
   by_cases e:i=m
   ·subst e;simp[hx]
   ·by_cases h:i<m
    ·rw[if_pos h,if_pos (by omega)]
    ·rw[if_neg h,if_neg (by omega)]
  |some b =>
   simp only[G4]
   by_cases e:m=i
   ·subst e;simp[hx]
   ·rw[if_neg e,GO m i]
    by_cases h:i<m
    ·rw[if_pos h,if_pos (by omega)]
    ·rw[if_neg h,if_neg (by omega)]
theorem Zk{E:Env}{n:Nat}{σ:St}(mi:List Nat):St.le E n σ ⟨Dt σ.sl mi,σ.nx,n8 σ.hp σ.nx⟩:=by
 rintro a w ⟨θ,h⟩
 have e:∀i,A5 (n8 σ.hp σ.nx) i=A5 σ.hp i:=by
  intro i
  rw[GO]
  by_cases hi:i<σ.nx
  ·rw[if_pos hi]
  ·rw[if_neg hi]
   cases hx:A5 σ.hp i with
   |none=>rfl
   |some b=>exact absurd (h.owns i b hx).1 hi
 have le:(cx E θ σ w).le (cx E θ ⟨Dt σ.sl mi,σ.nx,n8 σ.hp σ.nx⟩ w):=by
  refine⟨Nat.le_refl _,fun i hi=>.inl rfl,fun i hi e' lb v' l' hl=>⟨e',v',l',?_,.inr ⟨rfl,rfl,rfl⟩⟩,Nat.le_refl _,fun k hk _=>rfl,fun k hk hu=>?_⟩
  ·have mM:A5 (n8 σ.hp σ.nx) i=some (.row e' lb v' l'):=hl
   rw[e i]at mM;exact mM
  ·rcases hu with hu|⟨i,b,hi,mQ⟩
   ·exact .inl hu
   ·have mo:A5 (n8 σ.hp σ.nx) i=some b:=hi
    rw[e i]at mo
    exact .inr ⟨i,b,mo,mQ⟩
 refine⟨θ,h.size,h.defers,h.fr,fun s x hs=>(h.slots s x (Ha hs)).mono le,fun i b hi=>?_,fun i j b b' k hi hj=>?_,fun i b k hi=>?_,h.X,⟨h.base.1,fun i hi=>(h.base.2 i hi).imp id fun ⟨h1,h2⟩=>⟨h1,fun ⟨e',sz,v,l,hl,hk⟩=>h2 ⟨e',sz,v,l,by rw[←e i];exact hl,hk⟩⟩⟩⟩
 ·have mo:A5 (n8 σ.hp σ.nx) i=some b:=hi
  rw[e i]at mo
  exact⟨(h.owns i b mo).1,(h.owns i b mo).2.mono le rfl (fun _=>rfl) fun k _=>rfl⟩
 ·have mo:A5 (n8 σ.hp σ.nx) i=some b:=hi
  have lw:A5 (n8 σ.hp σ.nx) j=some b':=hj
  rw[e i]at mo
  rw[e j]at lw
  exact h.apart i j b b' k mo lw
 ·have mo:A5 (n8 σ.hp σ.nx) i=some b:=hi
  rw[e i]at mo
  exact h.mine i b k mo
def XR(σ:St)(mi:List Nat)(F:St→Prop):Prop:=Ct (Dt σ.sl mi) fun sl=>H0 σ.nx fun nx=>U6 (n8 σ.hp nx) fun hp=>F ⟨sl,nx,hp⟩
theorem Ps{σ:St}{mi:List Nat}{F:St→Prop}(h:XR σ mi F):F ⟨Dt σ.sl mi,σ.nx,n8 σ.hp σ.nx⟩:=S5 (F:=fun hp=>F ⟨Dt σ.sl mi,σ.nx,hp⟩) (D8 (F:=fun nx=>U6 (n8 σ.hp nx) fun hp=>F ⟨Dt σ.sl mi,nx,hp⟩) (l9 h))
section rules
variable {P:Program} {E:Env} {n:Nat} {ops:Array Oper} {rest:List Oper} {σ:St} {K:St→Prop} {Q:Exit→St→Prop}
theorem FB{l:List Oper}(mi:List Nat)(h:XR σ mi fun σ'=>B2 P E n ops l σ' K):B2 P E n ops l σ K:=En (Zk mi) (Ps (F:=fun σ'=>B2 P E n ops l σ' K) h)
theorem cW{c:Code}(mi:List Nat)(h:XR σ mi fun σ'=>Mz P E n c σ' Q):Mz P E n c σ Q:=⟨AC (Zk mi) (Ps (F:=fun σ'=>Mz P E n c σ' Q) h).h⟩
theorem fY{o:Oper}{l:List AV}(i:Nat)(mi:List Nat)(h:XR (σ.frz i) mi fun σ'=>B2 P E n ops (o::rest) σ' K):b7 P E n ops o rest l σ K:=J1 i (FB mi h)
end rules
class U1(G:Prop) where
 sub:Prop
 imp:sub→G
theorem lP{G:Prop}[s:U1 G](h:s.sub):G:=s.imp h
section
variable {P:Program} {E:Env} {n:Nat} {ops:Array Oper} {l:List Oper} {σ:St} {K:St→Prop} {Q:Exit→St→Prop} {c:Code} {S T f:Nat}
instance:U1 (B2 P E n ops l σ K):=⟨ig P E n ops l σ K,DX⟩
instance:U1 (C7 P E n c σ Q):=⟨XE P E n c σ Q,ZW⟩
instance:U1 (DQ P E n ops l σ K):=⟨cL P E n ops l σ K,kK⟩
instance {ag:Bool}{sz:Nat}{F:Bool→Nat→Prop}[G6 P T ag sz]:U1 (Ld P T F):=⟨F ag sz,kD⟩
instance {z:List Value}{F:List AV→Prop}[I2 P T z]:U1 (Wx P T F):=⟨F (z.map b6),iW⟩
instance {off sz:Nat}{F:Nat→Nat→Prop}[D9 P S f off sz]:U1 (OV P S f F):=⟨F off sz,kE⟩
instance {e sz:Nat}{F:Nat→Nat→Prop}[L8 P T e sz]:U1 (IX P T F):=⟨F e sz,ko⟩
instance {len e sz:Nat}{F:Nat→Nat→Prop}[LZ P T len e sz]:U1 (bh P T F):=⟨F len sz,kF (e:=e)⟩
instance {A:Prop}[j8 P T]:U1 (Dq P T A):=⟨A,iX⟩
instance {A:Prop}[Yu P T]:U1 (eQ P T A):=⟨A,kp⟩
instance {A:Prop}[KB P T]:U1 (Mp P T A):=⟨A,fJ⟩
instance {A:Prop}[Ep P T]:U1 (Gh P T A):=⟨A,fG⟩
instance {A:Prop}{k1 k2 k3:IntKind}[KC P T k1 k2 k3]:U1 (Mo P T k1 k2 k3 A):=⟨A,fH⟩
instance {A:Prop}{k:IntKind}[Ek P T k]:U1 (HN P T k A):=⟨A,kG⟩
instance {A:Prop}{k1 k2:IntKind}[HF P T k1 k2]:U1 (Mn P T k1 k2 A):=⟨A,fI⟩
instance {zs:List Value}{pl:List (Nat×Nat)}{F:List AV→List (Nat×Nat)→Prop}[I2 P T zs][L4 P T pl]:U1 (Iw P T F):=⟨F (zs.map b6) pl,fK⟩
instance {e sz bs:Nat}{z:List Value}{F:Nat→Nat→Nat→List AV→Prop}[L8 P T e sz][I2 P e z][O3 P e bs]:U1 (Ey P T F):=⟨G5 (z.length=sz) (F e sz bs (z.map b6)),fun h=>kH h.h h.k⟩
instance {k e:Nat}{t:TypeDesc}{z:Value}{F:TypeDesc→AV→Prop}[EQ P T k e t z]:U1 (Wy P T F):=⟨F t (b6 z),kI⟩
instance (priority:=low) {α:Type}{l:List α}{F:Nat→Prop}:U1 (OU l F):=⟨F l.length,kC⟩
instance {α β:Type}{l:List β}{f:β→α}{F:Nat→Prop}:U1 (OU (l.map f) F):=⟨F l.length,fD⟩
instance (priority:=low) {k:IntKind}{m:Int}{F:AV→Prop}[R9 P S k][j8 P T]:U1 (BS P S T (.v (.int k m)) F):=⟨F (.str (Utf8.encode m).data.toList),ZN⟩
instance {k k':IntKind}{m:Int}{F:AV→Prop}[R9 P T k][R9 P S k']:U1 (BS P S T (.v (.int k' m)) F):=⟨F (.v (.int k (k.wrap m))),bi⟩
instance (priority:=high) {k':IntKind}{b:UInt8}{F:AV→Prop}[R9 P T .i64][R9 P S k']:U1 (BS P S T (.v (.int k' b.toNat)) F):=⟨F (.v (.int .i64 b.toNat)),fW⟩
variable {A B p:Prop} {b:Bool}
instance (priority:=low):U1 (O7 b true A B):=⟨(b=true→A)∧(b=false→B),fun h=>cF h.1 h.2⟩
instance (priority:=low):U1 (O7 b false A B):=⟨(b=false→A)∧(b=true→B),fun h=>cG h.1 h.2⟩
instance (priority:=low):U1 (Bx b A B):=⟨(b=true→A)∧(b=false→B),fun h=>iV h.1 h.2⟩
instance:U1 (O7 (!b) true A B):=⟨(b=false→A)∧(b=true→B),fun h=>ZU h.1 h.2⟩
instance:U1 (O7 (!b) false A B):=⟨(b=true→A)∧(b=false→B),fun h=>ZV h.1 h.2⟩
instance:U1 (Bx (!b) A B):=⟨(b=false→A)∧(b=true→B),fun h=>fF h.1 h.2⟩
instance [Decidable p]:U1 (O7 (decide p) true A B):=⟨(p→A)∧(¬p→B),fun h=>cD h.1 h.2⟩
instance [Decidable p]:U1 (O7 (decide p) false A B):=⟨(¬p→A)∧(p→B),fun h=>cE h.1 h.2⟩
instance [Decidable p]:U1 (Bx (decide p) A B):=⟨(p→A)∧(¬p→B),fun h=>iU h.1 h.2⟩
instance (priority:=high) [Decidable p]:U1 (O7 (!decide p) true A B):=⟨(¬p→A)∧(p→B),fun h=>ZS h.1 h.2⟩
instance (priority:=high) [Decidable p]:U1 (O7 (!decide p) false A B):=⟨(p→A)∧(¬p→B),fun h=>ZT h.1 h.2⟩
instance (priority:=high) [Decidable p]:U1 (Bx (!decide p) A B):=⟨(¬p→A)∧(p→B),fun h=>fE h.1 h.2⟩
instance {F:List (Nat×AV)→Prop}:U1 (iw F):=⟨∀ex,F ex,ku⟩
variable {α β:Type}
class Pt(G:Prop) where
 side:Prop
 sub:Prop
 imp:side→sub→G
instance (priority:=low) {l:List α}{i:Int}{F:α→Prop}:Pt (P2 l i F):=⟨0≤i∧i<l.length,∀x,l[i.toNat]?=some x→F x,fun h k=>ZL h.1 h.2 k⟩
instance {l:List β}{f:β→α}{i:Int}{F:α→Prop}:Pt (P2 (l.map f) i F):=⟨0≤i∧i<l.length,∀x,l[i.toNat]?=some x→F (f x),fun h k=>o8 h.1 h.2 k⟩
instance (priority:=1010) {l:List β}{f:β→α}{k:Nat}{F:α→Prop}:Pt (P2 (l.map f) (k:Int) F):=⟨0≤k∧k<l.length,∀x,l[k]?=some x→F (f x),fun h kk=>Az h.2 kk⟩
instance (priority:=1020) {l:List UInt8}{i:Int}{F:UInt8→Prop}:Pt (P2 l i F):=⟨0≤i∧i<l.length,∀x,l[i.toNat]?=some x→x.toNat<256→F x,fun h k=>fV h.1 h.2 k⟩
instance (priority:=1020) {l:List UInt8}{f:UInt8→α}{i:Int}{F:α→Prop}:Pt (P2 (l.map f) i F):=⟨0≤i∧i<l.length,∀x,l[i.toNat]?=some x→x.toNat<256→F (f x),fun h k=>Zj h.1 h.2 k⟩
instance (priority:=high) {l:List UInt8}{f:UInt8→α}{k:Nat}{F:α→Prop}:Pt (P2 (l.map f) (k:Int) F):=⟨0≤k∧k<l.length,∀x,l[k]?=some x→x.toNat<256→F (f x),fun h kk=>XQ h.2 kk⟩
instance {e sz:Nat}{l:List UInt8}{F:AV→Prop}[L8 P S e sz][R9 P e .u8][j8 P T]:U1 (BS P S T (.sl 1 (l.map fun b=>[.v (.int .u8 b.toNat)])) F):=⟨F (.str l),ZM (e:=e) (sz:=sz)⟩
instance {e sz:Nat}{l:List UInt8}{F:AV→Prop}[j8 P S][L8 P T e sz][R9 P e .u8]:Pt (BS P S T (.str l) F):=⟨0≤l.length∧l.length≤9223372036854775807,F (.sl 1 (l.map fun b=>[.v (.int .u8 b.toNat)])),fun h k=>Wz (e:=e) (sz:=sz) h.2 k⟩
class jA(G:Prop)(α β:outParam Type)(l:outParam (List β))(f:outParam (β→α))(i:outParam Int)(F:outParam (α→Prop)):Prop where
 eq:G=P2 (l.map f) i F
instance {l:List β}{f:β→α}{i:Int}{F:α→Prop}:jA (P2 (l.map f) i F) α β l f i F:=⟨rfl⟩
class cX(G:Prop)(α:outParam Type)(l:outParam (List α))(i:outParam Int)(F:outParam (α→Prop)):Prop where
 eq:G=P2 l i F
instance {l:List α}{i:Int}{F:α→Prop}:cX (P2 l i F) α l i F:=⟨rfl⟩
theorem Z1{G:Prop}{l:List β}{f:β→α}{i:Int}{x:β}{F:α→Prop}[s:jA G α β l f i F](kk:F (f x))(h:l[i.toNat]?=some x:=by assumption)(h0:0≤i:=by omega):G:=s.eq▸A2 h h0 kk
theorem Z2{G:Prop}{l:List α}{i:Int}{x:α}{F:α→Prop}[s:cX G α l i F](kk:F x)(h:l[i.toNat]?=some x:=by assumption)(h0:0≤i:=by omega):G:=s.eq▸ES h h0 kk
class jB(G:Prop)(p A:outParam Prop):Prop where
 imp:p→A→G
instance:jB (G5 p A) p A:=⟨I4⟩
theorem Z3{G:Prop}[s:jB G p A](k:A)(h:p:=by first|omega|exact Eq.refl _|exact⟨Eq.refl _,by omega⟩|(simp only[List.length_map];omega)|exact kv rfl|exact fX fun _=>rfl|(constructor<;>(simp only[L9,K1,List.length_cons,List.length_nil,List.length_map];omega))):G:=s.imp h k
theorem Z4{G:Prop}[s:Pt G](k:s.sub)(h:s.side:=by (conv=>whnf);omega):G:=s.imp h k
class Vu(G:Prop) where
 side:Prop
 sub:Prop
 imp:side→sub→G
instance {lZ:Nat}{l:List Bool}:Vu (D3 P E n ops lZ l σ K):=⟨Nat.beq l.length ops.size=true∧Region.noSelect ops=true,iq P E n ops lZ l σ K,fun h k=>fN h.2 h.1 k⟩
instance {done:List Bool}{mb:List MB}:Vu (C9 P E n ops done mb σ K):=⟨Nat.beq done.length ops.size=true∧Gk ops=true,ix P E n ops done mb σ K,fun h k=>Pn h.1 h.2 k⟩
instance {done:List Bool}{mb:List MB}{base:List (Nat×AV)}{k:Nat}{ex:List (Nat×AV)}{σ':St}:Vu (NE P E n ops done mb K base k ex σ') :=
 ⟨(σ'.sl,(Ad mb).map (look (σ'.sl.take k)),Ds n (σ'.sl.take k) mb)=(σ'.sl.take k++ex,(Ad mb).map (look base),true)∧true=true,
  Ct (σ'.sl.take k) fun vR=>U6 σ'.hp fun hp2=>H0 σ'.nx fun qj=>KG done fun qy=>RJ mb fun wz=>C9 P E n ops qy wz ⟨vR,qj,hp2⟩ K,
  fun h k=>fR (congrArg (·.1) h.1) (congrArg (·.2.1) h.1) (congrArg (·.2.2) h.1) k⟩
instance {id:Nat}[hm:JC P]:Vu (Cr P E n id ops σ Q):=⟨ops.toList.all Vt=true∧EV ops=true,DQ P E n ops ops.toList σ fun σ'=>Q .normal σ',fun h k=>iz h.1 h.2 k⟩
theorem Z5{G:Prop}[s:Vu G](k:s.sub)(h:s.side:=by exact⟨by rfl,by kernel_rfl⟩):G:=s.imp h k
theorem S1{G H:Prop}(k:H)(h:H→G:=by first|exact bw|exact bz|exact cB|exact cC|exact iS|exact iT|exact ZW|exact lP):G:=h k
theorem B6{f:Nat}{fn:Func}{code:Code}{args:List AV}{r:AV}{rs:Array ResultVar}(hf:P.funcs[f]?=some fn)(n:Nat)
  (h : (∀ a ∈ args,Rd a) → ∀ E,E.n0 = 0 → C7 P E n code ⟨BT args 0,0,[]⟩ (D0 P rs r)) (nK : (fn.name == "runtime.NumGoroutine") = false := by kernel_rfl) (hb : fn.body = some code := by rfl) (hn : fn.ntmps = n := by rfl) (qX : fn.results = rs := by rfl)
  (mB:Nat.ble args.length n=true:=by rfl) (ly:J2 r=true:=by rfl) (nX:∀t T,rs=#[.cell t T]→∃sz,G6 P T true sz∧∀l,r=.agg l→l.length=sz:=by intro t T h;cases h):A3 P f args r :=
 Uk hf nK hb hn qX mB ly nX h
theorem V9{f:Nat}{fn:Func}{code:Code}{args:List AV}{r:AV}{rs:Array ResultVar}{m0 m1:Nat}{hp0 hp1:Hp}(hf:P.funcs[f]?=some fn)(n:Nat)
  (h : ∀ E,E.n0 = m0 → C7 P E n code ⟨BT args 0,m0,hp0⟩ (C8 P E n rs m1 hp1 r)) (nK : (fn.name == "runtime.NumGoroutine") = false := by kernel_rfl) (hb : fn.body = some code := by rfl) (hn : fn.ntmps = n := by rfl) (qX : fn.results = rs := by rfl)
  (mB:Nat.ble args.length n=true:=by rfl):B9 P f m0 hp0 args m1 hp1 r :=
 Um hf nK hb hn qX mB h
theorem nc{d f:Nat}{xs:List Operand}{ts:Array TypeId}{L args l:List AV}{r:AV}{m0 m1:Nat}{hp0 hp1:Hp}{ty:TypeId}{pos:String}{after:Array Edge}{rest:List Oper}(ι off:List Nat)(hc:B9 P f m0 hp0 args m1 hp1 r)
  (ns:l8 (F3 σ) xs=some L) (hL:BA (K2 ι) (K2 off) args=L) (hB:(U4 m0 args && Nat.beq ι.length m0 && Cu ι σ.nx && BB hp0 hp1 m0 && K9 m0 hp0 && K9 m1 hp1 && Nat.ble m0 m1 && Nat.blt d n)=true) (mP:Dr σ.hp hp0 ι off m0)
  (k:U5 (N7 (gρ ι m0 σ.nx) (gs ι m0 σ.hp) r) fun r2=>U6 (U7 (gρ ι m0 σ.nx) (gs ι m0 σ.hp) hp1++σ.hp) fun hp2=>H0 (σ.nx+(m1-m0)) fun qj=>B2 P E n ops rest (St.put ⟨σ.sl,qj,hp2⟩ d r2) K) :
  b7 P E n ops ⟨some d,.call ⟨.value (.func f),⟨xs⟩,ts⟩,ty,pos,after,none⟩ rest l σ K:=by
 simp only[Bool.and_eq_true]at hB
 obtain⟨⟨⟨⟨⟨⟨⟨h1,h2⟩,h3⟩,h4⟩,h5⟩,h6⟩,h7⟩,h8⟩:=hB
 exact⟨G1 ι off hc ns hL h1 h2 h3 mP h4 h5 h6 h7 h8 k⟩
end
theorem S2{G H:Prop}(k:H)(h:PLift H→G:=by intro k;(first|refine DX ?_|refine S1 ?_|refine Z1 ?_|refine Z2 ?_|refine Z3 ?_|refine Z4 ?_|refine Z5 ?_|(refine iv ?_ ?_;exact⟨by kernel_rfl,by decide⟩)|(refine Pn ?_ ?_ ?_;kernel_rfl;kernel_rfl));(try (conv=>whnf));exact k.down):G:=h ⟨k⟩
theorem V1{c A:Prop}(h:c)(f:c→False:=by first|(intro h0;omega)|exact absurd rfl):A:=(f h).elim
theorem T5{G A B:Prop}(a:A)(b:B)(h:A→B→G:=by first|exact iu|exact fQ):G:=h a b
theorem T6{a b:Prop}(x:a)(y:b):a∧b:=⟨x,y⟩
theorem T4{G:Prop}(h:G:=by first|exact ir|exact fP):G:=h
theorem A6{E:Env}{n m:Nat}{σ σ':St}(h0:E.n0=m)(hm:Nat.ble m σ'.nx=true:=by rfl)(hs:HL σ σ'.hp σ'.sl:=by (repeat' (first|exact trivial|exact rfl|refine And.intro ?_ ?_|exact⟨_,rfl⟩));done)(hh:ER σ σ'.hp σ'.hp:=by (repeat' (first|exact trivial|exact rfl|refine And.intro ?_ ?_|exact⟨_,rfl⟩));done)(hn:Nat.ble σ'.nx σ.nx=true:=by rfl)(hl:Rt σ'.nx σ'.sl=true:=by rfl)(hb:K9 σ'.nx σ'.hp=true:=by rfl):St.le E n σ σ':=A9 h0 hm hs hh hn hl hb
end Go.Av
