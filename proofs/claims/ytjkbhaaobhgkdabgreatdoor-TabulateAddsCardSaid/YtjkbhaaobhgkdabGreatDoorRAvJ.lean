/- Ranges over functions: the rounds, the function that is ranged over, and the function that ranges. -/
import Derived.Test.YtjkbhaaobhgkdabGreatDoorRE3
import Derived.RangeFuncSeq
import Derived.RangeFuncLeaves
import Derived.OrdersIn
set_option linter.unusedSimpArgs false
set_option linter.unusedVariables false
set_option linter.unnecessarySimpa false
set_option maxHeartbeats 64000000
namespace Go.Av
open Go Go.RowKit
def CV(o:Oper):Bool:=match o.op with
 |.defer _=>false
 |_=>true
theorem Jj{o:Oper}(h:CV o=true):∀c,o.op≠.defer c:=fun c e=>by simp[CV,e]at h
def wd(ro:Option Nat):Fence:={ Fence.wide with round:=ro }
theorem Hu{ro:Option Nat}{n:Nat}{P:Program}{f:Nat}{args:Array Value}{w:World}{R:Ending→World→Prop}(h:Calls P f args w R):CallsIn (wd ro) n P f args w R :=
 (callsIn_wide.2 h:CallsIn Fence.wide n P f args w R)
theorem Qf{ro:Option Nat}{n:Nat}{P:Program}{row:String}{args:Array Value}{w:World}{R:Value→World→Prop}(h:Rows P row args w R):RowsIn (wd ro) n P row args w R :=
 fun c cs _=>let ⟨v,w',r,s⟩:=h c cs;⟨v,w',r,stepsIn_wide.2 s⟩
theorem eQ{P:Program}{ro:Option Nat}{n:Nat}{o:Oper}(hd:CV o=true){K K':Act→World→Prop}{Q Q':Exit→Act→World→Prop}(hQ:∀e a w,Q e a w→e=.normal)(hK:∀a w,K a w→K' a w){a:Act}{w:World}(h:o.wp P a w K Q):o.wpIn (wd ro) n P a w K' Q':=by
 refine⟨fun _ _=>trivial,?_⟩
 rw[Oper.semAt_eq _ _ _ (Jj hd)]
 unfold Oper.wp at h
 generalize (execOp a.eval o).run P w=xl at h
 cases xl with
 |ok x w' =>
  cases x with
  |value v=>exact hK _ _ h
  |skip=>exact hK _ _ h
  |defer d=>exact hK _ _ h
  |enter f args =>
   refine⟨(fun h2=>by cases h2),Hu (Calls.mono h ?_)⟩
   intro e qq he
   cases e with
   |returned v=>exact hK _ _ he
   |panicked c=>cases hQ _ _ _ he
   |outgrown=>obtain⟨_,_,he⟩:=he;cases hQ _ _ _ he
  |row row args=>exact⟨(fun h2=>by cases h2),Qf (Rows.mono h fun v qq he=>hK _ _ he)⟩
  |_=>exact h.elim
 |halt x w' =>
  cases x with
  |panic v=>cases hQ _ _ _ h
  |_=>exact h.elim
theorem Ep{P:Program}{ro:Option Nat}{n:Nat}{ops:Array Oper}(hd:ops.toList.all CV=true){Q Q':Exit→Act→World→Prop}(hQ:∀e a w,Q e a w→e=.normal)(hq:∀a w,Q .normal a w→Q' .normal a w):∀(nS:Nat) (listed:Array Bool) (a:Act) (w:World),
  wpAny P .any ops Q nS listed a w→wpAnyIn (wd ro) n P .any ops Q' nS listed a w
 |0,l,a,w,h=>⟨h.1,hq _ _ h.2⟩
 |nS+1,l,a,w,h=>by
  refine⟨fun hr=>hq _ _ (h.1 hr),fun i hi=>?_⟩
  have h1:=h.2 i hi
  unfold wpOp at h1
  unfold wpOpIn
  cases ho:ops[i]? with
  |none=>rw[ho]at h1;exact Ep hd hQ hq nS _ _ _ h1
  |some o =>
   rw[ho]at h1
   simp only at h1 ⊢
   have hdo:CV o=true:=List.all_eq_true.1 hd o (by
    have:=List.mem_of_getElem? (l:=ops.toList) (i:=i) (by rw[Array.getElem?_toList];exact ho)
    exact this)
   split at h1
   ·rename_i hw
    rw[if_pos hw]
    have h1:=h1.resolve_right fun ⟨_,_,_,h⟩=>by cases hQ _ _ _ h
    exact eQ hdo hQ (fun a w h=>Ep hd hQ hq nS _ _ _ h) h1
   ·rename_i hw
    rw[if_neg hw]
    exact⟨fun _ _=>trivial,Ep hd hQ hq nS _ _ _ h1⟩
theorem LS{P:Program}{F:Fence}{n:Nat}{o:Oper}{K K':Act→World→Prop}{Q Q':Exit→Act→World→Prop}(hQ:∀e a w,Q e a w→e=.normal)(hK:∀a w,K a w→K' a w){a:Act}{w:World}(h:o.wpIn F n P a w K Q):o.wpIn F n P a w K' Q':=by
 unfold Oper.wpIn at *
 refine⟨h.1,?_⟩
 have hh:=h.2
 generalize (o.semAt F.round a.eval).run P w=r at *
 have hp:∀c a w,Q (.panic c) a w→Q' (.panic c) a w:=fun c a w h=>by cases hQ _ _ _ h
 have ho:LetsOut Q→LetsOut Q':=fun ⟨_,_,h⟩=>by cases hQ _ _ _ h
 cases r with
 |ok x w' =>
  cases x<;>simp only[Oper.uponIn]at hh ⊢ <;>
   first
    |exact hK _ _ hh
    |exact⟨hh.1,CallsIn.mono hh.2 (fun e qq he=>by cases e<;>first|exact hK _ _ he|exact hp _ _ _ he|exact ho he)⟩
    |exact⟨hh.1,RowsIn.mono hh.2 (fun _ _ he=>hK _ _ he)⟩
    |exact⟨hh.1,RoundIn.mono hh.2 (fun e qq he=>by cases e<;>first|exact hK _ _ he|exact hp _ _ _ he|exact ho he)⟩
 |halt x w'=>cases x<;>simp only[Oper.uponIn]at hh ⊢;exact hp _ _ _ hh
theorem y6{P:Program}{F:Fence}{n:Nat}{ops:Array Oper}{Q Q':Exit→Act→World→Prop}(hQ:∀e a w,Q e a w→e=.normal)(hq:∀a w,Q .normal a w→Q' .normal a w):∀(nS:Nat) (listed:Array Bool) (a:Act) (w:World),
  wpAnyIn F n P .any ops Q nS listed a w→wpAnyIn F n P .any ops Q' nS listed a w
 |0,l,a,w,h=>⟨h.1,hq _ _ h.2⟩
 |nS+1,l,a,w,h=>by
  refine⟨fun hr=>hq _ _ (h.1 hr),fun i hi=>?_⟩
  have h1:=h.2 i hi
  unfold wpOpIn at h1 ⊢
  cases ho:ops[i]? with
  |none=>rw[ho]at h1;exact y6 hQ hq nS _ _ _ h1
  |some o =>
   rw[ho]at h1
   simp only at h1 ⊢
   split at h1
   ·rename_i hw
    rw[if_pos hw]
    exact LS hQ (fun a w h=>y6 hQ hq nS _ _ _ h) h1
   ·rename_i hw
    rw[if_neg hw]
    exact⟨h1.1,y6 hQ hq nS _ _ _ h1.2⟩
theorem b7{P:Program}{ro:Option Nat}{ops:Array Oper}{n:Nat}{Q:Exit→Act→World→Prop}{l2:List Oper}:∀(l1:List Oper) (a:Act) (w:World),l1.all CV=true →
  wpList P ops (fun e a' w'=>e=.normal∧wpListIn (wd ro) n P ops Q l2 a' w') l1 a w→wpListIn (wd ro) n P ops Q (l1++l2) a w
 |[],a,w,_,h=>h.2
 |o::r,a,w,hl,h=>by
  simp only[List.all_cons,Bool.and_eq_true]at hl
  have uo:¬LetsOut (fun e (a':Act) (w':World)=>e=.normal∧wpListIn (wd ro) n P ops Q l2 a' w'):=fun ⟨_,_,h⟩=>by cases h.1
  simp only[List.cons_append,wpList,wpListIn]at h ⊢
  split at h
  ·rename_i hw
   rw[if_pos hw]
   have h:=h.resolve_right fun h=>uo h.2
   refine⟨fun _ _=>trivial,?_⟩
   rw[Oper.semAt_eq _ _ _ (Jj hl.1)]
   unfold Oper.wp at h
   generalize (execOp a.eval o).run P w=xl at h
   cases xl with
   |ok x w' =>
    cases x with
    |value v=>exact b7 r _ _ hl.2 h
    |skip=>exact b7 r _ _ hl.2 h
    |defer d=>exact b7 r _ _ hl.2 h
    |enter f args =>
     refine⟨(fun h2=>by cases h2),Hu (Calls.mono h ?_)⟩
     intro e qq he
     cases e with
     |returned v=>exact b7 r _ _ hl.2 he
     |panicked c=>cases he.1
     |outgrown=>exact absurd he uo
    |row row args =>
     exact⟨(fun h2=>by cases h2),Qf (Rows.mono h fun v qq he=>b7 r _ _ hl.2 he)⟩
    |_=>exact h.elim
   |halt x w' =>
    cases x with
    |panic v=>cases h.1
    |_=>exact h.elim
  ·rename_i hw
   rw[if_neg hw]
   exact⟨fun _ _=>trivial,b7 r _ _ hl.2 h⟩
theorem b8{P:Program}{ops:Array Oper}{Q Q':Exit→Act→World→Prop}(hq:∀e a w,Q e a w→Q' e a w):∀(l:List Oper) (a:Act) (w:World),wpList P ops Q l a w→wpList P ops Q' l a w
 |[],a,w,h=>hq _ _ _ h
 |o::r,a,w,h=>by
  have out:LetsOut Q→LetsOut Q':=fun ⟨a,w,h⟩=>⟨a,w,hq _ _ _ h⟩
  simp only[wpList]at h ⊢
  split at h
  ·rename_i hw
   rw[if_pos hw]
   refine h.imp (fun h=>?_) fun h=>⟨h.1,out h.2⟩
   unfold Oper.wp at h ⊢
   generalize (execOp a.eval o).run P w=xl at h
   cases xl with
   |ok x w' =>
    cases x with
    |value v=>exact b8 hq r _ _ h
    |skip=>exact b8 hq r _ _ h
    |defer d=>exact b8 hq r _ _ h
    |enter f args =>
     refine Calls.mono h ?_
     intro e qq he
     cases e with
     |returned v=>exact b8 hq r _ _ he
     |panicked c=>exact hq _ _ _ he
     |outgrown=>exact out he
    |row row args=>exact Rows.mono h fun v qq he=>b8 hq r _ _ he
    |_=>exact h.elim
   |halt x w' =>
    cases x with
    |panic v=>exact hq _ _ _ h
    |_=>exact h.elim
  ·rename_i hw
   rw[if_neg hw]
   exact b8 hq r _ _ h
structure Gy(l:Nat)(rc:Loop)(slc:List (Nat×AV))(X U:Nat→Prop)(w:World):Prop where
 yes:X l
 lp:w.heap[l]?=some (Obj.loop rc)
 im:∀s x,look slc s=some x→Im U w x (rc.tmps.getD s undef)
theorem J0.loopU{l:Nat}{rc:Loop}{slc:List (Nat×AV)}{E:Env}{n:Nat}{θ:Th}{σ:St}{a:Act}{w:World}(h:J0 E n θ σ a w)(hl:Gy l rc slc E.X (fun k=>E.X k∨E.O k) E.w0)(ho:¬E.O l):Gy l rc slc E.X (cx E θ σ w).U w:=by
 refine⟨hl.yes,(h.fr.block l (h.X l hl.yes) ho).trans hl.lp,fun s x hx=>(hl.im s x hx).mono (fun k hk hu=>h.fr.block k hk fun ho=>hu (.inr ho)) fun k hk hu=>?_⟩
 rcases hu with hx|⟨i,b,hi,hb⟩
 ·exact .inl hx
 ·rcases(h.mine i b k hi hb).2 with ho|ho
  ·exact .inr ho
  ·omega
def Kf(P:Program)(l:Nat)(rc:Loop)(slc:List (Nat×AV))(m0:Nat)(hp0:Hp)(args:List AV)(m1:Nat)(hp1:Hp):Prop :=
 ∀(X:Nat→Prop) (θ:Th) (w:World) (vs:List Value),(∀k,X k→k<w.heap.size)→Q4 (fun k=>X k∨owned θ hp0 k) w→Ie X θ m0 hp0 w→Gy l rc slc X (fun k=>X k∨owned θ hp0 k) w →
  args.length=vs.length→(∀(j:Nat) a v,args[j]?=some a→vs[j]?=some v→D7 ⟨θ,m0,hp0,X,w⟩ a v) →
  YieldAt Fence.wide 0 P l vs.toArray w fun e w'=>Eg X θ w m0 hp0 m1 hp1 (.v (.bool true)) e w'
theorem YieldAt.mono{F:Fence}{m:Nat}{P:Program}{l:Nat}{args:Array Value}{W:World}{R R':Ending→World→Prop}(h:YieldAt F m P l args W R)(hr:∀e w,R e w→R' e w):YieldAt F m P l args W R' :=
 let ⟨fn,t,a,b,h1,h2⟩:=h;⟨fn,t,a,b,h1,h2.mono hr⟩
theorem Tr{X:Nat→Prop}{θ:Th}{m0:Nat}{hp0:Hp}{w w':World}(h:Ie X θ m0 hp0 w)(hs:w.heap.size=w'.heap.size)(hh:∀k,¬X k→w'.heap[k]?=w.heap[k]?):Ie X θ m0 hp0 w'∧(⟨θ,m0,hp0,X,w⟩:Cx).le ⟨θ,m0,hp0,X,w'⟩:=by
 have le:(⟨θ,m0,hp0,X,w⟩:Cx).le ⟨θ,m0,hp0,X,w'⟩:=⟨Nat.le_refl _,fun _ _=>.inl rfl,fun i _ e' nU v' l' hl=>⟨e',v',l',hl,.inr ⟨rfl,rfl,rfl⟩⟩,Nat.le_of_eq hs,fun k _ hu=>hh k fun hx=>hu (.inl hx),fun _ _ hu=>hu⟩
 exact⟨⟨fun i b hi=>⟨(h.owns i b hi).1,(h.owns i b hi).2.mono le rfl (fun _=>rfl) fun k hk=>hh k (h.fresh i b k hi hk)⟩,h.apart,h.fresh⟩,le⟩
theorem Ts{α:Type}:∀{l:List (Nat×α)} {s:Nat} {x:α},look l s=some x→∃p∈l,p.1=s
 |[],_,_,h=>by cases h
 |(k,y)::r,s,x,h=>by
  rw[E4]at h
  by_cases e:k=s
  ·exact⟨_,List.mem_cons_self ..,e⟩
  ·rw[if_neg e]at h
   obtain⟨p,hp,e2⟩:=Ts h
   exact⟨p,List.mem_cons_of_mem _ hp,e2⟩
theorem LU{P:Program}[hm:JH P]{l nn t s0 ida bid id m0 m1:Nat}{ty:TypeId}{pos:String}{after:Array Edge}{rc:Loop}{slc:List (Nat×AV)}{arg:AV}{hp0 hp1:Hp}{ops:Array Oper}(pD:rc.state=.ready)(qE:rc.pending=none)(sG:rc.params=#[t])(hsz:rc.tmps.size=nn)(ht:(Nat.blt t nn && Nat.blt s0 nn)=true)(xt:slc.all (fun p=>!Nat.beq p.1 t)=true)
  (ze:rc.assign=.region ida #[⟨some s0,.assign (.tmp t),ty,pos,after,none⟩] false) (xj:rc.body=.block bid (.region id ops true)) (un:ops.toList.all CV=true)
  (h:∀E,E.n0=m0→D2 P E nn ops ops.size (O3 ops) ⟨(s0,arg)::slc,m0,hp0⟩ fun σ'=>St.le E nn σ' ⟨[],m1,hp1⟩):Kf P l rc slc m0 hp0 [arg] m1 hp1:=by
 intro X θ w vs hX oM rM pL hl pz
 rw[Bool.and_eq_true,Nat.blt_eq,Nat.blt_eq]at ht
 obtain⟨ht2,nj⟩:=ht
 match vs,hl with
 |[v],_ =>
 have hv:=pz 0 arg v rfl rfl
 have nR:l<w.heap.size:=hX l pL.yes
 have nf:¬owned θ hp0 l:=fun ⟨i,b,hi,hk⟩=>rM.fresh i b l hi hk pL.yes
 let rc1:Loop:={ rc with state:=.busy }
 let w1:World:=w.putObj l (.loop rc1)
 have nY:w1.heap.size=w.heap.size:=World.putObj_size
 have xu:∀k,k≠l→w1.heap[k]?=w.heap[k]?:=fun k hk=>World.putObj_heap_other hk
 have om:w1.heap[l]?=some (.loop rc1):=World.putObj_heap_same nR
 obtain⟨vN,le1⟩:=Tr (w':=w1) rM nY.symm fun k hk=>xu k fun e=>hk (e▸pL.yes)
 have wy:Q4 (fun k=>X k∨owned θ hp0 k) w1:=oM.mono (fun _ _ h=>h) fun k _ hk=>xu k fun e=>hk (.inl (e▸pL.yes))
 let E:Env:=⟨w1,X,owned θ hp0,θ.v,m0,wy,false⟩
 let a1:Act:={ tmps:=(rc.tmps.setIfInBounds t v).setIfInBounds s0 v,defers:=[] }
 let w2:World:={ w1 with drawn:=w1.drawn+1 }
 have qo:e7 E nn ⟨(s0,arg)::slc,m0,hp0⟩ a1 w1:=by
  refine⟨θ,by simp[a1,hsz],.nil,⟨rfl,rfl,rfl,Nat.le_refl _,fun _ _ _=>rfl⟩,fun s x hs=>?_,vN.owns,vN.apart,fun i b k hi hk=>⟨vN.fresh i b k hi hk,.inl ⟨i,b,hi,hk⟩⟩,fun k hk=>by rw[show E.w0=w1 from rfl,nY];exact hX k hk,⟨Nat.le_refl _,fun i hi=>.inl rfl⟩⟩
  simp only[E4]at hs
  by_cases e:s0=s
  ·subst e
   rw[if_pos rfl]at hs
   cases hs
   have:a1.tmps.getD s0 undef=v:=by simp[a1,Array.getD,hsz,nj]
   rw[this]
   exact hv.mono le1
  ·rw[if_neg e]at hs
   have et:¬t=s:=fun et=>by
    subst et
    obtain⟨p,hp,e2⟩:=Ts hs
    have:=List.all_eq_true.1 xt p hp
    rw[e2]at this
    simp at this
   have:a1.tmps.getD s undef=rc.tmps.getD s undef:=by
    simp[a1,Array.getD_eq_getD_getElem?,Array.getElem?_setIfInBounds_ne e,Array.getElem?_setIfInBounds_ne et]
   rw[this]
   exact .im ((pL.im s x hs).mono (fun k _ hk=>xu k fun e=>hk (.inl (e▸pL.yes))) fun k _ hk=>hk)
 have nv:=run_yield (P:=P) (w:=w) (l:=l) (r:=rc) (args:=[v].toArray) pL.lp (by rw[sG];rfl)
 have htm:(rc.params.zip [v].toArray).foldl (fun tmps (t,a)=>tmps.setIfInBounds t a) rc.tmps=rc.tmps.setIfInBounds t v:=by rw[sG];simp[←Array.foldl_toList,Array.toList_zip]
 rw[htm]at nv
 refine⟨_,_,_,_,nv,roundIn_of_wpIn trivial ?_⟩
 rw[ze]
 refine wpIn_region_list (F:=wd (some l)) (n:=0) ?_
 show wpListIn _ _ _ _ _ [_] _ _
 unfold wpListIn
 rw[if_pos (by simp[Region.wanted])]
 refine⟨fun _ _=>trivial,?_⟩
 rw[Oper.semAt_eq _ _ _ (by intro c e;cases e)]
 have pf:({ tmps:=rc.tmps.setIfInBounds t v,defers:=[] }:Act).eval (.tmp t)=v:=by
  simp[Act.eval,Array.getD,hsz,ht2]
 have hex:(execOp ({ tmps:=rc.tmps.setIfInBounds t v,defers:=[] }:Act).eval ⟨some s0,.assign (.tmp t),ty,pos,after,none⟩).run P w=.ok (.value v) w:=by
  simp only[execOp,pf]
  rfl
 rw[hex,Oper.uponIn_value]
 unfold wpListIn
 refine⟨w1,run_beginRound pL.lp pD,?_⟩
 rw[xj]
 refine wpIn_block (F:=wd (some l)) (n:=0) ?_
 refine wpIn_region_any (F:=wd (some l)) (n:=0) hm.out ?_
 have nt:Below w1.heap.size w1 w2:=Below.drew (Below.refl _ _)
 have wr:=h E rfl a1 w2 (let ⟨θ,hs⟩:=qo;⟨θ,hs.below nt⟩)
 have e0:(O3 ops).toArray=Array.replicate ops.size false:=by
  apply Array.ext'
  simp[O3,List.map_const']
 rw[e0]at wr
 refine Ep un (fun e a w h=>h.1) ?_ _ _ _ _ wr
 rintro a' w3 ⟨_,σ',ob,oP⟩
 obtain⟨θ',sk⟩:=ob a' w3 oP
 have pV:w3.heap[l]?=some (.loop rc1):=(sk.fr.block l (by rw[show E.w0=w1 from rfl,nY];exact nR) nf).trans om
 refine⟨_,_,run_endRound none pV,?_⟩
 have yD:({ rc1 with state:=if (none:Option Code).isNone then .ready else .done,pending:=none }:Loop)=rc:=by
  show ({ rc with state:=.ready,pending:=none }:Loop)=rc
  rw[←pD,←qE]
 rw[yD]
 have zE:l<w3.heap.size:=(Array.getElem?_eq_some_iff.1 pV).1
 have vz:∀k,k≠l→(w3.putObj l (.loop rc)).heap[k]?=w3.heap[k]?:=fun k hk=>World.putObj_heap_other hk
 have zh:Ie X θ' m1 hp1 w3:=⟨sk.owns,sk.apart,fun i b k hi hk=>(sk.mine i b k hi hk).1⟩
 obtain⟨zX,le4⟩:=Tr (w':=w3.putObj l (.loop rc)) zh World.putObj_size.symm fun k hk=>vz k fun e=>hk (e▸pL.yes)
 refine⟨⟨_,θ',rfl,.im (.v _),zX,fun i b k hi hk=>?_,sk.base.2⟩,sk.fr.os,sk.fr.tape,sk.fr.output,?_,fun k hk ho=>?_⟩
 ·rcases(sk.mine i b k hi hk).2 with h1|h1
  ·exact .inl h1
  ·exact .inr (by rw[show E.w0=w1 from rfl,nY]at h1;exact h1)
 ·rw[World.putObj_size]
  have:=sk.fr.size
  rw[show E.w0=w1 from rfl,nY]at this
  exact this
 ·by_cases e:k=l
  ·subst e
   rw[World.putObj_heap_same zE,pL.lp]
  ·rw[vz k e,sk.fr.block k (by rw[show E.w0=w1 from rfl,nY];exact hk) ho]
   exact xu k e
section rules
variable {P:Program} {E:Env} {n:Nat} {ops:Array Oper} {rest:List Oper} {σ:St} {K:St→Prop} {Q:Exit→St→Prop}
variable {d:Nat} {ty:TypeId} {pos:String} {after:Array Edge} {x y:Operand}
def ER(P:Program)(E:Env)(n:Nat)(ops:Array Oper)(l:List Oper)(σ:St)(K:St→Prop):Prop :=
 ∀a w,e7 E n σ a w→wpListIn (wd none) 0 P ops (fun e a' w'=>e=.normal∧∃σ',K σ'∧e7 E n σ' a' w') l a w
theorem bR{l:Nat}{a:Act}{w w':World}{xs:List Operand}{ts:Array TypeId}{o:Option Tmp}{pos:String}{after:Array Edge}{gd:Option (Nat×Bool)}{g:Operand}{nx:Next}(hg:a.eval g=.func (.yield l) #[] #[])(hy:(Instr.yield l (xs.map a.eval).toArray).run P w=.ok nx w'):
  (execOp a.eval ⟨o,.call ⟨.value g,xs.toArray,ts⟩,ty,pos,after,gd⟩).run P w=.ok nx w':=by
 simp[execOp,resolve,Deferred.ofValue,hg,invoke,Sem.run_bind,Sem.run_pure,hy]
theorem Yj{l:Nat}{rc:Loop}{slc:List (Nat×AV)}{g:Operand}{xs:List Operand}{ts:Array TypeId}{L args:List AV}{m0 m1:Nat}{hp0 hp1:Hp}(ι off:List Nat)(hE:Gy l rc slc E.X (fun k=>E.X k∨E.O k) E.w0)(hO:¬E.O l)(hc:Kf P l rc slc m0 hp0 args m1 hp1)
  (hg:E9 σ g=some (.v (.func (.yield l) #[] #[]))) (pf:e8 (E9 σ) xs=some L) (hL:Ak (K0 ι) (K0 off) args=L) (hB:(S0 m0 args && Nat.beq ι.length m0 && Cj ι σ.nx && Al hp0 hp1 m0 && H8 m0 hp0 && H8 m1 hp1 && Nat.ble m0 m1 && Nat.blt d n)=true) (oG:Do σ.hp hp0 ι off m0)
  (k:S4 (S5 (gρ ι m0 σ.nx) (gs ι m0 σ.hp) hp1++σ.hp) fun hp2=>G5 (σ.nx+(m1-m0)) fun sV=>ER P E n ops rest (St.put ⟨σ.sl,sV,hp2⟩ d (.v (.bool true))) K) :
  ER P E n ops (⟨some d,.call ⟨.value g,⟨xs⟩,ts⟩,ty,pos,after,none⟩::rest) σ K:=by
 simp only[Bool.and_eq_true]at hB
 obtain⟨⟨⟨⟨⟨⟨⟨h1,h2⟩,h3⟩,h4⟩,h5⟩,h6⟩,h7⟩,hd⟩:=hB
 have k:=D8 (Q9 k)
 intro a w ⟨θ,hs⟩
 obtain⟨hl,pS⟩:=Af hs.evT xs L pf
 have yJ:a.eval g=.func (.yield l) #[] #[]:=(hs.ev hg).val
 have hU:=hs.loopU hE hO
 unfold wpListIn
 rw[if_pos (by simp[Region.wanted])]
 refine⟨fun _ _=>trivial,?_⟩
 rw[Oper.semAt_eq _ _ _ (by intro c e;cases e)]
 have tJ:=HX (Cl:=fun vs w R=>YieldAt Fence.wide 0 P l vs.toArray w R) (fun h hr=>YieldAt.mono h hr) (args:=args) (r:=.v (.bool true)) (hp1:=hp1) ι off hs (vs:=xs.map a.eval) (by rw[List.length_map,←hl]) pS hL h1 h2 h3 oG h4 h5 h6 h7 fun X θc hX ht hb hu xk zP hl hv =>
  hc X θc w _ hX ht hb ⟨xk l hU.yes,hU.lp,fun s x hx=>(hU.im s x hx).mono (fun _ _ _=>rfl) fun k _ hk=>hk.elim (zP k) fun hk=>.inr (hu k hk)⟩ hl hv
 obtain⟨fn,tmps,asg,body,hy,hR⟩:=tJ
 rw[bR yJ hy]
 refine⟨(fun h2=>by cases h2),RoundIn.mono hR ?_⟩
 rintro e w' ⟨v,Θ,rfl,qo,oz,_⟩
 have hv:v=.bool true:=oz.val
 subst hv
 exact k _ _ ⟨Θ,qo.put (Nat.blt_eq▸hd) (.im (.v _))⟩
theorem eR{o:Oper}(hn:CV o=true)(h:B0 P E n ops [o] σ K):ER P E n ops [o] σ K:=by
 intro a w hs
 refine b7 (l2:=[]) [o] a w (by simp[hn]) ?_
 refine b8 ?_ [o] a w (h a w hs)
 rintro e a' w' ⟨rfl,σ',hk,oP⟩
 exact⟨rfl,rfl,σ',hk,oP⟩
theorem eS(h:K σ):ER P E n ops [] σ K:=fun _ _ hs=>⟨rfl,σ,h,hs⟩
theorem Yk{op:Op}{j dj dd:Nat}{g:Bool}(hj:(ops[j]?).bind (·.dst)=some dj)(hb:look σ.sl dj=some (.v (.bool g)))(k:ER P E n ops (⟨some dd,op,ty,pos,after,none⟩::rest) σ K):ER P E n ops (⟨some dd,op,ty,pos,after,some (j,g)⟩::rest) σ K:=by
 intro a w hs
 have rD:=hs
 obtain⟨θ,hs⟩:=hs
 have hv:a.tmps.getD dj undef=.bool g:=(hs.slots dj _ hb).val
 have nR:dj<a.tmps.size:=by
  rcases Nat.lt_or_ge dj a.tmps.size with h|h
  ·exact h
  ·rw[Array.getD_eq_getD_getElem?,Array.getElem?_eq_none h]at hv;cases hv
 have hy:yielded ops a.tmps j=some g:=by
  rw[Array.getD_eq_getD_getElem?,Array.getElem?_eq_getElem nR]at hv
  simp at hv
  simp[yielded,hj,nR,hv]
 have hh:=k a w rD
 unfold wpListIn at hh ⊢
 rw[if_pos (by simp[Region.wanted])]at hh
 rw[if_pos (by simp[Region.wanted,hy])]
 exact hh
def Gc(P:Program)(E:Env)(n:Nat)(ops:Array Oper)(nS:Nat)(l:List Bool)(σ:St)(K:St→Prop):Prop :=
 ∀a w,e7 E n σ a w→wpAnyIn (wd none) 0 P .any ops (fun e a' w'=>e=.normal∧∃σ',K σ'∧e7 E n σ' a' w') nS l.toArray a w
def eT(P:Program)(E:Env)(n:Nat)(ops:Array Oper)(nS:Nat)(l:List Bool)(σ:St)(K:St→Prop):List Nat→Prop
 |[]=>True
 |i::r=>(match ops[i]? with
  |some o=>ER P E n ops [o] σ fun σ'=>Gc P E n ops nS (l.set i true) σ' K
  |none=>False)∧eT P E n ops nS l σ K r
theorem Tt{nS:Nat}{l:List Bool}:∀{r:List Nat},eT P E n ops nS l σ K r→∀i∈r,∃o,ops[i]?=some o∧ER P E n ops [o] σ fun σ'=>Gc P E n ops nS (l.set i true) σ' K
 |[],_,i,hi=>by cases hi
 |j::r,h,i,hi=>by
  rcases List.mem_cons.1 hi with rfl|hi
  ·have:=h.1
   split at this
   ·rename_i o ho;exact⟨o,ho,this⟩
   ·exact this.elim
  ·exact Tt h.2 i hi
structure RZ(P:Program)(E:Env)(n:Nat)(ops:Array Oper)(nS:Nat)(l:List Bool)(σ:St)(K:St→Prop)(r:List Nat):Prop where
 h:eT P E n ops nS l σ K r
theorem lC{nS:Nat}{l:List Bool}:RZ P E n ops nS l σ K []:=⟨trivial⟩
theorem lD{nS:Nat}{l:List Bool}{i:Nat}{r:List Nat}(h1:match ops[i]? with
  |some o=>ER P E n ops [o] σ fun σ'=>Gc P E n ops nS (l.set i true) σ' K
  |none=>False) (h2:RZ P E n ops nS l σ K r):RZ P E n ops nS l σ K (i::r):=⟨h1,h2.h⟩
def Wq:Op→Bool
 |.call _=>false
 |_=>true
def Hv(ev:Operand→Option AV)(ops:Array Oper)(l:List Bool):List Nat→Option Nat
 |[]=>none
 |i::r=>match ops[i]? with
  |some ⟨some _,op,_,_,_,none⟩=>cond (aK ev op && Wq op) (some i) (Hv ev ops l r)
  |_=>Hv ev ops l r
def lE(P:Program)(E:Env)(n:Nat)(ops:Array Oper)(nS:Nat)(l:List Bool)(σ:St)(K:St→Prop):Prop :=
 match Z8 l 0 (k5 ops) l with
 |[]=>K σ
 |i::r=>match nS with
  |0=>False
  |nS+1=>match Hv (E9 σ) ops l (i::r)with
   |some i=>match ops[i]? with
    |some ⟨some d,op,_,_,_,none⟩=>Xs ((Region.free .any ops l.toArray i && Wq op)=true∧i∈Z8 l 0 (k5 ops) l) (cond (Nat.blt d n) (PV P op (E9 σ) σ.hp fun av=>Gc P E n ops nS (l.set i true) (σ.put d av) K) False)
    |_=>False
   |none=>RZ P E n ops nS l σ K (i::r)
theorem ib{nS:Nat}{l:List Bool}(yo:Region.noSelect ops=true)(hl:Nat.beq l.length ops.size=true)(h:lE P E n ops nS l σ K):Gc P E n ops nS l σ K:=by
 have hl:=Nat.eq_of_beq_eq_true hl
 unfold lE at h
 split at h
 ·rename_i hr
  intro a w hs
  have pj:Region.ready .any ops l.toArray=[]:=by
   cases hx:Region.ready .any ops l.toArray with
   |nil=>rfl
   |cons i r=>have:=(V2 hl i).1 (by rw[hx];simp);rw[hr]at this;cases this
  exact wpAnyIn_done pj ⟨rfl,σ,h,hs⟩ _
 ·rename_i i r hr
  split at h
  ·exact h.elim
  ·rename_i nS
   split at h
   ·rename_i i' tr
    split at h
    ·rename_i d op ty pos after pd
     obtain⟨⟨hf,yt⟩,h⟩:=h
     rw[Bool.and_eq_true]at hf
     obtain⟨hd,h⟩:=cond_false h
     obtain⟨av,hp,h⟩:=kH (E:=E) (nx:=σ.nx) (ty:=ty) h
     rintro a w ⟨θ,hs⟩
     obtain⟨v,tR,rJ⟩:=hp (some d) pos after θ a w hs.evT
     refine wpAnyIn_take rfl pd yo hf.1 (by simpa using (V2 hl i').2 yt) (fun c a w hc=>by cases hc.1) (v:=v) ⟨.inl ⟨by simp[Region.wanted],tR⟩,fun w=>?_⟩ ?_
     ·unfold Oper.about
      cases op<;>first|rfl|(have:=hf.2;cases this)
     rw[U8]
     exact h _ _ ⟨θ,hs.put (Nat.blt_eq▸hd) rJ⟩
    ·exact h.elim
   ·intro a w hs
    refine⟨fun pj=>?_,fun j hj=>?_⟩
    ·have:=(V2 hl i).2 (by rw[hr];simp)
     rw[pj]at this
     cases this
    ·have np:=(V2 hl j).1 hj
     rw[hr]at np
     obtain⟨o,ho,hA⟩:=Tt h.h j np
     have hw:=hA a w hs
     unfold wpOpIn
     simp only[ho]
     unfold wpListIn at hw
     split
     ·rename_i pC
      rw[if_pos pC]at hw
      refine LS (fun e a w h=>h.1) (fun a' w' hn=>?_) hw
      obtain⟨_,σ',hk,oP⟩:=hn
      rw[U8]
      exact hk a' w' oP
     ·rename_i pC
      rw[if_neg pC]at hw
      obtain⟨_,_,σ',hk,oP⟩:=hw
      refine⟨fun _ _=>trivial,?_⟩
      rw[U8]
      exact hk _ _ oP
theorem lG{id:Nat}[hm:JH P](S:St)(h:Gc P E n ops ops.size (O3 ops) σ fun σ'=>St.le E n σ' S)(k:Q .normal S):Ch P E n id ops σ Q:=by
 refine⟨fun a w ⟨θ,hs⟩=>(wpIn_wide (n:=0)).1 (wpIn_region_any (F:=wd none) (n:=0) hm.out ?_)⟩
 have hb:Below w.heap.size w { w with drawn:=w.drawn+1 }:=Below.drew (Below.refl _ _)
 have h1:=h a { w with drawn:=w.drawn+1 } ⟨θ,hs.below hb⟩
 have e:(O3 ops).toArray=Array.replicate ops.size false:=by
  apply Array.ext'
  simp[O3,List.map_const']
 rw[e]at h1
 refine y6 (fun e a w h=>h.1) ?_ _ _ _ _ h1
 rintro a w ⟨_,σ',ob,oP⟩
 exact⟨S,k,ob a w oP⟩
instance {nS:Nat}{l:List Bool}:WO (Gc P E n ops nS l σ K):=⟨Nat.beq l.length ops.size=true∧Region.noSelect ops=true,lE P E n ops nS l σ K,fun h k=>ib h.2 h.1 k⟩
theorem gG{G:Prop}{α:Type}{l:List α}{k:Nat}{X:α}{F:α→Prop}[s:dX G α (l.set k X) (k:Int) F](kk:F X)(h:k<l.length:=by (simp only[List.length_set];assumption)):G :=
 s.eq▸Cf (x:=X) (by rw[Int.toNat_natCast];exact List.getElem?_set_self h) (by omega) kk
def Gz(P:Program)(f:Nat)(l:Nat)(rc:Loop)(slc:List (Nat×AV))(m0:Nat)(hp0:Hp)(args:List AV)(m1:Nat)(hp1:Hp)(r:AV):Prop:=OT P f ∧
 ∀(X:Nat→Prop) (θ:Th) (w:World) (vs:List Value),(∀k,X k→k<w.heap.size)→Q4 (fun k=>X k∨owned θ hp0 k) w→Ie X θ m0 hp0 w→Gy l rc slc X (fun k=>X k∨owned θ hp0 k) w→args.length=vs.length→(∀(j:Nat) a v,args[j]?=some a→vs[j]?=some v→D7 ⟨θ,m0,hp0,X,w⟩ a v) →
  Calls P f vs.toArray w fun e w'=>Eg X θ w m0 hp0 m1 hp1 r e w'
theorem mw{f:Nat}{fn:Func}{code:Code}{args:List AV}{r:AV}{rs:Array ResultVar}{l:Nat}{rc:Loop}{slc:List (Nat×AV)}{m0 m1:Nat}{hp0 hp1:Hp}(hf:P.funcs[f]?=some fn)(n:Nat)
  (h : ∀ E,E.n0 = m0 → Gy l rc slc E.X (fun k => E.X k ∨ E.O k) E.w0 → ¬ E.O l → D0 P E n code ⟨BC args 0,m0,hp0⟩ (C8 P E n rs m1 hp1 r)) (pA : (fn.name == "runtime.NumGoroutine") = false := by kernel_rfl) (hb : fn.body = some code := by rfl) (hn : fn.ntmps = n := by rfl) (sH : fn.results = rs := by rfl)
  (ns:Nat.ble args.length n=true:=by rfl):Gz P f l rc slc m0 hp0 args m1 hp1 r :=
 ⟨⟨fn,hf,pA,by rw[hb];rfl⟩,fun X θ w vs hX oM rM vc hl pz=>SX hf hb hn sH ns hX oM rM hl pz (h _ rfl vc fun ⟨i,b,hi,hk⟩=>rM.fresh i b l hi hk vc.yes)⟩
end rules
theorem Wr{E E':Env}{Θ:Th}{σ:St}{w:World}(hX:∀k,E.X k→E'.X k):(cx E' Θ σ w).le (cx E Θ σ w) :=
 ⟨Nat.le_refl _,fun _ _=>.inl rfl,fun i _ e' nU v' l' hl=>⟨e',v',l',hl,.inr ⟨rfl,rfl,rfl⟩⟩,Nat.le_refl _,fun _ _ _=>rfl,fun k _ hu=>hu.imp (hX k) id⟩
theorem D7.less{E E':Env}{Θ:Th}{σ:St}{w:World}(hX:∀k,E.X k→E'.X k){x:AV}{v:Value}(r:D7 (cx E' Θ σ w) x v):D7 (cx E Θ σ w) x v:=r.mono (Wr hX)
theorem L4.less{E E':Env}{Θ:Th}{σ:St}{w:World}(hX:∀k,E.X k→E'.X k){i:Nat}{b:C9}(o:L4 (cx E' Θ σ w) i b):L4 (cx E Θ σ w) i b:=o.mono (Wr hX) rfl (fun _=>rfl) fun _ _=>rfl
theorem Tu{P:Program}{f:Nat}(hf:OT P f)(args:Array Value)(w:World):(callFunc f args).run P w=.ok (.enter f args) w:=by
 obtain⟨fn,h1,h2,h3⟩:=hf
 have oI : ¬ fn.name = "runtime.NumGoroutine" := by simpa using h2
 have qd:¬fn.body=none:=by intro e;simp[e]at h3
 simp[callFunc,program,Sem.run_bind,Sem.run_pure,Sem.run,h1]
 rw[if_neg oI,if_neg qd]
def Yl:List (Nat×AV)→List (Nat×AV)→Prop
 |[],_=>True
 |(s,x)::r,sl=>(look sl s=some x∧I8 x=true)∧Yl r sl
theorem Ny:∀{slc sl:List (Nat×AV)},Yl slc sl→∀s x,look slc s=some x→look sl s=some x∧I8 x=true
 |[],_,_,s,x,h=>by cases h
 |(k,y)::r,sl,h,s,x,hx=>by
  rw[E4]at hx
  by_cases e:k=s
  ·subst e
   rw[if_pos rfl]at hx
   cases hx
   exact h.1
  ·rw[if_neg e]at hx
   exact Ny h.2 s x hx
section rules
variable {P:Program} {E:Env} {n:Nat} {σ:St} {Q:Exit→St→Prop}
theorem Qg{g:Operand}{ps:Array Tmp}{assign body:Code}{f:Nat}{caps args:List AV}{r:AV}{slc:List (Nat×AV)}{m0 m1:Nat}{hp0 hp1:Hp}(ι off:List Nat)(hg:E9 σ g=some (.fo f caps))(sb:E.rf=true)
  (hit:∀l rc,rc.state=.ready→rc.pending=none→rc.params=ps→rc.tmps.size=n→rc.assign=assign→rc.body=body→Gz P f l rc slc m0 hp0 (.v (.func (.yield l) #[] #[])::args) m1 hp1 r)
  (vM:Yl slc σ.sl) (hL:Ak (K0 ι) (K0 off) args=caps) (hB:(Nat.blt f HE && S0 m0 args && Nat.beq ι.length m0 && Cj ι σ.nx && Al hp0 hp1 m0 && H8 m0 hp0 && H8 m1 hp1 && Nat.ble m0 m1)=true) (oG:Do σ.hp hp0 ι off m0)
  (k:S4 (S5 (gρ ι m0 σ.nx) (gs ι m0 σ.hp) hp1++σ.hp) fun hp2=>G5 (σ.nx+(m1-m0)) fun sV=>Q .normal ⟨σ.sl,sV,hp2⟩) :
  D0 P E n (.rangeFunc g ps assign body) σ Q:=by
 simp only[Bool.and_eq_true,Nat.blt_eq]at hB
 obtain⟨⟨⟨⟨⟨⟨⟨hf,h1⟩,h2⟩,h3⟩,h4⟩,h5⟩,h6⟩,h7⟩:=hB
 have k:=D8 (Q9 k)
 have vM:=Ny vM
 intro a w ⟨θ,hs⟩
 have yJ:=hs.ev hg
 obtain⟨cs,px,nl,ow⟩:∃cs:List Value,a.eval g=.func (.func f) #[] cs.toArray∧caps.length=cs.length∧∀(j:Nat) x c,caps[j]?=some x→cs[j]?=some c→D7 (cx E θ σ w) x c:=by
  generalize a.eval g=v at yJ
  cases yJ with
  |im hi=>cases hi
  |fo f l cs hl hc=>exact⟨cs,by unfold Rg;rw[if_pos hf],hl,hc⟩
 refine(wpIn_wide (n:=1)).1 (wpIn_rangeFunc ?_)
 intro fn _
 let l:=w.heap.size+1
 let rc:Loop:={ state:=.ready,pending:=none,fn,tmps:=a.tmps,params:=ps,assign,body,defers:=w.heap.size }
 have hit:=hit l rc rfl rfl rfl hs.size rfl rfl
 let W1:World:=(w.alloc (.deferred (some []))).alloc (.loop rc)
 have pU:Below w.heap.size w W1:=((Below.refl _ w).alloc (Nat.le_refl _) _).alloc (by simp) _
 have hL1:W1.heap[l]?=some (Obj.loop rc):=by
  have:=World.alloc_heap_new (w.alloc (.deferred (some []))) (.loop rc)
  rwa[World.size_alloc]at this
 have hD1:W1.heap[w.heap.size]?=some (Obj.deferred (some [])):=(Below.heap_alloc _ _ _ (by simp)).trans (World.alloc_heap_new w _)
 have sZ:W1.heap.size=w.heap.size+2:=by simp[W1]
 have nR:∀{i:Nat} {b:C9} {k:Nat},A5 σ.hp i=some b→FP θ i b k→k<w.heap.size:=fun hi hk=>(hs.owns _ _ hi).2.lt hk
 let O1:Nat→Prop:=fun k=>∃i b,A5 σ.hp i=some b∧FP θ i b k
 have hO1:∀k,O1 k→k<w.heap.size:=fun k ⟨i,b,hi,hk⟩=>nR hi hk
 have oM:Q4 (fun k=>(E.X k∨k=l)∨O1 k) W1:=by
  refine hs.tabU.mono (fun k hk hu=>?_) fun k hk _=>pU.block k hk
  rcases hu with (hx|hx)|hx
  ·exact .inl hx
  ·simp only[l]at hx;omega
  ·exact .inr hx
 let E1:Env:=⟨W1,fun k=>E.X k∨k=l,O1,E.θ0,E.n0,oM,false⟩
 have le:(cx E θ σ w).le (cx E1 θ σ W1):=by
  refine⟨Nat.le_refl _,fun _ _=>.inl rfl,fun i _ e' nU v' l' hl=>⟨e',v',l',hl,.inr ⟨rfl,rfl,rfl⟩⟩,pU.size,fun k hk _=>pU.block k hk,fun k hk hu=>?_⟩
  rcases hu with (hx|hx)|hx
  ·exact .inl hx
  ·have ni:k<w.heap.size:=hk
   have qb:k=w.heap.size+1:=hx
   omega
  ·exact .inr hx
 let a0:Act:={ a with defers:=[] }
 have uS:J0 E1 n θ σ a0 W1:=by
  refine⟨hs.size,.nil,⟨rfl,rfl,rfl,Nat.le_refl _,fun _ _ _=>rfl⟩,fun s x hx=>(hs.slots s x hx).mono le,fun i b hi=>⟨(hs.owns i b hi).1,(hs.owns i b hi).2.mono le rfl (fun _=>rfl) fun k hk=>pU.block k (nR hi hk)⟩,hs.apart,fun i b k hi hk=>⟨fun hx=>?_,.inl ⟨i,b,hi,hk⟩⟩,fun k hx=>?_,hs.base⟩
  ·rcases hx with hx|hx
   ·exact(hs.mine i b k hi hk).1 hx
   ·have:=nR hi hk
    have qb:k=w.heap.size+1:=hx
    omega
  ·show k<W1.heap.size
   rw[sZ]
   rcases hx with hx|hx
   ·have h1:=hs.X k hx
    have h2:=hs.fr.size
    omega
   ·have qb:k=w.heap.size+1:=hx
    omega
 have oO:∀s x,look slc s=some x→Im (cx E1 θ σ W1).U W1 x (rc.tmps.getD s undef):=fun s x hx=>by
  obtain⟨q1,q2⟩:=vM s x hx
  exact((Q8 q2).im (hs.slots s x q1)).mono le.heap le.U
 have tJ:=HX (Cl:=fun vs w R=>Calls P f vs.toArray w R) (fun h hr=>Calls.mono h hr) (A:=.v (.func (.yield l) #[] #[])::caps) (args:=.v (.func (.yield l) #[] #[])::args) (r:=r) (hp1:=hp1) ι off uS (vs:=.func (.yield l) #[] #[]::cs) (by simp[nl])
  (fun j x v hj hv=>by
   cases j with
   |zero=>cases hj;cases hv;exact .im (.v _)
   |succ j=>exact(ow j x v hj hv).mono le) (by rw[Ak,hL];rfl) (by simp[S0,U9,h1]) h2 h3 oG h4 h5 h6 h7
  fun X θc hX ht hb hu xk zP hl hv=>hit.2 X θc W1 _ hX ht hb ⟨xk l (.inr rfl),hL1,fun s x hx=>(oO s x hx).mono (fun _ _ _=>rfl) fun k _ hk=>hk.elim (zP k) fun hk=>.inr (hu k hk)⟩ hl hv
 refine⟨l,[RK w.heap.size],W1,{ target:=.fn (.func f) cs.toArray,args:=#[.func (.yield l) #[] #[]] },W1,f,#[.func (.yield l) #[] #[]]++cs.toArray,W1,run_enterLoop_outer _ _ _ _ _,?_,fun _ _=>trivial,?_,(fun h=>by cases h),?_⟩
 ·simp only[resolve,px]
  simp[go_sem]
 ·simp[invoke,go_sem,Tu hit.1]
 ·have rB:Calls P f (#[.func (.yield l) #[] #[]]++cs.toArray) W1 fun e w'=>∃v Θ,e=.returned v∧J0 E1 n Θ ⟨σ.sl,σ.nx+(m1-m0),S5 (gρ ι m0 σ.nx) (gs ι m0 σ.hp) hp1++σ.hp⟩ a0 w':=by
   have e:#[.func (.yield l) #[] #[]]++cs.toArray=(.func (.yield l) #[] #[]::cs).toArray:=by simp
   rw[e]
   refine Calls.mono tJ ?_
   rintro e w' ⟨v,Θ,he,qo,_⟩
   exact⟨v,Θ,he,qo⟩
  refine Hu (ro:=none) (Calls.mono rB ?_)
  rintro e w' ⟨v,Θ,rfl,nj⟩
  have tA:∀k,w.heap.size≤k→¬O1 k:=fun k hk ho=>by have:=hO1 k ho;omega
  have oF:w'.heap[l]?=some (Obj.loop rc):=(nj.fr.block l (by rw[show E1.w0=W1 from rfl,sZ];simp only[l];omega) (tA l (by simp only[l];omega))).trans hL1
  have pX:=run_endLoop (P:=P) oF (by simp[rc])
  refine⟨none,_,pX,?_⟩
  generalize yj:w'.putObj l (.loop { rc with state:=.exhausted })=w4 at pX
  have vz:∀k,k≠l→w4.heap[k]?=w'.heap[k]?:=fun k hk=>by rw[←yj];exact World.putObj_heap_other hk
  have wI:w4.heap.size=w'.heap.size:=by rw[←yj];exact World.putObj_size
  have vL:w4.os=w'.os∧w4.tape=w'.tape∧w4.output=w'.output:=by rw[←yj];exact⟨rfl,rfl,rfl⟩
  obtain⟨rM,le4⟩:=Tr (X:=E1.X) (θ:=Θ) (w':=w4) ⟨nj.owns,nj.apart,fun i b k hi hk=>(nj.mine i b k hi hk).1⟩ wI.symm fun k hk=>vz k fun e=>hk (.inr e)
  have hXX:∀k,E.X k→E1.X k:=fun k hk=>.inl hk
  have hold:∀k,k<w.heap.size→¬O1 k→w4.heap[k]?=w.heap[k]?:=fun k hk ho=>by
   rw[vz k (by simp only[l];omega),nj.fr.block k (by rw[show E1.w0=W1 from rfl,sZ];omega) ho]
   exact pU.block k hk
  refine⟨_,k,Θ,nj.size,?_,⟨?_,?_,?_,?_,fun q hq hO=>?_⟩,fun s x hx=>D7.less hXX ((nj.slots s x hx).mono le4),fun i b hi=>⟨(rM.owns i b hi).1,L4.less hXX (rM.owns i b hi).2⟩,nj.apart,fun i b q hi hk=>?_,hs.X,nj.base⟩
  ·obtain⟨_,bs,oo,nt,rC⟩:=hs.defers
   refine⟨(fun h=>by rw[sb]at h;cases h),w.heap.size::bs,?_,?_,fun b hb=>?_⟩
   ·show [RK w.heap.size]++a.defers=_
    rw[oo];rfl
   ·refine List.nodup_cons.2 ⟨fun hm=>?_,nt⟩
    have:=HI (rC _ hm).2
    omega
   ·rcases List.mem_cons.1 hb with rfl|hb
    ·refine⟨hs.fr.size,?_⟩
     rw[vz _ (by simp only[l];omega),nj.fr.block _ (by rw[show E1.w0=W1 from rfl,sZ];omega) (tA _ (Nat.le_refl _))]
     exact hD1
    ·refine⟨(rC b hb).1,?_⟩
     rw[hold b (HI (rC b hb).2) fun ⟨i,bl,hi,hk⟩=>(hs.owns i bl hi).2.nodf hk (rC b hb).2]
     exact(rC b hb).2
  ·exact vL.1.trans (nj.fr.os.trans (pU.os.trans hs.fr.os))
  ·exact vL.2.1.trans (nj.fr.tape.trans (pU.tape.trans hs.fr.tape))
  ·exact vL.2.2.trans (nj.fr.output.trans (pU.output.trans hs.fr.output))
  ·have h1:=hs.fr.size
   have h2:=nj.fr.size
   rw[show E1.w0=W1 from rfl,sZ]at h2
   rw[wI];omega
  ·have h1:=hs.fr.size
   rw[hold q (by omega) fun ⟨i,b,hi,hk⟩=>?_]
   ·exact hs.fr.block q hq hO
   ·rcases(hs.mine i b q hi hk).2 with h2|h2
    ·exact hO h2
    ·omega
  ·obtain⟨q1,q2⟩:=nj.mine i b q hi hk
   refine⟨fun hx=>q1 (.inl hx),?_⟩
   rcases q2 with ⟨i2,b2,oS,ni⟩|q2
   ·exact(hs.mine i2 b2 q oS ni).2
   ·have h1:=hs.fr.size
    rw[show E1.w0=W1 from rfl,sZ]at q2
    exact .inr (by omega)
end rules
theorem Im.other{U:Nat→Prop}{w w':World}(hc:∀(p:Addr) v,w.cell? p=some v→w'.cell? p=some v){a:AV}{x:Value}(h:Im U w a x):Im U w' a x:=by
 induction h with
 |v x=>exact .v x
 |str l=>exact .str l
 |agg l cs hl h ih=>exact .agg l cs hl ih
 |tup l cs hl h ih=>exact .tup l cs hl ih
 |fn f l cs hl h ih=>exact .fn f l cs hl ih
 |err t p=>exact .err t p
 |any x=>exact .any x
 |own e sz l x=>exact .own e sz l x
 |iptr l a f hu pc h ih=>exact .iptr l a f hu (fun j hj=>hc _ _ (pc j hj)) ih
 |slnil sz=>exact .slnil sz
 |sl sz l a cap f oN hm hu hsz pc h ih=>exact .sl sz l a cap f oN hm hu hsz (fun i hi j hj=>hc _ _ (pc i hi j hj)) ih
theorem D7.other{E:Env}{θ:Th}{σ:St}{w w':World}(hc:∀(p:Addr) v,w.cell? p=some v→w'.cell? p=some v){a:AV}{x:Value}(r:D7 (cx E θ σ w) a x):D7 (cx E θ σ w') a x:=by
 induction r with
 |any x=>exact .any x
 |im hi=>exact .im (hi.other hc)
 |agg l cs hl _ ih=>exact .agg l cs hl ih
 |tup l cs hl _ ih=>exact .tup l cs hl ih
 |fo f l cs hl _ ih=>exact .fo f l cs hl ih
 |ref i off b hi hθ=>exact .ref i off b hi hθ
 |row i ver len x hi hr=>exact .row i ver len x hi hr
 |elt i ver k off x hi hr=>exact .elt i ver k off x hi hr
 |sub i ver lo len x hi hr=>exact .sub i ver lo len x hi hr
 |mp i r hi hθ=>exact .mp i r hi hθ
theorem L4.other{E:Env}{θ:Th}{σ:St}{w w':World}(hc:∀(p:Addr) v,w.cell? p=some v→w'.cell? p=some v){i:Nat}{b:C9}(o:L4 (cx E θ σ w) i b)(hb:∀k,FP θ i b k→w'.heap[k]?=w.heap[k]?):L4 (cx E θ σ w') i b:=by
 have pE:∀k,fp (θ i)=some k→w'.heap[k]?=w.heap[k]?:=fun k hk=>hb k (.inl hk)
 cases b with
 |bx τ l =>
  obtain⟨b,ny,ty,h1,h2,h3,h4⟩:=o
  have oB:θ i=_:=h1
  exact⟨b,ny,ty,h1,(pE b (by simp[oB,fp])).trans h2,h3,fun j x y hx hy=>(h4 j x y hx hy).other hc⟩
 |row e sz ver l =>
  obtain⟨xs,h1,h2,h3,h4⟩:=o
  refine⟨xs,?_,h2,fun k el hk j x hx=>?_,fun hne=>⟨fun k p hk=>((h4 hne).1 k p hk).mono (hb k (.inr ⟨Nat.ble_eq▸hne,p,hk⟩)),fun k el hk j e' nU l' hj=>?_⟩⟩
  ·refine⟨h1.1,?_⟩
   rcases h1.2 with hn|⟨g,cap,nV,hv,hg,hh,r⟩
   ·exact .inl hn
   ·have oY:θ i=_:=hv
    exact .inr ⟨g,cap,nV,hv,hg.mono (pE g (by simp[oY,fp])),hh.mono (pE g (by simp[oY,fp])),r⟩
  ·obtain⟨y,hy,hi⟩:=h3 k el hk j x hx
   exact⟨y,hy,hi.other hc⟩
  ·rcases(h4 hne).2 k el hk j e' nU l' hj with ⟨g0,g1,g,n,cap,y,g2,g3,g4⟩|⟨g,n,cap,y,ys,g1,g2,g3,g4,g5,g6,g7⟩
   ·exact .inl ⟨g0,g1,g,n,cap,y,g2,hc _ _ g3,g4.other hc⟩
   refine .inr ⟨g,n,cap,y,ys,g1,hc _ _ g2,⟨g3.1,g3.2.imp id fun ⟨g',oR,nV,q1,q2,q3,q4⟩=>⟨g',oR,nV,q1,.lt (j7 g4),q3.mono (hb g' (.inr ⟨Nat.ble_eq▸hne,_,(g7 g' (by rw[q1];rfl)).2⟩)),q4⟩⟩,g4,g5,fun q og hq j' x hx=>?_,g7⟩
   obtain⟨z,hz,hi⟩:=g6 q og hq j' x hx
   exact⟨z,hz,hi.other hc⟩
 |map m =>
  obtain⟨r,es,clock,h1,h2,h3,h4⟩:=o
  have oB:θ i=_:=h1
  exact⟨r,es,clock,h1,(pE r (by simp[oB,fp])).trans h2,h3,fun j kx e hx he=>⟨(h4 j kx e hx he).1,(h4 j kx e hx he).2.other hc⟩⟩
 |it s pos =>
  obtain⟨r,h1,h2⟩:=o
  have oB:θ i=_:=h1
  exact⟨r,h1,(pE r (by simp[oB,fp])).trans h2⟩
theorem J0.shut{E:Env}{n:Nat}{θ:Th}{σ:St}{a:Act}{w w':World}(h:J0 E n θ σ a w)(rz:w'.os=w.os∧w'.tape=w.tape∧w'.output=w.output∧w'.heap.size=w.heap.size)
  (hw:∀k,w'.heap[k]?=w.heap[k]?∨(E.w0.heap.size≤k∧∃d d',w.heap[k]?=some (Obj.deferred d)∧w'.heap[k]?=some (Obj.deferred d'))):J0 E n θ σ { a with defers:=[] } w':=by
 have hc:∀(p:Addr) v,w.cell? p=some v→w'.cell? p=some v:=fun p v hp=>by
  rcases hw p.block with e|⟨_,d,d',e,_⟩
  ·rw[←hp];exact World.cell?_of_block e
  ·unfold World.cell? at hp
   simp[e]at hp
 refine⟨h.size,.nil,⟨rz.1.trans h.fr.os,rz.2.1.trans h.fr.tape,rz.2.2.1.trans h.fr.output,by rw[rz.2.2.2];exact h.fr.size,fun k hk hO=>?_⟩,fun s x hs=>(h.slots s x hs).other hc,fun i b hi=>⟨(h.owns i b hi).1,(h.owns i b hi).2.other hc fun k hk=>?_⟩,h.apart,h.mine,h.X,h.base⟩
 ·rcases hw k with e|⟨e,_⟩
  ·exact e.trans (h.fr.block k hk hO)
  ·omega
 ·rcases hw k with e|⟨_,d,d',e,_⟩
  ·exact e
  ·exact absurd e ((h.owns i b hi).2.nodf hk)
theorem Jk{P:Program}{fn:Func}{tmps:Array Value}{R:Ending→World→Prop}{m:Nat}:∀(bs:List Nat) (w:World),bs.Nodup→(∀b∈bs,m≤b∧w.heap[b]?=some (Obj.deferred (some []))) →
  (∀w':World,(w'.os=w.os∧w'.tape=w.tape∧w'.output=w.output∧w'.heap.size=w.heap.size)→(∀k:Nat,w'.heap[k]?=w.heap[k]?∨(m≤k∧∃d d',w.heap[k]?=some (Obj.deferred d)∧w'.heap[k]?=some (Obj.deferred d')))→∃v,(results fn tmps).run P w'=.ok v w'∧R (.returned v) w') →
  LeavesInM Fence.wide 0 P fn tmps R (bs.map RK) .returning w
 |[],w,_,_,h=>h w ⟨rfl,rfl,rfl,rfl⟩ fun _=>.inl rfl
 |b::bs,w,hn,hb,h=>by
  have pE:=hb b (by simp)
  have sj:=List.nodup_cons.1 hn
  refine⟨(fun e=>by cases e),.inl ⟨b,_,rfl,run_takeDeferred pE.2,?_⟩⟩
  refine Jk bs _ sj.2 (fun c hc=>⟨(hb c (List.mem_cons_of_mem _ hc)).1,?_⟩) fun w' h1 h2=>h w' ⟨h1.1,h1.2.1,h1.2.2.1,h1.2.2.2.trans World.putObj_size⟩ fun k=>?_
  ·rw[World.putObj_heap_other (fun e=>sj.1 (by rw[←e];exact hc))]
   exact(hb c (List.mem_cons_of_mem _ hc)).2
  ·by_cases e:k=b
   ·subst e
    have h3:(w.putObj k (.deferred none)).heap[k]?=some (Obj.deferred none):=World.putObj_heap_same (HI pE.2)
    rcases h2 k with h4|⟨h4,d,d',_,h6⟩
    ·exact .inr ⟨pE.1,_,_,pE.2,h4.trans h3⟩
    ·exact .inr ⟨h4,_,_,pE.2,h6⟩
   ·have h3:(w.putObj b (.deferred none)).heap[k]?=w.heap[k]?:=World.putObj_heap_other e
    rw[←h3]
    exact h2 k
theorem AG {P : Program} {n f : Nat} {fn : Func} {code : Code} {args : List AV} {r : AV} {rs : Array ResultVar} (hf : P.funcs[f]? = some fn) (pA : (fn.name == "runtime.NumGoroutine") = false) (hb : fn.body = some code) (hn : fn.ntmps = n) (sH : fn.results = rs)
  (ns:Nat.ble args.length n=true) (nl:I8 r=true) (pO:∀t T,rs=#[.cell t T]→∃sz,G2 P T true sz∧∀l,r=.agg l→l.length=sz)
  (h:(∀a∈args,Rd a)→∀E,E.n0=0→E.rf=true→D0 P E n code ⟨BC args 0,0,[]⟩ (D1 P rs r)):A3 P f args r:=by
 subst hn sH
 have nl:=Q8 nl
 refine⟨⟨fn,hf,pA,by rw[hb];rfl⟩,fun X w vs hX oM hl pz=>?_⟩
 have qx:Q4 (fun k=>X k∨(fun _=>False) k) w:=oM.mono (fun k _ h=>h.elim id False.elim) fun _ _ _=>rfl
 have nQ:∀a∈args,Rd a:=by
  intro a ha
  obtain⟨j,hj,rfl⟩:=List.getElem_of_mem ha
  have h2:j<vs.length:=by omega
  exact⟨X,w,_,pz j _ _ (List.getElem?_eq_getElem hj) (List.getElem?_eq_getElem h2)⟩
 refine callsIn_wide.1 (callsIn_of_wp_marks (n:=0) hf hb trivial ?_)
 have ob:args.length≤fn.ntmps:=Nat.ble_eq▸ns
 have start:e7 ⟨w,X,fun _=>False,fun _=>undef,0,qx,true⟩ fn.ntmps ⟨BC args 0,0,[]⟩ { tmps:=vs.toArray++Array.replicate (fn.ntmps-vs.toArray.size) undef,defers:=[] } w:=by
  refine⟨⟨fun _=>undef,fun _ _=>none⟩,?_,.nil,⟨rfl,rfl,rfl,Nat.le_refl _,fun _ _ _=>rfl⟩,fun s x hs=>?_,fun i b hi=>?_,fun i j b b' k hi=>?_,fun i b k hi=>?_,hX,⟨Nat.le_refl _,fun i hi=>?_⟩⟩
  ·simp;omega
  ·obtain⟨_,hx⟩:=Ec args 0 s x hs
   rw[Nat.sub_zero]at hx
   have nR:s<vs.length:=by rw[←hl];exact(List.getElem?_eq_some_iff.1 hx).1
   have hv:vs[s]?=some vs[s]:=List.getElem?_eq_getElem nR
   have e:(vs.toArray++Array.replicate (fn.ntmps-vs.toArray.size) undef).getD s undef=vs[s]:=by
    rw[Array.getD_eq_getD_getElem?,Array.getElem?_append]
    simp[nR]
   rw[e]
   refine .im ((pz s x _ hx hv).mono (fun _ _ _=>rfl) fun k _ hu=>?_)
   rcases hu with hu|⟨i,b,hi,_⟩
   ·exact hu
   ·cases hi
  ·cases hi
  ·cases hi
  ·cases hi
  ·exact absurd hi (Nat.not_lt_zero _)
 refine(wpIn_wide (n:=0)).2 (wp_mono (h nQ ⟨w,X,fun _=>False,fun _=>undef,0,qx,true⟩ rfl rfl _ w start) ?_)
 rintro e a w' ⟨σ',hq,θ,hs⟩
 have fin:ft P fn.results r σ'→bodyPostM Fence.wide 0 P fn (fun e qq=>∃v,e=.returned v∧Im X qq r v∧Below w.heap.size w qq) .ret a w':=fun sv=>by
  obtain⟨_,bs,oo,nt,rC⟩:=hs.defers
  show LeavesInM Fence.wide 0 P fn a.tmps _ a.defers .returning w'
  rw[oo]
  refine Jk (m:=w.heap.size) bs w' nt rC fun w2 h1 h2=>?_
  exact(Pl (P:=P) (fn:=fn) (r:=r) (hs.shut h1 h2) rfl nl pO sv).2
 cases e with
 |normal=>exact fin hq
 |ret=>exact fin hq
 |exit id=>exact hq.elim
 |goto l=>exact hq.elim
 |panic c=>exact hq.elim
 |outgrown=>exact hq.elim
end Go.Av
