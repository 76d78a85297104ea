/- Stores of several cells into an element of a row of one's own. -/
import Derived.Test.YtjmbhlgocikfiaaGreatDoorUE3
import Derived.Test.YtjmbhlgocikfiaaGreatDoorUF3
import Derived.Test.YtjmbhlgocikfiaaGreatDoorUAw7
import Derived.Test.YtjmbhlgocikfiaaGreatDoorUDx2r
import Derived.Test.YtjmbhlgocikfiaaGreatDoorUDx5
import Derived.Test.YtjmbhlgocikfiaaGreatDoorUCB
import Derived.Lib.LaidTab
import Derived.Stop.LaidErr
import Derived.MakeChecks
import Derived.Shelf.Vars
set_option linter.unusedVariables false
set_option linter.unusedSimpArgs false
set_option linter.unnecessarySimpa false
namespace Go.Av
open Go Go.RowKit
section
variable {P:Program} {E:Env} {n:Nat} {ops:Array Oper} {rest:List Oper} {σ:St} {K:St → Prop} {ty:TypeId} {pos:String} {after:Array Edge} {x y:Operand}
theorem aops_rangeStr {d T:Nat} [tu:TStr P T] {l:List UInt8} (hx:evO σ x = some (.str l)) (hd:Nat.blt d n = true)
  (k:AOps P E n ops rest ((σ.new (.it l 0)).put d (.ref σ.nx 0)) K):AOps P E n ops (⟨some d, .range T x,ty,pos,after,none⟩ :: rest) σ K :=
 aops_new (b:=.it l 0) hd (fun θ a w h=>by
  have hv:a.eval x = .string ⟨l.toArray⟩:=(h.rel hx).sval
  exact ⟨.pointer (some ⟨w.heap.size,0,none⟩), .pointer (some ⟨w.heap.size,0,none⟩),w.alloc (.stringIter ⟨l.toArray⟩ 0),by
   simp [execOp,Instr.range,hv,newObj,Sem.run_bind,Sem.run_pure,Sem.run,run_underlying tu.out],below_alloc _ _,fp_new,fun le =>
   ⟨⟨w.heap.size,by simp [cx,upd_self],heap_alloc_new w _⟩, .ref _ _ _ (by simp [cx,St.new]) (by simp [cx,upd_self])⟩⟩) k
theorem aops_turnv {d:Nat} {op:Op} {i:Nat} {b b':Blk} {av:AV} (hd:Nat.blt d n = true) (hi:lookB σ.hp i = some b)
  (hrun:∀ θ a w,EvT E θ σ.nx σ.hp (evO σ) a w → ∃ v w',(execOp a.eval ⟨some d,op,ty,pos,after,none⟩).run P w = .ok (.value v) w' ∧ w'.os = w.os ∧ w'.tape = w.tape ∧ w'.output = w.output ∧ w'.heap.size = w.heap.size ∧
   (∀ k,fp (θ i) ≠ some k → w'.heap[k]? = w.heap[k]?) ∧ Turns (θ i) (θ i) b b' ∧
   ((cx E θ σ w).le (cx E (upd θ i (θ i)) (σ.set i b') w') → OwnOk (cx E (upd θ i (θ i)) (σ.set i b') w') i b') ∧ Rel (cx E (upd θ i (θ i)) (σ.set i b') w') av v)
  (k:AOps P E n ops rest ((σ.set i b').put d av) K) (hlab:∀ e sz v l,b' = .row e sz v l → ∃ sz0 v0 l0,b = .row e sz0 v0 l0:=by intro _ _ _ _ h;cases h <;> exact ⟨_,_,_,rfl⟩):AOps P E n ops (⟨some d,op,ty,pos,after,none⟩ :: rest) σ K:=by
 intro a w ⟨θ,hs⟩
 unfold wpList
 rw [if_pos (by simp [Region.wanted])]
 left
 obtain ⟨v,w',hr,h1,h2,h3,h4,h5,h6,h7,h9⟩:=hrun θ a w hs.evT
 simp only [Oper.wp,hr,Oper.upon]
 have h8:=hs.turn (b':=b') (v':=θ i) hi h1 h2 h3 (by omega) (fun k _=>h5 k) (fun k hk=>.inl hk) h6 h7 fun e sz v l h hk _=>by
  obtain ⟨sz0,v0,l0,rfl⟩:=hlab e sz v l h
  exact ⟨rfl,e,sz0,v0,l0,rfl,hk⟩
 exact k _ _ ⟨_,h8.put (Nat.blt_eq ▸ hd) h9⟩
theorem getObj_it {r:Nat} {w:World} {s:ByteArray} {p:Nat} (h:w.heap[r]? = some (.stringIter s p)):(getObj r).run P w = .ok (.stringIter s p) w:=by
 simp [getObj,Sem.run,h]
theorem setObj_it {r:Nat} {w:World} {s:ByteArray} {p:Nat} (o:Obj) (h:w.heap[r]? = some (.stringIter s p)):(setObj r o).run P w = .ok () { w with heap:=w.heap.setIfInBounds r o }:=by
 simp [setObj,Sem.run,h]
theorem decode_low {l:List UInt8} {p:Nat} {c:UInt8} (h:l[p]? = some c) (hc:c.toNat < 128):Utf8.decode ⟨l.toArray⟩ p = (c.toNat,1):=by
 have hlt:=(List.getElem?_eq_some_iff.1 h).1
 have:(⟨l.toArray⟩:ByteArray).get! (p + 0) = c:=by
  show l.toArray[p + 0]! = c
  rw [Nat.add_zero,List.getElem!_toArray,List.getElem!_eq_getElem?_getD,h];rfl
 unfold Utf8.decode
 simp only [this]
 rw [if_pos (by omega)]
theorem aops_next_low {d:Nat} {i p:Nat} {l:List UInt8} {c:UInt8} (hc:l[p]? = some c) (hx:evO σ x = some (.ref i 0)) (hb:lookB σ.hp i = some (.it l p)) (hd:Nat.blt d n = true) (h128:c.toNat < 128)
  (k:AOps P E n ops rest ((σ.set i (.it l (p + 1))).put d (.tup [.b true, .i p, .v (.int .i32 c.toNat)])) K):AOps P E n ops (⟨some d, .next x true,ty,pos,after,none⟩ :: rest) σ K :=
 aops_turnv (b':=.it l (p + 1)) hd hb (fun θ a w h=>by
  obtain ⟨b,hθ,hv,hnx⟩:=ref_inv (h.rel hx)
  obtain ⟨r,hθ',hr⟩:=(h.owns i _ hb).2
  have hθ2:θ i = .pointer (some ⟨r,0,none⟩):=hθ'
  have hθ3:θ i = .pointer (some ⟨b,0,none⟩):=hθ
  have hbr:b = r:=by rw [hθ2] at hθ3;cases hθ3;rfl
  subst hbr
  have hr2:w.heap[b]? = some (.stringIter ⟨l.toArray⟩ p):=hr
  have hlt:=(List.getElem?_eq_some_iff.1 hc).1
  have hbl:b < w.heap.size:=(Array.getElem?_eq_some_iff.1 hr2).1
  refine ⟨.tuple #[.bool true, .int .i64 p, .int .i32 c.toNat], { w with heap:=w.heap.setIfInBounds b (.stringIter ⟨l.toArray⟩ (p + 1)) },?_,rfl,rfl,rfl,by simp,fun k hk=>?_,rfl,fun _=>?_,?_⟩
  ·have hsz:p < (⟨l.toArray⟩:ByteArray).size:=hlt
   simp only [execOp,Instr.next,hv,Sem.run_bind,getObj_it hr2,Result.andThen_ok,if_pos hsz,decode_low hc h128,setObj_it _ hr2,Sem.run_pure]
   rfl
  ·have hne:b ≠ k:=fun e=>hk (by rw [hθ2,e];rfl)
   exact Array.getElem?_setIfInBounds_ne hne
  ·refine ⟨b,by simp only [cx,upd_self];exact hθ2,?_⟩
   simp [cx,hbl]
  ·exact .im (.tup _ [.bool true, .int .i64 p, .int .i32 c.toNat] rfl fun j u z hu hz=>by
    rcases j with _ | _ | _ | j
    ·cases hu;cases hz;exact .v _
    ·cases hu;cases hz;exact .v _
    ·cases hu;cases hz;exact .v _
    ·cases hu)) k
theorem aops_next_end {d:Nat} {i p:Nat} {l:List UInt8} (hc:l.length ≤ p) (hx:evO σ x = some (.ref i 0)) (hb:lookB σ.hp i = some (.it l p)) (hd:Nat.blt d n = true)
  (k:AOps P E n ops rest (σ.put d (.tup [.b false])) K):AOps P E n ops (⟨some d, .next x true,ty,pos,after,none⟩ :: rest) σ K :=
 aops_q (q_pure fun _ _ _ θ a w h=>by
  obtain ⟨b,hθ,hv,hnx⟩:=ref_inv (h.rel hx)
  obtain ⟨r,hθ',hr⟩:=(h.owns i _ hb).2
  have hθ2:θ i = .pointer (some ⟨r,0,none⟩):=hθ'
  have hθ3:θ i = .pointer (some ⟨b,0,none⟩):=hθ
  have hbr:b = r:=by rw [hθ2] at hθ3;cases hθ3;rfl
  subst hbr
  have hr2:w.heap[b]? = some (.stringIter ⟨l.toArray⟩ p):=hr
  refine ⟨.tuple #[.bool false],?_, .im (.tup _ [.bool false] rfl fun j u z hu hz=>by
   rcases j with _ | j
   ·cases hu;cases hz;exact .v _
   ·cases hu)⟩
  have hsz:¬ p < (⟨l.toArray⟩:ByteArray).size:=Nat.not_lt.2 hc
  simp only [execOp,Instr.next,hv,Sem.run_bind,getObj_it hr2,Result.andThen_ok,if_neg hsz,Sem.run_pure]) hd k
end
end Go.Av
namespace Go.Proofs.YtjmbhlgocikfiaaGreatDoor
open Go Go.Av
attribute [local irreducible] AWp AOps AAny MAny DQ retQ retG St.le FCall GCall
set_option maxRecDepth 100000
theorem nlssB:∀ {a a' b b':List (List AV)},NLss a a' → NLss b b' → NLss (a ++ b) (a' ++ b')
 | [],[],_,_,_,h=>h
 | _ :: _,_ :: _,_,_,h1,h2=>⟨h1.1,nlssB h1.2 h2⟩
 | [],_ :: _,_,_,h,_=>h.elim
 | _ :: _,[],_,_,h,_=>h.elim
theorem end_nl (cd:Cnd):NLs [.str bEnd, .b false, .i 3, .i 0, .str [], .i 0,nilR,nilR, .i cd.op, .i cd.col, .i cd.code, .i cd.lo, .i cd.hi, .sl 6 (cd.kids.map cndL), .i 0, .i 0, .i 0, .i 0, .i 0,nilR,nilR] (stmL (endP cd)):=⟨.refl _, .refl _, .refl _, .refl _, .refl _, .refl _, .nil 1, .nil 2, .refl _, .refl _, .refl _, .refl _, .refl _, .refl _, .refl _, .refl _, .refl _, .refl _, .refl _, .nil 6, .nil 19,trivial⟩
theorem raw_take {α:Type} (l:List α) (k:Nat):List.drop ((0:Nat):Int).toNat (List.take (k:Int).toNat l) = l.take k:=rfl
theorem raw_less {α:Type} (l:List α) (n:Nat) (h:1 ≤ n):List.drop ((0:Nat):Int).toNat (List.take ((n:Int) - 1).toNat l) = l.take (n - 1):=by
 rw [show ((n:Int) - 1).toNat = n - 1 by omega];rfl
set_option maxHeartbeats 16000000 in
theorem lines_call (l:List UInt8) (hl:l.length ≤ maxLen):FCall Tryz.prog 7 [.sl 1 (l.map u8A)] (.b true):=by
 unfold maxLen at hl
 have hL:(l.take 400).length ≤ 400:=List.length_take_le _ _
 have hnew:=new_call l (by omega)
 have hsch:=schc_draw (l.take 400) 0 hL
 have hd:=schS_drawn (l.take 400) 0
 generalize schS (l.take 400) 0 = s0 at *
 obtain ⟨s,a0⟩:=s0
 dsimp only at hsch hd
 generalize l.take 400 = t at *
 have hpro:=program_drawR t s hd hL a0 4 (by omega)
 have htl:=proD_txt hd t a0 4 (by omega)
 obtain ⟨hok,hpl⟩:=proD_ok hd t a0 4 (by omega)
 generalize proD t a0 s 4 = X at *
 obtain ⟨L,nms,a1⟩:=X
 dsimp only at hpro hok htl hpl
 have hcd:=cond_draw t s hd hL 1 a1 (by omega)
 obtain ⟨hcr,hct⟩:=cond_right hd t 1 a1 (by omega)
 generalize condS t s 1 a1 = Y at *
 obtain ⟨cd,a2⟩:=Y
 dsimp only at hcd hcr hct
 have hR2:(proS s (L ++ [endP cd])).2 = 0:=by rw [lines_right hd hok (by omega) hcr]
 obtain ⟨T,hT,t1,t2,t3,t4,t5,t6,t7,t8⟩:=lines_law hd hok (by omega) htl hcr hct
 have e1:FCall Tryz.prog 17 [sA s, .sl 21 ((L ++ [endP cd]).map stmL)] (.tup [.str T, .i 0]):=(pPrint_call s _).congr (by rw [priP,if_pos hR2, ← hT,if_neg (by omega)])
 generalize (txtP s L).length = E at *
 have e2:FCall Tryz.prog 18 [sA s, .str (List.drop ((0:Nat):Int).toNat (List.take (E:Int).toNat T))] (.tup [.sl 21 (L.map stmL), .i 0, .i 0]):=(pParse_call s _ (by rw [raw_take,List.length_take];omega)).congr (by rw [raw_take,t7])
 have e3:FCall Tryz.prog 18 [sA s, .str (List.drop ((0:Nat):Int).toNat (List.take ((T.length:Int) - 1).toNat T))] (.tup [.sl 21 (([]:List Stm).map stmL), .i ((L.length + 1:Nat):Int), .i 11]):=(pParse_call s _ (by rw [raw_less _ _ t2,List.length_take];omega)).congr (by rw [raw_less _ _ t2,t8])
 have hRl:(L ++ [endP cd]).length = L.length + 1:=by rw [List.length_append];rfl
 have e4:FCall Tryz.prog 19 [.sl 21 (L.map stmL), .sl 21 (List.drop ((0:Nat):Int).toNat (List.take (((L ++ [endP cd]).length:Int) - 1).toNat ((L ++ [endP cd]).map stmL)))] (.b true):=by
  rw [raw_less _ _ (by omega),hRl,Nat.add_sub_cancel, ← List.map_take,List.take_left']
  ·exact sameP_self L
  ·rfl
 have hN:NLss (L.map stmL ++ [[.str bEnd, .b false, .i 3, .i 0, .str [], .i 0,nilR,nilR, .i cd.op, .i cd.col, .i cd.code, .i cd.lo, .i cd.hi, .sl 6 (cd.kids.map cndL), .i 0, .i 0, .i 0, .i 0, .i 0,nilR,nilR]]) ((L ++ [endP cd]).map stmL):=by
  rw [List.map_append];exact nlssB (NLss.refl _) ⟨end_nl cd,trivial⟩
 generalize L ++ [endP cd] = R at *
 have ha:=awake8_call
 clear hR2 hT t7 t8 htl hok hct hcr
 refine fci Tryz.func7 110 fun hrd E h0=>?_
 clear hrd
 repeat' ((first | (refine draw_id 3 ?_;refine draw_le (id:=3) (σ':=⟨[(3, .ref 0 0),(4, .iptr (sL s))],1,drB t a0⟩) (le_of h0 rfl ⟨rfl,rfl,trivial⟩ ⟨rfl,trivial⟩ rfl rfl rfl) ?_;refine draw_m (id:=3) ⟨[(4, .iptr (sL s)),(5, .sl 21 (R.map stmL))],0,[]⟩ ?_ ?_) | refine aops_rangeStr rfl rfl ?_ | refine call_i e1 ?_ | refine ncall_g [] [] hnew rfl rfl rfl rfl rfl trivial rfl rfl rfl rfl rfl ?_ |refine aops_go ?_|refine S1 ?_|refine Z1 ?_|refine Z2 ?_|(refine And.intro ?_ ?_<;>intro h<;>try first|(exfalso;omega)|exact absurd rfl h)|refine Z3 ?_|refine Z4 ?_|intro el hel hbB|intro el hel|intro ex|refine Z5 ?_|(refine free_i ?_ ?_;exact ⟨by kernel_rfl,by decide⟩)|refine allI_c ?_ ?_|exact allI_n|refine allMP_c ?_ ?_|exact allMP_n|(refine many_step ?_ ?_ ?_;kernel_rfl;kernel_rfl) | refine nc [0] [0] hsch rfl rfl rfl ⟨rfl,trivial⟩ ?_ | refine nc [0] [0] hpro rfl rfl rfl ⟨rfl,trivial⟩ ?_ | refine nc [0] [0] hcd rfl rfl rfl ⟨rfl,trivial⟩ ?_) <;> (try (conv=>whnf)))
 all_goals first
  | exact le_trans (le_nl 1 (R.map stmL) rfl hN) (le_of h0 rfl ⟨rfl,rfl,trivial⟩ trivial rfl rfl rfl)
  | (exfalso;omega)
  | skip
 refine loop_i (ι:=Nat) (fun p=>⟨[(4, .iptr (sL s)),(5, .sl 21 (R.map stmL)),(6, .str T),(7, .i 0),(8, .i (lnC T p)),(9, .i (lnE T p)),(38, .ref 0 0)],1,[(0,some (.it T p))]⟩) (fun p=>p ≤ T.length) (fun p=>T.length - p) 0 (Nat.zero_le _) (le_of h0 rfl ⟨rfl,rfl,rfl,rfl,rfl,rfl,rfl,trivial⟩ ⟨rfl,trivial⟩ rfl rfl rfl) (fun p hp=>?_)
 by_cases hlt:p < T.length
 ·obtain ⟨c,hc⟩:∃ c,T[p]? = some c:=⟨_,List.getElem?_eq_getElem hlt⟩
  have hlow:c.toNat < 128:=by
   rw [List.all_eq_true] at t3
   have:=t3 c (List.mem_of_getElem? hc)
   unfold lowB at this
   exact of_decide_eq_true this
  have hcn:(c.toNat = 10 → lnC T (p + 1) = lnC T p + 1) ∧ (¬ c.toNat = 10 → lnC T (p + 1) = lnC T p) ∧ (c.toNat = 10 → p + 1 < T.length → lnE T (p + 1) = p + 1) ∧ (¬ c.toNat = 10 → lnE T (p + 1) = lnE T p) ∧ (¬ p + 1 < T.length → lnE T (p + 1) = lnE T p):=by
   have hi:c.toNat = 10 ↔ T[p]? = some 10:=by
    rw [hc]
    constructor
    ·intro h;rw [show c = 10 from UInt8.toNat_inj.1 h]
    ·intro h;cases h;rfl
   refine ⟨fun h=>?_,fun h=>?_,fun h h2=>?_,fun h=>?_,fun h=>?_⟩
   ·rw [lnC,if_pos (hi.1 h)]
   ·rw [lnC,if_neg fun g=>h (hi.2 g)]
   ·rw [lnE,if_pos ⟨hi.1 h,h2⟩]
   ·rw [lnE,if_neg fun g=>h (hi.2 g.1)]
   ·rw [lnE,if_neg fun g=>h g.2]
  have hcb:lnC T p ≤ p:=by
   have:∀ q,lnC T q ≤ q:=fun q=>by
    induction q with
    | zero=>exact Nat.le_refl _
    | succ q ih=>rw [lnC];split <;> omega
   exact this p
  generalize lnC T p = c0 at *
  generalize lnE T p = e0 at *
  obtain ⟨q1,q2,q3,q4,q5⟩:=hcn
  repeat' ((first | refine aops_next_low hc rfl rfl rfl hlow ?_ | (refine each_known (x:=c) hc (by omega) ?_) |refine aops_go ?_|refine S1 ?_|refine Z1 ?_|refine Z2 ?_|(refine And.intro ?_ ?_<;>intro h<;>try first|(exfalso;omega)|exact absurd rfl h)|refine Z3 ?_|refine Z4 ?_|intro el hel hbB|intro el hel|intro ex|refine Z5 ?_|(refine free_i ?_ ?_;exact ⟨by kernel_rfl,by decide⟩)|refine allI_c ?_ ?_|exact allI_n|refine allMP_c ?_ ?_|exact allMP_n|(refine many_step ?_ ?_ ?_;kernel_rfl;kernel_rfl)) <;> (try (conv=>whnf)))
  all_goals first
   | exact ⟨p + 1,by omega,by omega,le_of h0 rfl ⟨rfl,rfl,rfl,rfl,congrArg (fun z:Int=>some (AV.i z)) (by omega),congrArg (fun z:Int=>some (AV.i z)) (by omega),rfl,trivial⟩ ⟨rfl,trivial⟩ rfl rfl rfl⟩
   | (exfalso;omega)
 ·obtain rfl:p = T.length:=by omega
  rw [t4,t5]
  have hend:T.length ≤ T.length:=Nat.le_refl _
  repeat' ((first | refine aops_next_end hend rfl rfl rfl ?_ | refine call_i e2 ?_ | refine call_i e3 ?_ | refine call_i e4 ?_ | refine call_i ha ?_ |refine aops_go ?_|refine S1 ?_|refine Z1 ?_|refine Z2 ?_|(refine And.intro ?_ ?_<;>intro h<;>try first|(exfalso;omega)|exact absurd rfl h)|refine Z3 ?_|refine Z4 ?_|intro el hel hbB|intro el hel|intro ex|refine Z5 ?_|(refine free_i ?_ ?_;exact ⟨by kernel_rfl,by decide⟩)|refine allI_c ?_ ?_|exact allI_n|refine allMP_c ?_ ?_|exact allMP_n|(refine many_step ?_ ?_ ?_;kernel_rfl;kernel_rfl)) <;> (try (conv=>whnf)))
  all_goals first
   | exact ret_tmp rfl rfl
   | (exfalso;omega)
theorem lines_all (l:List AV) (h:AShapes Tryz.prog Tryz.f7.params.toList l):FCall Tryz.prog 7 l (.b true):=by
 obtain ⟨a1,r1,rfl,h1,rfl⟩:=h
 obtain ⟨l,hl,rfl⟩:=ash_by h1
 exact lines_call l hl
end Go.Proofs.YtjmbhlgocikfiaaGreatDoor
namespace Go.Av
open Go Go.RowKit
theorem var_heap {P:Program} {W:World} {n:String} {cs:Array Value} {g:Nat} (hg:P.globalNamed n = some g) (h:W.var? P n = some cs):∃ t fr,W.heap[g]? = some (.cells cs t fr):=by
 unfold World.var? at h
 rw [hg] at h
 simp only [Option.bind_some] at h
 split at h
 ·rename_i c t fr he
  cases h
  exact ⟨t,fr,he⟩
 ·cases h
theorem tab_heap {P:Program} {W:World} {name:String} {k:IntKind} {zs:List Int} {rest:List (String × DataW Unit)} {g:Nat} {t e:TypeId} {n:Nat}
  (hg:P.globalNamed name = some g) (hty:(P.globals[g]?).map (·.type) = some t) (ht:P.underlying t = some (.array n e)) (he:P.underlying e = some (.int k)) (hce:P.cellsOf e = 1) (hct:P.cellsOf t = n)
  (h:laidMet P ((name,Lib.tabData k zs) :: rest) W):∃ t fr,W.heap[g]? = some (.cells (zs.map (Value.int k)).toArray t fr):=by
 have h1:=Lib.tabIs_of_head hg hty ht he hce hct h
 unfold Lib.TabIs at h1
 exact var_heap hg h1
def fld1 (P:Program) (te ts:TypeId):Bool:=match P.underlying te with
 | some (.struct ⟨[f]⟩)=>decide (f.type = ts) && decide (f.offset = 0)
 | _=>false
def ifcB (P:Program) (ti:TypeId):Bool:=match P.underlying ti with
 | some (.interface _)=>true
 | _=>false
theorem err_heap {P:Program} {n nm:String} {text:List UInt8} {r:List (String × DataW Unit)} {W:World} {g:Nat} {ti tp te ts:TypeId}
  (h:laidMet P ((n, .iface nm (.ptr (.agg [.lit (.string text)]))) :: r) W)
  (hg:P.globalNamed n = some g) (ht:(P.globals[g]?).map (·.type) = some ti) (hi:ifcB P ti = true) (hrow:∀ u,P.typeName? 3 u = some nm → u = tp)
  (hp:P.underlying tp = some (.pointer te)) (he:fld1 P te ts = true) (hs:P.underlying ts = some .string) (hc:P.cellsOf te = 1) (hcs:P.cellsOf ts = 1) :
  ∃ te pe t fr,W.heap[g]? = some (.cells #[.iface te pe] t fr):=by
 unfold fld1 at he
 unfold ifcB at hi
 split at he
 ·rename_i f hf
  simp only [Bool.and_eq_true,decide_eq_true_eq] at he
  split at hi
  ·rename_i ms hms
   obtain ⟨a,s,h1,_⟩:=laid_sentinel h hg ht hms hrow hp hf he.1 he.2 hs hc hcs
   obtain ⟨t,fr,h2⟩:=var_heap hg h1
   exact ⟨_,_,t,fr,h2⟩
  ·cases hi
 ·cases he
def AllTabs (W:World):List (Nat × IntKind × List Int) → Prop
 | []=>True
 | (g,k,l) :: r=>(∃ t fr,W.heap[g]? = some (.cells (l.map (Value.int k)).toArray t fr)) ∧ AllTabs W r
def AllErrs (W:World):List Nat → Prop
 | []=>True
 | g :: r=>(∃ te pe t fr,W.heap[g]? = some (.cells #[.iface te pe] t fr)) ∧ AllErrs W r
theorem allTabs_get {W:World}:∀ {T:List (Nat × IntKind × List Int)} {g:Nat} {k:IntKind} {l:List Int},AllTabs W T → look T g = some (k,l) → ∃ t fr,W.heap[g]? = some (.cells (l.map (Value.int k)).toArray t fr)
 | [],g,k,l,_,h=>by cases h
 | (g',k',l') :: r,g,k,l,h,hg=>by
  rw [look_cons] at hg
  by_cases e:g' = g
  ·rw [if_pos e] at hg;cases hg;subst e;exact h.1
  ·rw [if_neg e] at hg;exact allTabs_get h.2 hg
theorem allErrs_get {W:World}:∀ {T:List Nat} {g:Nat},AllErrs W T → g ∈ T → ∃ te pe t fr,W.heap[g]? = some (.cells #[.iface te pe] t fr)
 | [],g,_,h=>by cases h
 | g' :: r,g,h,hg=>by
  rcases List.mem_cons.1 hg with rfl | hg
  ·exact h.1
  ·exact allErrs_get h.2 hg
def AllNums (W:World):List Nat → Prop
 | []=>True
 | g :: r=>(∃ m t fr,W.heap[g]? = some (.cells #[.int .i64 m] t fr)) ∧ AllNums W r
theorem allNums_get {W:World}:∀ {T:List Nat} {g:Nat},AllNums W T → g ∈ T → ∃ m t fr,W.heap[g]? = some (.cells #[.int .i64 m] t fr)
 | [],g,_,h=>by cases h
 | g' :: r,g,h,hg=>by
  rcases List.mem_cons.1 hg with rfl | hg
  ·exact h.1
  ·exact allNums_get h.2 hg
theorem num_heap {P:Program} {W:World} {g t:Nat} (hs:W.ShapedOpen P) (hg:Nat.blt g P.globals.size = true) (h0:((begin P (fun _ _=>0) default).world.heap[g]?).bind Obj.row? = some (#[.int .i64 0],t))
  (hb:P.buildable t = true) (hc:P.cellTypes P.depth t = some [t]) (hu:P.underlying t = some (.int .i64)):∃ m t fr,W.heap[g]? = some (.cells #[.int .i64 m] t fr):=by
 have hlt:g < P.globals.size:=Nat.blt_eq ▸ hg
 obtain ⟨cs,hh,hsz,_⟩:=hs.1 g #[.int .i64 0] t hlt h0
 obtain ⟨m,hm⟩:=Go.Proofs.cell_of_shapedOpen_int hs hlt h0 rfl hb hc hu
 have h1:cs.size = 1:=hsz
 have h2:cs[0]? = some (.int .i64 m):=by
  unfold World.cell? at hm
  simpa [hh] using hm
 refine ⟨m,t,(0,0),hh.trans ?_⟩
 have:cs = #[.int .i64 m]:=by
  apply Array.ext
  ·rw [h1];rfl
  ·intro i hi _
   have:i = 0:=by omega
   subst this
   have h3:=Array.getElem?_eq_some_iff.1 h2
   obtain ⟨_,h3⟩:=h3
   rw [h3];rfl
 rw [this]
theorem tabOk_of {W:World} (h1:AllTabs W tabs) (h2:AllErrs W errs) (h3:AllNums W nums):TabOk noU W :=
 ⟨fun g k l h=>⟨fun hu=>hu.elim,allTabs_get h1 h⟩,fun g h=>⟨fun hu=>hu.elim,allErrs_get h2 h⟩,fun g h=>⟨fun hu=>hu.elim,allNums_get h3 h⟩⟩
end Go.Av
