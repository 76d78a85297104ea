/- Rows of bytes out of which a text was made, and that go on. -/
import Derived.Test.YtiphlhoclaogjabGreatDoorQAvH
import Derived.Test.YtiphlhoclaogjabGreatDoorQSb
import Derived.Lib.SliceRun
set_option linter.unusedSimpArgs false
set_option linter.unusedVariables false
set_option linter.unnecessarySimpa false
namespace Go.Av
open Go Go.RowKit
theorem EF {g t:Nat} {fz:Nat × Nat}:∀ (vs:List Value) (o:Nat) (w:World) (cur:Array Value),w.heap[g]? = some (.cells cur t fz) → o + vs.length ≤ cur.size →
  (w.setCells g o vs).heap[g]? = some (.cells (cur.toList.take o ++ vs ++ cur.toList.drop (o + vs.length)).toArray t fz) ∧ (∀ k,k ≠ g → (w.setCells g o vs).heap[k]? = w.heap[k]?) ∧ (w.setCells g o vs).heap.size = w.heap.size ∧ (w.setCells g o vs).os = w.os ∧ (w.setCells g o vs).tape = w.tape ∧ (w.setCells g o vs).output = w.output
 | [],o,w,cur,h,hl=>by
   refine ⟨?_,fun _ _=>rfl,rfl,rfl,rfl,rfl⟩
   simp only [World.setCells,h,List.append_nil,List.length_nil,Nat.add_zero,List.take_append_drop,Array.toArray_toList]
 | v :: r,o,w,cur,h,hl=>by
   simp only [List.length_cons] at hl
   have h1:(w.setCell ⟨g,o,none⟩ v).heap[g]? = some (.cells (cur.setIfInBounds o v) t fz):=by
    simp [World.setCell,Array.getElem?_modify,h]
   obtain ⟨q1,q2,q3,q4,q5,q6⟩:=EF r (o + 1) (w.setCell ⟨g,o,none⟩ v) (cur.setIfInBounds o v) h1 (by simp;omega)
   refine ⟨?_,fun k hk=>?_,?_,?_,?_,?_⟩
   ·rw [World.setCells,q1]
    congr 3
    rw [Array.toList_setIfInBounds]
    have ho:o < cur.toList.length:=by simp;omega
    rw [List.take_add_one,List.getElem?_set_self ho,List.take_set_of_le (Nat.le_refl _),List.drop_set_of_lt (by omega)]
    simp only [Option.toList,List.append_assoc,List.singleton_append,List.length_cons]
    rw [Nat.add_assoc o 1,Nat.add_comm 1]
   ·rw [World.setCells,q2 k hk]
    simp [World.setCell,Array.getElem?_modify,Ne.symm hk]
   ·rw [World.setCells,q3];simp [World.setCell]
   ·rw [World.setCells,q4];rfl
   ·rw [World.setCells,q5];rfl
   ·rw [World.setCells,q6];rfl
section rules
variable {P:Program} {E:Env} {n:Nat} {ops:Array Oper} {rest:List Oper} {σ:St} {K:St → Prop} {d:Nat} {ty:TypeId} {pos:String} {after:Array Edge} {x y:Operand} {L:List AV}
theorem Hw {e:Nat} (he:e < F8):a6 (L9 + e) = false ∧ L9 + e < G0 ∧ S8 (L9 + e) = false:=by
 unfold F8 at he
 have h1:Nat.blt (L9 + e) L9 = false:=by
  cases hb:Nat.blt (L9 + e) L9 with
  | false=>rfl
  | true=>have:=Nat.blt_eq ▸ hb;omega
 refine ⟨by unfold a6;rw [h1,Gm (by unfold L9 G0;omega)];rfl,by unfold L9 G0;omega,?_⟩
 unfold S8
 rw [h1,Gm (a:=Fh) (by unfold L9 Fh;omega),Bool.and_false,Bool.or_false]
theorem J5.fz {w:World} {g e:Nat} {cur:Array Value} (h:J5 w g cur (L9 + e)) (he:e < F8):∃ fz,w.heap[g]? = Option.some (.cells cur e fz):=by
 obtain ⟨h1,h2,_⟩:=Hw he
 rcases h with ⟨h,_⟩ | ⟨_,h,_⟩ | ⟨_,h,_⟩ | ⟨_,fz,h⟩
 ·unfold L9 E9 at h;omega
 ·unfold L9 E9 at h;omega
 ·rw [h1] at h;cases h
 ·exact ⟨fz,by rw [Nat.add_sub_cancel_left] at h;exact h⟩
theorem J5.mk_fz {w:World} {g e:Nat} {cur:Array Value} {fz:Nat × Nat} (h:w.heap[g]? = Option.some (.cells cur e fz)) (he:e < F8):J5 w g cur (L9 + e) :=
 .inr (.inr (.inr ⟨(Hw he).1,fz,by rw [Nat.add_sub_cancel_left];exact h⟩))
theorem Ge {T u tt e:Nat} {i:TypeInfo} (ht:P.underlying T = some (.slice e)) (hu:P.underlying u = some .string) (hi:P.info? e = some i) (hs1:i.size = 1) {w:World}
  (g sLen sCap:Nat) (cur:Array Value) (fz:Nat × Nat) (hg:w.heap[g]? = some (.cells cur e fz)) (hf:fz.2 ≤ sLen) (s:ByteArray) (hroom:sLen + s.size ≤ sCap) (hfit:sLen + s.size ≤ cur.size) :
  (Builtin.append_ #[T,u] tt #[.slice (some ⟨g,0,none⟩) sLen sCap, .string s]).run P w = .ok (.slice (some ⟨g,0,none⟩) (sLen + s.size) sCap) (w.setCells g sLen (Lib.strCells s)):=by
 have hfc:=Lib.run_firstCells_string (P:=P) w 1 s
 have hst:=run_storeCells_cells (P:=P) g sLen (Lib.strCells s) 0 w (fun j hj=>by
   rw [Lib.strCells_length] at hj
   have:sLen + j < cur.size:=by omega
   simp [World.cell?,hg,this]) (fun j hj=>by
   simp only [World.frozen?,hg]
   have:¬ (sLen + j) < fz.2:=by omega
   simp [this]) (Lib.strCells_oneCell s)
 simp only [Nat.add_zero] at hst
 simp [Builtin.append_,run_underlying ht,run_underlying hu,sizeOf,typeInfo,hi,hs1,Builtin.lenOf,hroom,hfc,Addr.add_lit,hst]
theorem Gf {T T2 e:Nat} [ts:K8 P T e 1] [tz:Fi P e] [tb:M1 P e 1] [tu:S9 P T2] {i ver len:Nat} {l s:List UInt8} (hx:F1 σ x = some (.row i ver len)) (hb:B3 σ.hp i = some (.row (L9 + e) 1 ver (H5 l))) (hy:F1 σ y = some (.str s)) (h0:l ≠ [])
  (he:e < F8) (hlen:len + s.length ≤ 140737488355328) (hd:Nat.blt d n = true)
  (k:B8 P E n ops rest ((σ.set i (.row (L9 + e) 1 (ver + 1) (H5 l ++ H5 s))).put d (.row i (ver + 1) (len + s.length))) K) :
  B8 P E n ops (⟨some d, .call ⟨.builtin .append, #[x,y], #[T,T2]⟩,ty,pos,after,none⟩ :: rest) σ K:=by
 intro a w ⟨θ,hs⟩
 obtain ⟨hl,hv,hnx⟩:=T8 (hs.evT.rel hx) hb
 have h:=hs.evT
 obtain ⟨hu,inf,hi,hsz⟩:=ts.out
 obtain ⟨i2,hi2,hzv⟩:=tz.out
 obtain ⟨i3,hi3,hby⟩:=tb.out
 rw [hi] at hi2 hi3
 cases hi2;cases hi3
 obtain ⟨xs,hown,hszl,hr⟩:=h.row hb
 have hyv:=(h.rel hy).sval
 subst hl
 have hbl:(H5 l).length = l.length:=by simp [H5]
 have hbs:(H5 s).length = s.length:=by simp [H5]
 have hs8:(ByteArray.mk s.toArray).size = s.length:=by simp [ByteArray.size]
 have hl0:0 < l.length:=List.length_pos_iff.2 h0
 rw [hbl] at hlen k
 obtain ⟨f1,f2,f3⟩:=Hw he
 rcases hown.2 with ⟨_,hn⟩ | ⟨g,cap,cur,hθ,hfz,hg,hc1,hc2,hc3,hc4⟩
 ·rw [hbl] at hn;omega
 ·obtain ⟨fz,hgg⟩:=hg.fz he
  have hf2:=hfz (Nat.le_add_right _ _) f2 cur e fz hgg
  rw [hbl,Nat.mul_one] at hf2 hc4
  rw [hbl] at hc1 hθ
  rw [Nat.mul_one] at hc3
  have hθ':θ i = .slice (some ⟨g,0,none⟩) l.length cap:=hθ
  have hv':a.eval x = .slice (some ⟨g,0,none⟩) l.length cap:=hv.trans hθ
  have hlt:g < w.heap.size:=(Array.getElem?_eq_some_iff.1 hgg).1
  have hxl:xs.length = l.length:=by have:=hown.1;rw [hbl,Nat.mul_one] at this;exact this
  -- what the append leaves
  obtain ⟨v',w',hrun,hw1,hw2,hw3,hw4,hw5,hfp,hown'⟩:∃ v' w',(Builtin.append_ #[T,T2] ty #[.slice (some ⟨g,0,none⟩) l.length cap, .string ⟨s.toArray⟩]).run P w = .ok v' w' ∧ w'.os = w.os ∧ w'.tape = w.tape ∧ w'.output = w.output ∧ w.heap.size ≤ w'.heap.size ∧
    (∀ k,k < w.heap.size → k ≠ g → w'.heap[k]? = w.heap[k]?) ∧ (∀ k,fp v' = some k → k = g ∨ w.heap.size ≤ k) ∧ N9 w' (L9 + e) 1 v' (l.length + s.length) (xs ++ Lib.strCells ⟨s.toArray⟩):=by
   by_cases hroom:l.length + s.length ≤ cap
   ·have hr1:=Ge (P:=P) (tt:=ty) hu tu.out hi hsz (w:=w) g l.length cap cur fz hgg hf2 ⟨s.toArray⟩ (by rw [hs8];exact hroom) (by rw [hs8];omega)
    obtain ⟨q1,q2,q3,q4,q5,q6⟩:=EF (Lib.strCells ⟨s.toArray⟩) l.length w cur hgg (by rw [Lib.strCells_length,hs8];omega)
    rw [Lib.strCells_length,hs8] at q1
    rw [hs8] at hr1
    refine ⟨_,_,hr1,q4,q5,q6,by rw [q3];exact Nat.le_refl _,fun k _ hk=>q2 k hk,fun k hk=>.inl (by simp [fp] at hk;exact hk.symm),?_, .inr ⟨g,cap,_,rfl,fun _ _ cur2 t2 fz2 hc=>?_, .mk_fz q1 he,hroom,hc2,?_,?_⟩⟩
    ·rw [List.length_append,hxl,Lib.strCells_length,hs8];omega
    ·rw [q1] at hc;cases hc;omega
    ·have hcl:cur.toList.length = cap:=by simpa using hc3
     simp only [List.size_toArray,List.length_append,List.length_take,List.length_drop,Lib.strCells_length,hs8,hcl]
     omega
    ·rw [Nat.mul_one, ← hc4]
     have hcl:cur.toList.length = cap:=by simpa using hc3
     have h1:(cur.toList.take l.length ++ Lib.strCells ⟨s.toArray⟩).length = l.length + s.length:=by rw [List.length_append,List.length_take,Lib.strCells_length,hs8];omega
     rw [← h1,List.take_left]
   ·have holds:∀ (j:Nat) u,xs[j]? = some u → w.cell? ((⟨g,0,none⟩:Addr).add j) = some u:=by
     have:=hown
     rw [hθ'] at this
     exact this.cells (g:=g) rfl
    have hr2:=Lib.run_append_grow_string (P:=P) w T T2 ty e inf (.int .u8 0) hu tu.out hi hzv ⟨g,0,none⟩ l.length cap xs (by rw [hsz];omega) holds ⟨s.toArray⟩ (by rw [hs8];omega) (by rw [hs8];omega) (growslice_fits (by rw [hs8];omega) (by rw [hs8,hby];omega))
    have hcap:grownCap w (l.length + s.length) cap e ≤ maxLen:=grownCap_le_maxLen w _ cap e (by unfold maxLen;omega)
    have hge:=grownCap_ge w (l.length + s.length) cap e
    rw [hs8] at hr2
    have hcells:(Builtin.zeroCells (Value.int .u8 0).cells (grownCap w (l.length + s.length) cap e - (l.length + s.length))).size = grownCap w (l.length + s.length) cap e - (l.length + s.length):=by
     simp [Builtin.zeroCells,Value.cells]
    generalize Builtin.zeroCells (Value.int .u8 0).cells (grownCap w (l.length + s.length) cap e - (l.length + s.length)) = Z at hr2 hcells
    generalize grownCap w (l.length + s.length) cap e = cap' at hr2 hcells hcap hge
    refine ⟨_,_,hr2,rfl,rfl,rfl,(R0 w.drew _).size,fun k hk _=>heap_alloc_old w.drew _ hk,fun k hk=>.inr (by simp [fp] at hk;omega),?_, .inr ⟨w.heap.size,cap',_,rfl,fun _ _ cur2 t2 fz2 hc=>?_, .mk_fz (heap_alloc_new w.drew _) he,hge,hcap,?_,?_⟩⟩
    ·rw [List.length_append,hxl,Lib.strCells_length,hs8];omega
    ·have:=heap_alloc_new w.drew (.cells (xs.toArray ++ (Lib.strCells ⟨s.toArray⟩).toArray ++ Z) e)
     have hc':(w.drew.alloc (.cells (xs.toArray ++ (Lib.strCells ⟨s.toArray⟩).toArray ++ Z) e)).heap[w.drew.heap.size]? = some (.cells cur2 t2 fz2):=hc
     rw [this] at hc'
     cases hc'
     omega
    ·simp only [Array.size_append,List.size_toArray,hxl,Lib.strCells_length,hs8,hcells];omega
    ·rw [Nat.mul_one]
     have h1:(xs ++ Lib.strCells ⟨s.toArray⟩).length = l.length + s.length:=by rw [List.length_append,hxl,Lib.strCells_length,hs8]
     rw [Array.toList_append,Array.toList_append, ← h1,List.take_left]
  unfold wpList
  rw [if_pos (by simp [Region.wanted])]
  left
  have hex:(execOp a.eval ⟨some d, .call ⟨.builtin .append, #[x,y], #[T,T2]⟩,ty,pos,after,none⟩).run P w = .ok (.value v') w':=by
   rw [O9,hv',hyv]
   simp [builtin,hrun,Sem.run_bind,Sem.run_pure]
  simp only [Oper.wp,hex,Oper.upon]
  have hsh:∃ x m c,θ i = .slice x m c:=⟨_,_,_,hθ'⟩
  have ht:=hs.turn (hkp:=fun _ _ _ _ h hk _=>by cases h;rw [f3] at hk;cases hk) (hne:=fun h=>by rw [H7 f2] at h;cases h) (b':=.row (L9 + e) 1 (ver + 1) (H5 l ++ H5 s)) (v':=v') (w':=w') hb hw1 hw2 hw3 hw4 (fun k hk hne=>hw5 k hk fun e2=>hne (by rw [hθ',e2];rfl)) (fun k hk=>by
    rcases hfp k hk with rfl | h2
    ·exact .inl (by rw [hθ'];rfl)
    ·exact .inr h2) ⟨hsh,L9 + e,ver,H5 l,rfl, .inl (Nat.lt_succ_self _)⟩ (fun le=>by
   refine ⟨xs ++ Lib.strCells ⟨s.toArray⟩,by simp only [cx,D4];rw [List.length_append,hbl,hbs];exact hown',fun el hel=>?_,fun k el hk j u hu=>?_, .lt f2⟩
   ·rcases List.mem_append.1 hel with h1 | h1
    ·exact hszl el h1
    ·obtain ⟨b,_,rfl⟩:=List.mem_map.1 h1
     rfl
   ·obtain ⟨y',hy',him⟩:=EO (R:=Im (cx E θ σ w).U w) hown.1 hr IW k el hk j u hu
    exact ⟨y',hy',him.mono le.heap le.U⟩)
  refine k _ _ ⟨_,ht.put (Nat.blt_eq ▸ hd) ?_⟩
  refine .row _ _ _ _ hnx fun e' sz' v2 l2 hl2=>?_
  simp only [cx,St.set,F2,if_pos] at hl2
  cases hl2
  exact ⟨Nat.le_refl _,fun _=>⟨by rw [List.length_append,hbl,hbs],by simp [cx,D4]⟩⟩
theorem J5.mine {w:World} {g e F:Nat} {cur:Array Value} (h:J5 w g cur (F + e)) (he:e < F8) (hF:F = 0 ∨ F = L9):∃ fz,w.heap[g]? = Option.some (.cells cur e fz) ∧ (F = 0 → fz = (0,0)):=by
 rcases hF with rfl | rfl
 ·rw [Nat.zero_add] at h
  rcases h with ⟨_,h⟩ | ⟨h,_⟩ | ⟨h,_⟩ | ⟨h,_⟩
  ·exact ⟨_,h,fun _=>rfl⟩
  ·omega
  ·unfold F8 at he;unfold E9 at h;omega
  ·rw [AG (X2 he)] at h;cases h
 ·obtain ⟨fz,h⟩:=h.fz he
  exact ⟨fz,h,fun h=>by unfold L9 at h;omega⟩
theorem Jp {i ver e m F:Nat} {T T2:Nat} {s:List UInt8} (hx:F1 σ x = some (.elt i ver 0 0)) (hy:F1 σ y = some (.i m)) (hb:B3 σ.hp i = some (.row (F + e) 1 ver (H5 s))) (hF:F = 0 ∨ F = L9) (hm:s.length = m) (h0:s ≠ []) (hbe:e < F8)
  (ht:P.underlying T = some (.pointer e)) (hc:P.cellsOf e = 1) (hd:Nat.blt d n = true)
  (k:B8 P E n ops rest ((σ.set i (.row (L9 + e) 1 ver (H5 s))).put d (.str s)) K):U1 P E n ops ⟨some d, .call ⟨.builtin .unsafeString,⟨[x,y]⟩,⟨[T,T2]⟩⟩,ty,pos,after,none⟩ rest L σ K:=by
 refine ⟨?_⟩
 intro a w ⟨θ,hs⟩
 subst hm
 have h:=hs.evT
 obtain ⟨g,m,cap,hθ,hv,hnx⟩:=b8 (h.rel hx) hb
 have hyv:=(h.rel hy).val
 obtain ⟨xs,hown,hszl,hr⟩:=h.row hb
 obtain ⟨f1,f2,f3⟩:=Hw hbe
 have hbl:(H5 s).length = s.length:=by simp [H5]
 have hl0:0 < s.length:=List.length_pos_iff.2 h0
 rcases hown.2 with ⟨hn,_⟩ | ⟨g',cap',cur,hv',hfz,hg,hc1,hc2,hc3,hc4⟩
 ·rw [show (kx E θ σ.nx σ.hp w).θ i = θ i from rfl,hn] at hθ;cases hθ
 ·have hθ':θ i = .slice (some ⟨g,0,none⟩) m cap:=hθ
  rw [hθ'] at hv'
  cases hv'
  obtain ⟨fz,hgg,hz0⟩:=hg.mine hbe hF
  have hf2:fz.2 ≤ s.length:=by
   rcases hF with rfl | rfl
   ·rw [hz0 rfl];exact Nat.zero_le _
   ·have:=hfz (Nat.le_add_right _ _) f2 cur e fz hgg
    rwa [hbl,Nat.mul_one] at this
  rw [hbl,Nat.mul_one] at hc4
  rw [hbl] at hc1
  rw [Nat.mul_one] at hc3
  have hcell:∀ (j:Nat) z,s[j]? = some z → w.cell? ((⟨g,0,none⟩:Addr).add j) = some (.int .u8 z.toNat):=by
   intro j z hz
   obtain ⟨y',hy',him⟩:=hr j [.v (.int .u8 z.toNat)] (by simp [H5,hz]) 0 _ rfl
   cases him
   have hown':=hown
   rw [hθ'] at hown'
   exact hown'.cells (g:=g) rfl j _ (by simpa using hy')
  have hsl:s.length ≤ cur.size:=by omega
  have hrun:=Lib.run_unsafeString_row (P:=P) w T T2 ty e ht hc g cur.size (by simp [World.shape?,hgg]) s h0 hsl (by unfold maxLen at hc2;omega) hcell
  have hex:(execOp a.eval ⟨some d, .call ⟨.builtin .unsafeString, #[x,y], #[T,T2]⟩,ty,pos,after,none⟩).run P w = .ok (.value (.string ⟨s.toArray⟩)) (w.freeze ⟨g,0,none⟩ s.length):=by
   rw [O9,hv,hyv]
   simp only [Nat.zero_mul,Nat.add_zero]
   simp [builtin,hrun,Sem.run_bind,Sem.run_pure]
  unfold wpList
  rw [if_pos (by simp [Region.wanted])]
  left
  have hlt:g < w.heap.size:=(Array.getElem?_eq_some_iff.1 hgg).1
  have hf:=Lib.below_freeze (B:=g) (Below.refl g w) (p:=⟨g,0,none⟩) (Nat.le_refl _) s.length
  have hfzo:∀ k,k ≠ g → (w.freeze ⟨g,0,none⟩ s.length).heap[k]? = w.heap[k]?:=by
   intro k hk
   unfold World.freeze
   split
   ·rfl
   ·simp only [Array.getElem?_modify]
    rw [if_neg (fun e=>hk e.symm)]
  obtain ⟨fz',hgg',hfz'⟩:∃ fz',(w.freeze ⟨g,0,none⟩ s.length).heap[g]? = some (.cells cur e fz') ∧ fz'.2 ≤ s.length:=by
   unfold World.freeze
   rw [if_neg (by omega)]
   simp only [Array.getElem?_modify,if_pos,hgg,Option.map_some]
   obtain ⟨lo,hi⟩:=fz
   dsimp only at hf2 ⊢
   by_cases e1:(lo == hi) = true
   ·exact ⟨_,by rw [if_pos e1],by omega⟩
   ·exact ⟨_,by rw [if_neg e1],by dsimp only;omega⟩
  simp only [Oper.wp,hex,Oper.upon]
  have ht2:=hs.turn (hkp:=fun _ _ _ _ h hk _=>by cases h;rw [f3] at hk;cases hk) (hne:=fun h=>by rw [H7 f2] at h;cases h) (b':=.row (L9 + e) 1 ver (H5 s)) (v':=θ i) (w':=w.freeze ⟨g,0,none⟩ s.length) hb hf.os hf.tape hf.output hf.size (fun k _ hne=>hfzo k fun e=>hne (by rw [hθ',e];rfl)) (fun k hk=>.inl hk)
   ⟨⟨_,_,_,hθ'⟩,F + e,ver,_,rfl, .inr ⟨rfl,rfl,rfl⟩⟩ (fun le=>by
    refine ⟨xs,?_,hszl,fun k el hk j u hu=>?_, .lt f2⟩
    ·simp only [cx,D4]
     refine ⟨hown.1, .inr ⟨g,cap,cur,by rw [hθ',hbl],fun _ _ cur2 t2 fz2 hc5=>?_, .mk_fz hgg' hbe,by rw [hbl];exact hc1,hc2,by omega,by rw [hbl,Nat.mul_one];exact hc4⟩⟩
     rw [hgg'] at hc5
     cases hc5
     rw [hbl];omega
    ·obtain ⟨z,hz,hi⟩:=hr k el hk j u hu
     exact ⟨z,hz,hi.mono le.heap le.U⟩)
  exact k _ _ ⟨_,ht2.put (Nat.blt_eq ▸ hd) (.im (.str _))⟩
end rules
end Go.Av
