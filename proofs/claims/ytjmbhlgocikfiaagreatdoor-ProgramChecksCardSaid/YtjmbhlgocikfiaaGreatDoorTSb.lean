/- Chapter 16: the text of a right expression. -/
import Derived.Test.YtjmbhlgocikfiaaGreatDoorTPt2
import Derived.Test.YtjmbhlgocikfiaaGreatDoorTE3
import Derived.Lib.Builder
import Derived.Lib.UnsafeStr
import Derived.Test.YtjmbhlgocikfiaaGreatDoorTAvTy
import Derived.Test.YtjmbhlgocikfiaaGreatDoorTSh
set_option linter.unusedVariables false
set_option linter.unnecessarySimpa false
set_option linter.unusedSimpArgs false
namespace Go.Proofs.YtjmbhlgocikfiaaGreatDoor
open Go Go.Av
attribute [local irreducible] AWp AOps AAny MAny DQ retQ retG St.le FCall GCall
set_option maxRecDepth 100000
theorem ptext_call (s:Sch) (hr:schE s = 0) (e:Xpr):rigS s e = true → totS (treeX e) ≤ 100 → FCall Tryz.prog 35 [sA s,xprA e] (.str (txtX s e)):=by
 refine xpr_ind (p:=fun e=>rigS s e = true → totS (treeX e) ≤ 100 → FCall Tryz.prog 35 [sA s,xprA e] (.str (txtX s e))) (fun e ih h ht=>?_) e
 have hg:=rig_parts h
 have hop:=hg.op
 by_cases h12:e.op = 1 ∨ e.op = 2
 ·exact text_leaf s e hg h12
 by_cases h3:6 ≤ e.op ∧ e.op ≤ 9
 ·obtain ⟨x,y,hk⟩:=xkids_two (hg.pair h3)
  have htt:=totS_eq (treeX e)
  rw [tree_kids,hk] at htt
  have h2:totL [treeX x,treeX y] = totS (treeX x) + totS (treeX y):=by
   show totS (treeX x) + (totS (treeX y) + 0) = _
   omega
  rw [show List.map treeX [x,y] = [treeX x,treeX y] from rfl,h2] at htt
  have rx:=(hg.kid x (by rw [hk];simp)).2
  have ry:=(hg.kid y (by rw [hk];simp)).2
  have lx:=txtX_len hr x rx
  have ly:=txtX_len hr y ry
  have:=text_pair s e h3 x y hk _ _ (ih x (by rw [hk];simp) rx (by omega)) (ih y (by rw [hk];simp) ry (by omega)) (by omega) (by omega)
  rw [txtX_eq,if_neg (by omega),if_neg (by omega),if_pos h3,hk]
  exact this
 obtain ⟨_,_,q2,q3,q4⟩:=rig_call hr hg (by omega) (by omega) h3
 have hj:=prtJ_len hr hg (by omega) (by omega) h3
 have hw:=word16_call e.op
 have lw:=wrdX_len e.op
 have hc:=cond16_call s e.cnd q4
 have hln:=hg.lens
 rw [txtX_eq,if_neg (by omega),if_neg (by omega),if_neg h3]
 unfold hdOk at q2
 unfold mdOk at q3
 unfold prtX at hj ⊢
 by_cases o3:e.op = 3
 ·rw [if_pos o3] at q2 hj ⊢
  exact text_cnt s e o3 q2.2 _ _ hw lw hc hj
 rw [if_neg o3] at q2 hj ⊢
 have hcol:e.col < s.cols.length:=by
  by_cases o10:e.op = 10
  ·rw [if_pos o10] at q2
   have:=schE_pos hr
   rcases q2.2.2 with h | h <;> omega
  ·rw [if_neg o10] at q2
   exact q2.1.2
 have hn:=name16_call s e.col hcol
 by_cases o10:e.op = 10
 ·rw [if_pos o10] at q2 hj ⊢
  exact text_tab s e o10 hln.1 hr q2.2.1 _ rfl (dimTs_len hr hln.1 q2.2.1) _ hn _ _ hw lw hc hj
 rw [if_neg o10] at q2 hj ⊢
 by_cases o11:e.op = 11
 ·rw [if_pos o11] at q3 hj ⊢
  exact text_mod s e o11 q2.2 hln.2.1 (fun c hc=>(q3.2.2.2 c hc).2) _ rfl (by have:=nmDs_len hr hln.2.1;omega) _ hn _ _ hw lw hc hj
 rw [if_neg o11] at q3 hj ⊢
 by_cases o12:e.op = 12
 ·rw [if_pos o12] at q3 hj ⊢
  exact text_cur s e o12 q2.2 _ hn _ (cond16_call s e.evt q3.2.2) _ _ hw lw hc hj
 rw [if_neg o12] at q3 hj ⊢
 by_cases o13:e.op = 13
 ·rw [if_pos o13] at q3 hj ⊢
  exact text_his s e o13 q2.2 q3.1 _ hn _ _ hw lw hc hj
 rw [if_neg o13] at hj ⊢
 exact text_one s e (by omega) q2.2 _ hn _ _ hw lw hc hj
end Go.Proofs.YtjmbhlgocikfiaaGreatDoor
namespace Go.Av
open Go Go.RowKit
section
variable {P:Program} {E:Env} {n:Nat} {ops:Array Oper} {rest:List Oper} {σ:St} {K:St → Prop} {d:Nat} {ty:TypeId} {pos:String} {after:Array Edge} {x y:Operand} {L:List AV}
theorem aops_allocT {T:TypeId} {l:List Value} [tz:TZero P T l] (hd:Nat.blt d n = true)
  (k:AOps P E n ops rest ((σ.new (.bx (T + 1) (l.map ofV))).put d (.ref σ.nx 0)) K):AOps P E n ops (⟨some d, .alloc T,ty,pos,after,none⟩ :: rest) σ K :=
 aops_new hd (fun θ a w h=>by
  obtain ⟨i,z,h1,h2,h3⟩:=tz.out
  refine ⟨.pointer (some ⟨w.heap.size,0,none⟩), .pointer (some ⟨w.heap.size,0,none⟩),w.alloc (.cells l.toArray T),by simp [execOp,Instr.alloc,newVar,Sem.run_bind,run_zeroValue h1 h2,h3,run_newRow],below_alloc _ _,fp_new,fun le=>?_⟩
  refine ⟨⟨w.heap.size,l.toArray,⟨T, .inr rfl⟩,by simp [cx,upd_self],heap_alloc_new w _,by simp,fun j u z hu hz=>?_⟩, .ref _ _ _ (by simp [cx,St.new]) (by simp [cx,upd_self])⟩
  simp at hu hz
  obtain ⟨v,hv,rfl⟩:=hu
  rw [hz] at hv
  cases hv
  exact .im (ofV_im _)) k
theorem ncall_usd {i ver len e:Nat} {T:Nat} {l:List (List AV)} (hx:evO σ x = some (.row i ver len)) (hb:lookB σ.hp i = some (.row e 1 ver l)) (h0:l ≠ []) (hd:Nat.blt d n = true)
  (k:AOps P E n ops rest (σ.put d (.elt i ver 0 0)) K):NCallP P E n ops ⟨some d, .call ⟨.builtin .unsafeSliceData,⟨[x]⟩,⟨[T]⟩⟩,ty,pos,after,none⟩ rest L σ K :=
 ⟨aops_q (q_pure fun _ _ _ θ a w h=>by
  obtain ⟨hl,hv,hnx⟩:=row_inv (h.rel hx) hb
  obtain ⟨xs,hown,_⟩:=h.row hb
  rcases hown.2 with ⟨_,hn⟩ | ⟨g,cap,cur,hθ,_,_,hc,_⟩
  ·exact absurd (List.eq_nil_of_length_eq_zero hn) h0
  ·have hpos:0 < l.length:=List.length_pos_iff.2 h0
   refine ⟨.pointer (some ⟨g,0,none⟩),?_, .elt i ver 0 0 _ hnx fun e2 sz2 v2 l2 hl2=>?_⟩
   ·rw [run_builtin1,hv,show (kx E θ σ.nx σ.hp w).θ i = θ i from rfl,hθ]
    simp [builtin,Lib.run_unsafeSliceData_row w _ _ _ _ _ (by omega:cap ≠ 0),Sem.run_bind,Sem.run_pure]
   ·have:lookB σ.hp i = some (.row e2 sz2 v2 l2):=hl2
    rw [hb] at this
    cases this
    exact ⟨Nat.le_refl _,fun _=>⟨g,_,cap,hθ,by simp⟩⟩) hd k⟩
theorem ncall_us {i ver e m:Nat} {T T2:Nat} {s:List UInt8} (hx:evO σ x = some (.elt i ver 0 0)) (hy:evO σ y = some (.i m)) (hb:lookB σ.hp i = some (.row e 1 ver (byt s))) (hm:s.length = m) (h0:s ≠ []) (hbe:e < bigE)
  (ht:P.underlying T = some (.pointer e)) (hc:P.cellsOf e = 1) (hd:Nat.blt d n = true)
  (k:AOps P E n ops rest ((σ.set i (.row e 1 (ver + 1) [])).put d (.str s)) K):NCallP P E n ops ⟨some d, .call ⟨.builtin .unsafeString,⟨[x,y]⟩,⟨[T,T2]⟩⟩,ty,pos,after,none⟩ rest L σ K:=by
 refine ⟨?_⟩
 intro a w ⟨θ,hs⟩
 subst hm
 have h:=hs.evT
 obtain ⟨g,m,cap,hθ,hv,hnx⟩:=elt_inv (h.rel hx) hb
 have hyv:=(h.rel hy).val
 obtain ⟨xs,hown0,_,hr⟩:=h.row hb
 have hown:=hown0.row hbe
 rcases hown.2 with ⟨hn,_⟩ | ⟨g',cap',cur,hv',_,hg,hc1,hc2,hc3,hc4⟩
 ·rw [show (kx E θ σ.nx σ.hp w).θ i = θ i from rfl] at *
  rw [hn] at hθ;cases hθ
 ·have hθ':θ i = .slice (some ⟨g,0,none⟩) m cap:=hθ
  rw [hθ'] at hv'
  cases hv'
  have hbl:(byt s).length = s.length:=by simp [byt]
  have hcell:∀ (j:Nat) z,s[j]? = some z → w.cell? ((⟨g,0,none⟩:Addr).add j) = some (.int .u8 z.toNat):=by
   intro j z hz
   obtain ⟨y',hy',him⟩:=hr j [.v (.int .u8 z.toNat)] (by simp [byt,hz]) 0 _ rfl
   cases him
   have hown':=hown
   rw [hθ'] at hown'
   exact hown'.cells (g:=g) rfl j _ (by simpa using hy')
  have hsl:s.length ≤ cur.size:=by rw [hc3];omega
  have hrun:=Lib.run_unsafeString_row (P:=P) w T T2 ty e ht hc g cur.size (by simp [World.shape?,hg]) s h0 hsl (by unfold maxLen at hc2;omega) hcell
  have hex:(execOp a.eval ⟨some d, .call ⟨.builtin .unsafeString, #[x,y], #[T,T2]⟩,ty,pos,after,none⟩).run P w = .ok (.value (.string ⟨s.toArray⟩)) (w.freeze ⟨g,0,none⟩ s.length):=by
   rw [run_builtin2,hv,hyv]
   simp only [Nat.zero_mul,Nat.add_zero]
   simp [builtin,hrun,Sem.run_bind,Sem.run_pure]
  unfold wpList
  rw [if_pos (by simp [Region.wanted])]
  left
  have hlt:g < w.heap.size:=(Array.getElem?_eq_some_iff.1 hg).1
  have hf:=Lib.below_freeze (B:=g) (Below.refl g w) (p:=⟨g,0,none⟩) (Nat.le_refl _) s.length
  have hfz:∀ k,k ≠ g → (w.freeze ⟨g,0,none⟩ s.length).heap[k]? = w.heap[k]?:=by
   intro k hk
   unfold World.freeze
   split
   ·rfl
   ·simp only [Array.getElem?_modify]
    rw [if_neg (fun e=>hk e.symm)]
  simp only [Oper.wp,hex,Oper.upon]
  have ht2:=hs.turn (hkp:=fun _ _ _ _ h hk _=>by cases h;unfold bigE at hbe;unfold keepE at hk;omega) (b':=.row e 1 (ver + 1) []) (v':=.slice none 0 0) (w':=w.freeze ⟨g,0,none⟩ s.length) hb hf.os hf.tape hf.output hf.size (fun k _ hne=>hfz k fun e=>hne (by rw [hθ',e];rfl)) (fun k hk=>by cases hk)
   ⟨⟨_,_,_,hθ'⟩,e,ver,_,rfl, .inl (Nat.lt_succ_self _)⟩ (fun le=>⟨[],⟨by simp, .inl ⟨by simp [cx,upd_self],rfl⟩⟩,(fun el hel=>by cases hel),fun k el hk=>by simp at hk⟩)
  exact k _ _ ⟨_,ht2.put (Nat.blt_eq ▸ hd) (.im (.str _))⟩
end
end Go.Av
namespace Go.Proofs.YtjmbhlgocikfiaaGreatDoor
open Go Go.Av Go.RowKit Go.Shelf
set_option maxRecDepth 100000
abbrev bB:Nat:=83 + 1
abbrev eB:Nat:=5
abbrev bld0:Blk:=.bx bB [.v (.pointer none), .v (.slice none 0 0)]
abbrev bld1 (ver len:Nat):Blk:=.bx bB [.ref 0 0, .row 1 ver len]
theorem TU8.of {P:Program} {T:Nat} (h:(P.info? T).bind (·.zero) = some (.int .u8 0)):TU8 P T:=by
 cases hi:P.info? T with
 | none=>simp [hi] at h
 | some i=>simp [hi] at h;exact ⟨i,hi,h⟩
instance:TU8 Tryz.prog 5:=TU8.of (by kernel_rfl)
theorem cc240:Lays.n240 Tryz.prog Tryz.lays156_ren :=
 have L:=Tryz.lays156
 { mixed:=L.mixed,f240:=L.f240,f276:=L.f276,t0:=L.t0,a0:=L.a0,z0:=L.z0,v0:=L.v0,t4:=L.t4,a4:=L.a4,z4:=L.z4,v4:=L.v4,t9:=L.t9,a9:=L.a9,z9:=L.z9,v9:=L.v9,t20:=L.t20,a20:=L.a20,z20:=L.z20,v20:=L.v20,t70:=L.t70,a70:=L.a70,z70:=L.z70,v70:=L.v70,t72:=L.t72,a72:=L.a72,z72:=L.z72,v72:=L.v72,t164:=L.t164,a164:=L.a164,z164:=L.z164,v164:=L.v164 }
theorem byt_app (t s:List UInt8):byt (t ++ s) = byt t ++ byt s:=List.map_append
theorem look1 {i:Nat} {x b:Blk} (h:lookB [(0,some x)] i = some b):i = 0 ∧ b = x:=by
 rw [lookB_cons] at h
 split at h
 ·rename_i e;cases h;exact ⟨e.symm,rfl⟩
 ·cases h
theorem cc_fresh:GCall Tryz.prog 70 1 [(0,some bld0)] [.ref 0 0] 1 [(0,some (.bx bB [.ref 0 0, .v (.slice none 0 0)]))] (.tup []):=by
 refine ⟨⟨Tryz.f70,Tryz.func70,by kernel_rfl,by kernel_rfl⟩,fun X θ w vs hX htb hB hl hv=>?_⟩
 match vs,hl with
 | [v],_ =>
  obtain ⟨b,hθ,rfl,_⟩:=ref_inv (hv 0 _ v rfl rfl)
  obtain ⟨_,b',arr,⟨t,ht⟩,hθ',hh,hsz,hr⟩:=hB.owns 0 _ rfl
  have hbb:b' = b:=by
   have h1:θ 0 = .pointer (some ⟨b',0,none⟩):=hθ'
   have h2:θ 0 = .pointer (some ⟨b,0,none⟩):=hθ
   rw [h1] at h2;cases h2;rfl
  subst hbb
  have ht2:t = 83:=by unfold bB at ht;omega
  subst ht2
  have hs2:arr.size = 2:=hsz
  have h0:=(hr 0 _ arr[0] rfl (Array.getElem?_eq_getElem (by omega))).val
  have h1:=(hr 1 _ arr[1] rfl (Array.getElem?_eq_getElem (by omega))).val
  have harr:arr = #[.pointer none, .slice none 0 0]:=by
   apply Array.ext
   ·exact hs2
   ·intro i hi hi2
    match i,hi2 with
    | 0,_=>exact h0
    | 1,_=>exact h1
  subst harr
  have hlt:b' < w.heap.size:=(Array.getElem?_eq_some_iff.1 hh).1
  refine Calls.mono (Any.Builder_copyCheck_fresh cc240 Tryz.Builder_Extra_156.toX72 b' w (by simp [World.cell?,hh]) (by simp [World.shape?,hh];rfl) (by simp [World.frozen?,hh])) ?_
  rintro e w' ⟨rfl,rfl⟩
  have hh2:(w.setCell ⟨b',0,none⟩ (.pointer (some ⟨b',0,none⟩))).heap[b']? = some (.cells #[.pointer (some ⟨b',0,none⟩), .slice none 0 0] 83 (0,0)):=by
   simp [World.setCell,Array.getElem?_modify,hh]
  have hk:∀ k,k ≠ b' → (w.setCell ⟨b',0,none⟩ (.pointer (some ⟨b',0,none⟩))).heap[k]? = w.heap[k]?:=fun k hk=>Below.heap_setCell _ _ _ _ (fun e=>hk e)
  have hθ0:θ 0 = .pointer (some ⟨b',0,none⟩):=hθ
  refine ⟨⟨_,θ,rfl, .tup [] [] rfl (fun j x y hx=>by cases hx),⟨fun i b hi=>?_,fun i j b1 b2 k hi hj _ _=>?_,fun i b k hi hk=>?_⟩,fun i b k hi hk=>?_,fun i _=>.inl rfl⟩,rfl,rfl,rfl,by simp [World.setCell],fun k hkl hno=>hk k fun e=>hno ⟨0,_,rfl,by rw [hθ0,e];rfl⟩⟩
  ·obtain ⟨rfl,rfl⟩:=look1 hi
   refine ⟨Nat.one_pos,b',_,⟨83, .inr rfl⟩,hθ,hh2,rfl,fun j x y hx hy=>?_⟩
   match j,hx,hy with
   | 0,hx,hy=>cases hx;cases hy;exact .ref 0 0 b' Nat.one_pos hθ
   | 1,hx,hy=>cases hx;cases hy;exact .im (.v _)
  ·rw [(look1 hi).1,(look1 hj).1]
  ·obtain ⟨rfl,_⟩:=look1 hi
   exact hB.fresh 0 _ k rfl hk
  ·obtain ⟨rfl,_⟩:=look1 hi
   exact .inl ⟨0,_,rfl,hk⟩
theorem cc_used (e len:Nat) (l:List (List AV)):GCall Tryz.prog 70 2 [(0,some (bld1 0 len)),(1,some (.row e 1 0 l))] [.ref 0 0] 2 [(0,some (bld1 0 len)),(1,some (.row e 1 0 l))] (.tup []):=by
 refine ⟨⟨Tryz.f70,Tryz.func70,by kernel_rfl,by kernel_rfl⟩,fun X θ w vs hX htb hB hl hv=>?_⟩
 match vs,hl with
 | [v],_ =>
  obtain ⟨b,hθ,rfl,_⟩:=ref_inv (hv 0 _ v rfl rfl)
  obtain ⟨_,b',arr,⟨t,ht⟩,hθ',hh,hsz,hr⟩:=hB.owns 0 _ rfl
  have hbb:b' = b:=by
   have h1:θ 0 = .pointer (some ⟨b',0,none⟩):=hθ'
   have h2:θ 0 = .pointer (some ⟨b,0,none⟩):=hθ
   rw [h1] at h2;cases h2;rfl
  subst hbb
  have hs2:arr.size = 2:=hsz
  obtain ⟨b2,hθ2,h0,_⟩:=ref_inv (hr 0 _ arr[0] rfl (Array.getElem?_eq_getElem (by omega)))
  have hbb:b2 = b':=by
   have h1:θ 0 = .pointer (some ⟨b',0,none⟩):=hθ'
   have h2:θ 0 = .pointer (some ⟨b2,0,none⟩):=hθ2
   rw [h1] at h2;cases h2;rfl
  subst hbb
  refine Calls.mono (Any.Builder_copyCheck_used cc240 Tryz.Builder_Extra_156.toX72 b2 w (by simp [World.cell?,hh,h0,Array.getElem?_eq_getElem (show 0 < arr.size by omega)])) ?_
  rintro e w' ⟨rfl,rfl⟩
  exact ⟨⟨_,θ,rfl, .tup [] [] rfl (fun j x y hx=>by cases hx),hB,fun i b k hi hk=>.inl ⟨i,b,hi,hk⟩,fun i _=>.inl rfl⟩,rfl,rfl,rfl,Nat.le_refl _,fun k _ _=>rfl⟩
theorem no_one {i:Nat} {b:Blk} (h:lookB [(0,none)] i = some b):False:=by
 rw [lookB_cons] at h
 split at h
 ·cases h
 ·cases h
theorem bl_str0:GCall Tryz.prog 37 1 [(0,some bld0)] [.ref 0 0] 1 [(0,none)] (.str []):=by
 refine ⟨⟨Tryz.f37,Tryz.func37,by kernel_rfl,by kernel_rfl⟩,fun X θ w vs hX htb hB hl hv=>?_⟩
 match vs,hl with
 | [v],_ =>
  obtain ⟨b,hθ,rfl,_⟩:=ref_inv (hv 0 _ v rfl rfl)
  obtain ⟨_,b',arr,⟨t,ht⟩,hθ',hh,hsz,hr⟩:=hB.owns 0 _ rfl
  have hbb:b' = b:=by
   have h1:θ 0 = .pointer (some ⟨b',0,none⟩):=hθ'
   have h2:θ 0 = .pointer (some ⟨b,0,none⟩):=hθ
   rw [h1] at h2;cases h2;rfl
  subst hbb
  have ht2:t = 83:=by unfold bB at ht;omega
  subst ht2
  have hs2:arr.size = 2:=hsz
  have h0:=(hr 0 _ arr[0] rfl (Array.getElem?_eq_getElem (by omega))).val
  have h1:=(hr 1 _ arr[1] rfl (Array.getElem?_eq_getElem (by omega))).val
  have harr:arr = #[.pointer none, .slice none 0 0]:=by
   apply Array.ext
   ·exact hs2
   ·intro i hi hi2
    match i,hi2 with
    | 0,_=>exact h0
    | 1,_=>exact h1
  subst harr
  refine Calls.mono (Any.Builder_String_nil Tryz.lays169 Tryz.Builder_Extra_169 w.heap.size b' (.pointer none) w hh) ?_
  rintro e w' ⟨rfl,hb⟩
  refine ⟨⟨_,θ,rfl, .im (.str []),⟨fun i b hi=>(no_one hi).elim,fun i j b1 b2 k hi=>(no_one hi).elim,fun i b k hi=>(no_one hi).elim⟩,fun i b k hi=>(no_one hi).elim,fun i _=>.inl rfl⟩,hb.os,hb.tape,hb.output,hb.size,fun k hk _=>hb.block k hk⟩
end Go.Proofs.YtjmbhlgocikfiaaGreatDoor
namespace Go.Proofs.YtjmbhlgocikfiaaGreatDoor
open Go Go.Av
attribute [local irreducible] AWp AOps AAny MAny DQ retQ retG St.le FCall GCall
set_option maxRecDepth 100000
set_option maxHeartbeats 2000000 in
theorem ws_fresh (s:List UInt8) (hs:s.length ≤ 140737488355328):GCall Tryz.prog 34 1 [(0,some bld0)] [.ref 0 0, .str s] 2 [(0,some (bld1 1 s.length)),(1,some (.row eB 1 1 (byt s)))] (.tup [.i s.length, .v .nilIface]):=by
 refine gci Tryz.func34 19 fun E h0=>?_
 repeat' ((first|refine aops_go ?_|refine S1 ?_|refine Z1 ?_|refine Z2 ?_|(refine And.intro ?_ ?_<;>intro h<;>try first|(exfalso;omega)|exact absurd rfl h)|refine Z3 ?_|refine Z4 ?_|intro el hel hbB|intro el hel|intro ex|refine Z5 ?_|(refine free_i ?_ ?_;exact ⟨by kernel_rfl,by decide⟩)|refine allI_c ?_ ?_|exact allI_n|refine allMP_c ?_ ?_|exact allMP_n|(refine many_step ?_ ?_ ?_;kernel_rfl;kernel_rfl) | refine nc [0] [0] cc_fresh rfl rfl rfl ⟨rfl,trivial⟩ ?_) <;> (try (conv=>whnf)))
 all_goals first
  | exact retg_vs (rvs:=[.tmp 4, .tmp 5]) (vs:=[_,_]) trivial rfl rfl (le_of h0 rfl ⟨rfl,rfl,trivial⟩ ⟨congrArg (fun z=>Blk.bx bB [.ref 0 0, .row 1 1 z]) (by simp),⟨_,rfl⟩,trivial⟩ rfl rfl rfl) rfl
set_option maxHeartbeats 2000000 in
theorem ws_used (t s:List UInt8) (hs:t.length + s.length ≤ 140737488355328):GCall Tryz.prog 34 2 [(0,some (bld1 0 t.length)),(1,some (.row eB 1 0 (byt t)))] [.ref 0 0, .str s] 2 [(0,some (bld1 1 (t ++ s).length)),(1,some (.row eB 1 1 (byt (t ++ s))))] (.tup [.i s.length, .v .nilIface]):=by
 refine gci Tryz.func34 19 fun E h0=>?_
 have h1:=cc_used eB t.length (byt t)
 repeat' ((first|refine aops_go ?_|refine S1 ?_|refine Z1 ?_|refine Z2 ?_|(refine And.intro ?_ ?_<;>intro h<;>try first|(exfalso;omega)|exact absurd rfl h)|refine Z3 ?_|refine Z4 ?_|intro el hel hbB|intro el hel|intro ex|refine Z5 ?_|(refine free_i ?_ ?_;exact ⟨by kernel_rfl,by decide⟩)|refine allI_c ?_ ?_|exact allI_n|refine allMP_c ?_ ?_|exact allMP_n|(refine many_step ?_ ?_ ?_;kernel_rfl;kernel_rfl) | refine nc [0,1] [0,0] h1 rfl rfl rfl ⟨rfl,rfl,trivial⟩ ?_) <;> (try (conv=>whnf)))
 all_goals first
  | exact retg_vs (rvs:=[.tmp 4, .tmp 5]) (vs:=[_,_]) trivial rfl rfl (le_of h0 rfl ⟨rfl,rfl,trivial⟩ ⟨congrArg (fun z=>Blk.bx bB [.ref 0 0, .row 1 1 z]) (by simp),⟨_,by rw [byt_app]⟩,trivial⟩ rfl rfl rfl) rfl
theorem bl_len (e len:Nat) (l:List (List AV)):GCall Tryz.prog 36 2 [(0,some (bld1 0 len)),(1,some (.row e 1 0 l))] [.ref 0 0] 2 [(0,some (bld1 0 len)),(1,some (.row e 1 0 l))] (.i len):=by
 refine gci Tryz.func36 8 fun E h0=>?_
 repeat' ((first|refine aops_go ?_|refine S1 ?_|refine Z1 ?_|refine Z2 ?_|(refine And.intro ?_ ?_<;>intro h<;>try first|(exfalso;omega)|exact absurd rfl h)|refine Z3 ?_|refine Z4 ?_|intro el hel hbB|intro el hel|intro ex|refine Z5 ?_|(refine free_i ?_ ?_;exact ⟨by kernel_rfl,by decide⟩)|refine allI_c ?_ ?_|exact allI_n|refine allMP_c ?_ ?_|exact allMP_n|(refine many_step ?_ ?_ ?_;kernel_rfl;kernel_rfl)) <;> (try (conv=>whnf)))
 all_goals first
  | exact retg_tmp (le_of h0 rfl ⟨rfl,trivial⟩ ⟨rfl,⟨_,rfl⟩,trivial⟩ rfl rfl rfl)
theorem bl_len0:GCall Tryz.prog 36 1 [(0,some bld0)] [.ref 0 0] 1 [(0,some bld0)] (.i 0):=by
 refine gci Tryz.func36 8 fun E h0=>?_
 repeat' ((first|refine aops_go ?_|refine S1 ?_|refine Z1 ?_|refine Z2 ?_|(refine And.intro ?_ ?_<;>intro h<;>try first|(exfalso;omega)|exact absurd rfl h)|refine Z3 ?_|refine Z4 ?_|intro el hel hbB|intro el hel|intro ex|refine Z5 ?_|(refine free_i ?_ ?_;exact ⟨by kernel_rfl,by decide⟩)|refine allI_c ?_ ?_|exact allI_n|refine allMP_c ?_ ?_|exact allMP_n|(refine many_step ?_ ?_ ?_;kernel_rfl;kernel_rfl)) <;> (try (conv=>whnf)))
 all_goals first
  | exact retg_tmp (le_of h0 rfl ⟨rfl,trivial⟩ ⟨rfl,trivial⟩ rfl rfl rfl)
theorem bl_str (s:List UInt8) (h1:s ≠ []):GCall Tryz.prog 37 2 [(0,some (bld1 0 s.length)),(1,some (.row eB 1 0 (byt s)))] [.ref 0 0] 2 [(0,none),(1,none)] (.str s):=by
 have h2:byt s ≠ []:=fun h=>h1 (List.map_eq_nil_iff.1 h)
 refine gci Tryz.func37 14 fun E h0=>?_
 repeat' ((first | (refine draw_id 1 ?_;refine draw_e (id:=1) ⟨[(2, .str s)],2,[]⟩ ?_ ?_) |refine aops_go ?_|refine S1 ?_|refine Z1 ?_|refine Z2 ?_|(refine And.intro ?_ ?_<;>intro h<;>try first|(exfalso;omega)|exact absurd rfl h)|refine Z3 ?_|refine Z4 ?_|intro el hel hbB|intro el hel|intro ex|refine Z5 ?_|(refine free_i ?_ ?_;exact ⟨by kernel_rfl,by decide⟩)|refine allI_c ?_ ?_|exact allI_n|refine allMP_c ?_ ?_|exact allMP_n|(refine many_step ?_ ?_ ?_;kernel_rfl;kernel_rfl) | refine ncall_usd rfl rfl h2 rfl ?_ | refine ncall_us rfl rfl rfl rfl h1 (by decide) (by kernel_rfl) (by kernel_rfl) rfl ?_) <;> (try (conv=>whnf)))
 all_goals first
  | exact le_of h0 rfl ⟨rfl,trivial⟩ trivial rfl rfl rfl
  | exact retg_tmp (le_of h0 rfl ⟨rfl,trivial⟩ trivial rfl rfl rfl)
end Go.Proofs.YtjmbhlgocikfiaaGreatDoor
