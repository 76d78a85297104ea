/- An append where what was there before is still of use. -/
import Derived.Test.YtbhegmcbpolemaaDoorTE2
set_option linter.unusedSimpArgs false
set_option linter.unusedVariables false
set_option linter.unnecessarySimpa false
namespace Go.Av
open Go Go.RowKit
section rules
variable {P:Program} {E:Env} {n:Nat} {ops:Array Oper} {rest:List Oper} {σ:St} {K:St → Prop} {d:Nat} {ty:TypeId} {pos:String} {after:Array Edge} {x y:Operand}
theorem H0.reslot {θ:Th} {a:Act} {w:World} (h:H0 E n θ σ a w) (c:Nat) {av:AV} (hr:C5 (cx E θ σ w) av (a.tmps.getD c undef)):H0 E n θ (σ.put c av) a w where
 size:=h.size
 defers:=h.defers
 fr:=h.fr
 slots:=fun s x hx=>by
  have hx2:look ((c,av) :: σ.sl) s = some x:=hx
  rw [E3] at hx2
  split at hx2
  ·rename_i e;subst e;cases hx2;exact hr
  ·exact h.slots s x hx2
 owns:=h.owns
 apart:=h.apart
 mine:=h.mine
 X:=h.X
 base:=h.base
theorem DV {T tt e bytes:Nat} {i:TypeInfo} {z:Value} {size:Nat} (ht:P.underlying T = some (.slice e)) (hi:P.info? e = some i) (hz:i.zero = some z)
  (hsize:i.size = size) (hby:i.bytes = bytes) (hzs:z.cells.size = size) (hsz:0 < size) (w:World)
  (v:Value) (m:Nat) (xs:List Value) (hown:w.ownsRow 0 e size v m xs) (h0:0 < m)
  (a:Addr) (k c:Nat) (news:List Value) (hl:news.length = k * size) (hnews:∀ (j:Nat) u,news[j]? = some u → w.cell? (a.add j) = some u) (h1:∀ u ∈ news,u.oneCell' = true)
  (h63:m + k ≤ maxLen) (hbytes:(m + k) * bytes ≤ 140737488355328) :
  ∃ v' w',(Builtin.append_ #[T,T] tt #[v, .slice (some a) k c]).run P w = .ok v' w' ∧ w'.ownsRow 0 e size v' (m + k) (xs ++ news) ∧ w.grownBy w' v.ownBlock ∧ (∀ b,fp v' = some b → fp v = some b ∨ w.heap.size ≤ b) ∧
   ((∃ g cap,v = .slice (some ⟨g,0,none⟩) m cap ∧ v' = .slice (some ⟨g,0,none⟩) (m + k) cap) ∨ ((∀ q,q < w.heap.size → w'.heap[q]? = w.heap[q]?) ∧ ∀ b,fp v' = some b → w.heap.size ≤ b)):=by
 rcases hown.2 with ⟨rfl,rfl⟩ | ⟨g,cap,cur,rfl,hbg,hg,hnc,hcm,hcs,htake⟩
 ·omega
 ·obtain ⟨v',w',hr,ho,hgr,hiff⟩:=run_append_own (P:=P) w 0 T tt e i z size bytes ht hi hz hsize hby hzs hsz (.slice (some ⟨g,0,none⟩) m cap) m xs hown a k c news hl hnews h1 h63 hbytes (Nat.zero_le _)
  by_cases hroom:m + k ≤ cap
  ·have hfit:m * i.size + news.length ≤ cur.size:=by rw [hl,hcs,hsize, ← Nat.add_mul];exact Nat.mul_le_mul_right _ hroom
   have hr2:=run_append_room (P:=P) w T tt e i ht hi g m cap cur hg a k c news (by rw [hsize];exact hl) hnews h1 hroom hfit
   rw [hr2] at hr
   cases hr
   exact ⟨_,_,hr2,ho,hgr,fun b hb=>.inl hb, .inl ⟨g,cap,rfl,rfl⟩⟩
  ·have holds:∀ (j:Nat) u,xs[j]? = some u → w.cell? ((⟨g,0,none⟩:Addr).add j) = some u:=hown.cells (g:=g) rfl
   have hr2:=run_append_grow (P:=P) w T tt e i z ht hi hz ⟨g,0,none⟩ m cap xs (by rw [hsize];exact hown.1) holds a k c news (by rw [hsize];exact hl) hnews (by omega) (by unfold maxLen at h63;omega) (growslice_fits (by omega) (by rw [hby];exact hbytes))
   rw [hr2] at hr
   cases hr
   exact ⟨_,_,hr2,ho,hgr,fun b hb=>by simp [fp] at hb;right;omega, .inr ⟨fun q hq=>heap_alloc_old w.drew _ hq,fun b hb=>by simp [fp] at hb;omega⟩⟩
theorem Cc {T e sz by_:Nat} {z:List Value} [ts:I6 P T e sz] [tz:G7 P e z] [tb:K3 P e by_] {i ver len:Nat} {l m:List (List AV)} (c:Nat) (hc:look σ.sl c = some (.row i ver len)) (hx:D8 σ x = some (.row i ver len)) (hb:B2 σ.hp i = some (.row e sz ver l)) (hy:D8 σ y = some (.sl sz m))
  (h0:l ≠ []) (hm0:m ≠ []) (hm:∀ el ∈ m,∀ u ∈ el,J8 u) (hz:z.length = sz) (hpos:0 < sz) (hbe:e < C4) (hlen:(len + m.length) * by_ ≤ 140737488355328) (h63:len + m.length ≤ 9223372036854775807) (hd:Nat.blt d n = true)
  (kA:B6 P E n ops rest (((σ.set i (.row e sz (ver + 1) (l ++ m))).put c (.sub i (ver + 1) 0 len)).put d (.row i (ver + 1) (len + m.length))) K)
  (kB:B6 P E n ops rest (((σ.set i (.row e sz (ver + 1) (l ++ m))).put c (.sl sz l)).put d (.row i (ver + 1) (len + m.length))) K) :
  B6 P E n ops (⟨some d, .call ⟨.builtin .append, #[x,y], #[T,T]⟩,ty,pos,after,none⟩ :: rest) σ K:=by
 intro a w ⟨θ,hs⟩
 obtain ⟨hl,hv,hnx⟩:=N4 (hs.evT.rel hx) hb
 have hcv:a.tmps.getD c undef = θ i:=(N4 (hs.slots c _ hc) hb).2.1
 have h:=hs.evT
 obtain ⟨hu,inf,hi,hsz⟩:=ts.out
 obtain ⟨i2,zv,hi2,hzv,hzc⟩:=tz.out
 obtain ⟨i3,hi3,hby⟩:=tb.out
 rw [hi] at hi2 hi3
 cases hi2;cases hi3
 obtain ⟨xs,hown0,hszl,hr⟩:=h.row hb
 have hown:=hown0.row hbe
 have hek:e < G2:=by unfold C4 at hbe;unfold G2;omega
 have hv':a.eval x = θ i:=hv
 subst hl
 have hlp:0 < l.length:=List.length_pos_iff.2 h0
 have hzs:zv.cells.size = sz:=by rw [hzc];simpa using hz
 rcases Ei (c:=kx E θ σ.nx σ.hp w) (hs.evT.rel hy) hm hpos with ⟨_,rfl⟩ | ⟨p,cap,news,hsl,hc4,h1,h2,h3,h4⟩
 ·exact absurd rfl hm0
 obtain ⟨v',w',hrun,hown',hgr,hfp,hcase⟩:=DV (P:=P) (tt:=ty) hu hi hzv hsz hby hzs hpos w (θ i) l.length xs hown hlp p m.length cap news h1 h2 h3 (by unfold maxLen;omega) (by omega)
 unfold wpList
 rw [if_pos (by simp [Region.wanted])]
 left
 have hex:(execOp a.eval ⟨some d, .call ⟨.builtin .append, #[x,y], #[T,T]⟩,ty,pos,after,none⟩).run P w = .ok (.value v') w':=by
  rw [Q4,hv',hsl]
  simp [builtin,hrun,Sem.run_bind,Sem.run_pure]
 simp only [Oper.wp,hex,Oper.upon]
 have hfpown:∀ k,(θ i).ownBlock = some k → fp (θ i) = some k:=by
  intro k hk
  obtain ⟨q,c,hsh,_⟩:=K9 (.of hown hek)
  rw [hsh] at hk ⊢
  cases q with
  | none=>simp [Value.ownBlock] at hk
  | some q=>simpa [Value.ownBlock,fp] using hk
 have ht:=hs.turn (hkp:=fun _ _ _ _ h hk _=>by cases h;rw [DD hbe] at hk;cases hk) (hne:=fun h=>by rw [I8 (K8 hbe)] at h;cases h) (b':=.row e sz (ver + 1) (l ++ m)) (v':=v') (w':=w') hb hgr.os hgr.tape hgr.output hgr.size (fun k hk hne=>hgr.block k hk fun e=>hne (hfpown k e.symm)) hfp
  ⟨(by obtain ⟨q,c,hsh,_⟩:=K9 (.of hown hek);exact ⟨q,_,c,hsh⟩),e,ver,l,rfl, .inl (Nat.lt_succ_self _)⟩ (fun le=>by
   refine ⟨xs ++ news,by simp only [cx,D0];rw [List.length_append];exact .of hown' hek,fun el hel=>?_,fun k el hk j u hu=>?_, .lt (K8 hbe)⟩
   ·rcases List.mem_append.1 hel with h1 | h1
    ·exact hszl el h1
    ·exact hc4 el h1
   ·obtain ⟨y',hy',him⟩:=Bg (R:=Im (kx E θ σ.nx σ.hp w).U w) hown.1 hr h4 k el hk j u hu
    exact ⟨y',hy',him.mono le.heap le.U⟩)
 have hrow:∀ σ2:St,σ2.nx = σ.nx → B2 σ2.hp i = some (.row e sz (ver + 1) (l ++ m)) → C5 (cx E (K1 θ i v') σ2 w') (.row i (ver + 1) (l.length + m.length)) v':=fun σ2 e1 e2=>by
  refine .row _ _ _ _ (by show i < σ2.nx;rw [e1];exact hnx) fun e' sz' v2 l2 hl2=>?_
  have hl3:B2 σ2.hp i = some (.row e' sz' v2 l2):=hl2
  rw [e2] at hl3
  cases hl3
  exact ⟨Nat.le_refl _,fun _=>⟨by simp,by simp [cx,D0]⟩⟩
 have hbi:B2 (σ.set i (.row e sz (ver + 1) (l ++ m))).hp i = some (.row e sz (ver + 1) (l ++ m)):=by simp [St.set,D5]
 rcases hcase with ⟨g,cp,hg1,hg2⟩ | ⟨hh,hfr⟩
 ·have hrel:C5 (cx E (K1 θ i v') (σ.set i (.row e sz (ver + 1) (l ++ m))) w') (.sub i (ver + 1) 0 l.length) (a.tmps.getD c undef):=by
   rw [hcv]
   refine .sub _ _ _ _ _ hnx fun e' sz' v2 l2 hl2=>?_
   have hl3:B2 (σ.set i (.row e sz (ver + 1) (l ++ m))).hp i = some (.row e' sz' v2 l2):=hl2
   rw [hbi] at hl3
   cases hl3
   refine ⟨Nat.le_refl _,fun _=>⟨by simp, .inr ⟨g,l.length + m.length,cp,?_,?_⟩⟩⟩
   ·simp only [cx,D0];exact hg2
   ·rw [hg1,Nat.zero_mul,Nat.sub_zero];split <;> rfl
  exact kA _ _ ⟨_,(ht.reslot c hrel).put (Nat.blt_eq ▸ hd) (hrow _ rfl hbi)⟩
 ·have hrel:C5 (cx E (K1 θ i v') (σ.set i (.row e sz (ver + 1) (l ++ m))) w') (.sl sz l) (a.tmps.getD c undef):=by
   rw [hcv]
   have hU:∀ k,k < w.heap.size → (cx E (K1 θ i v') (σ.set i (.row e sz (ver + 1) (l ++ m))) w').U k → E.X k ∨ ∃ j b,j ≠ i ∧ B2 σ.hp j = some b ∧ FP θ j b k:=fun k hk hu=>by
    rcases hu with hu | ⟨j,b,hj,hf⟩
    ·exact .inl hu
    ·by_cases hji:j = i
     ·subst hji
      have hj2:B2 (σ.set j (.row e sz (ver + 1) (l ++ m))).hp j = some b:=hj
      rw [hbi] at hj2
      cases hj2
      unfold FP at hf
      rcases hf with hf | ⟨hn,_⟩
      ·have hf2:fp v' = some k:=by simpa [cx,D0] using hf
       have:=hfr k hf2
       omega
      ·rw [I8 (K8 hbe)] at hn;cases hn
     ·right
      refine ⟨j,b,hji,?_,?_⟩
      ·have hj2:B2 (σ.set i (.row e sz (ver + 1) (l ++ m))).hp j = some b:=hj
       simpa [St.set,D5,Ne.symm hji] using hj2
      ·have hf2:FP (K1 θ i v') j b k:=hf
       unfold FP at hf2 ⊢
       rwa [I3 _ _ hji,CL] at hf2
   have hsub:∀ k,k < w.heap.size → (cx E (K1 θ i v') (σ.set i (.row e sz (ver + 1) (l ++ m))) w').U k → (kx E θ σ.nx σ.hp w).U k:=fun k hk hu=>by
    rcases hU k hk hu with h | ⟨j,b,_,h1,h2⟩
    ·exact .inl h
    ·exact .inr ⟨j,b,h1,h2⟩
   rcases hown0.2 with ⟨_,hz0⟩ | ⟨g,cap',cur,hθ,_,hgb,hc1,hc2,hc3,hc4'⟩
   ·omega
   have hgl:=hgb.lt
   have hθ2:θ i = .slice (some ⟨g,0,none⟩) l.length cap':=hθ
   have hnu:¬ (cx E (K1 θ i v') (σ.set i (.row e sz (ver + 1) (l ++ m))) w').U g:=fun hu=>by
    rcases hU g hgl hu with hu | ⟨j,b,hji,hj,hf⟩
    ·exact (hs.mine i _ g hb (.inl (by rw [hθ2];rfl))).1 hu
    ·exact hji (hs.apart j i b _ g hj hb hf (.inl (by rw [hθ2];rfl)))
   have hget:∀ i,i < l.length → ∀ j,j < sz → ∃ y,xs[i * sz + j]? = some y:=by
    intro i hi j hj
    have h1:(i + 1) * sz ≤ l.length * sz:=Nat.mul_le_mul_right _ hi
    rw [Nat.add_mul,Nat.one_mul] at h1
    have h2:i * sz + j < xs.length:=by rw [hown0.1];omega
    exact ⟨_,List.getElem?_eq_getElem h2⟩
   have hown2:=hown0
   have hown3:J7 w e sz (.slice (some ⟨g,0,none⟩) l.length cap') l.length xs:=by rw [← hθ2];exact hown0
   rw [hθ2]
   refine .im (.sl sz l ⟨g,0,none⟩ cap' (fun i j=>xs.getD (i * sz + j) undef) hc1 hc2 (fun _ _=>hnu) hszl (fun i hi j hj=>?_) (fun k el hk j x hx=>?_))
   ·obtain ⟨y,hy⟩:=hget i hi j hj
    have hcell:=hown3.cells (g:=g) rfl _ _ hy
    have e1:xs.getD (i * sz + j) undef = y:=by rw [List.getD,hy];rfl
    rw [e1]
    exact (World.cell?_of_block (show w'.heap[(Addr.add ⟨g,0,none⟩ (i * sz + j)).block]? = w.heap[(Addr.add ⟨g,0,none⟩ (i * sz + j)).block]? by rw [M1];exact hh g hgl)).trans hcell
   ·obtain ⟨y,hy,him⟩:=hr k el hk j x hx
    have e1:xs.getD (k * sz + j) undef = y:=by rw [List.getD,hy];rfl
    rw [e1]
    exact him.mono (fun q hq _=>hh q hq) hsub
  exact kB _ _ ⟨_,(ht.reslot c hrel).put (Nat.blt_eq ▸ hd) (hrow _ rfl hbi)⟩
theorem Ea {T e sz by_:Nat} {z:List Value} [ts:I6 P T e sz] [tz:G7 P e z] [tb:K3 P e by_] {i ver len:Nat} {l m:List (List AV)} (c:Nat) (hc:look σ.sl c = some (.row i ver len)) (hx:D8 σ x = some (.row i ver len)) (hb:B2 σ.hp i = some (.row e sz ver l)) (hy:D8 σ y = some (.sl sz m))
  (h0:l ≠ []) (hm0:m ≠ []) (hm:∀ el ∈ m,∀ u ∈ el,J8 u) (hz:z.length = sz) (hpos:0 < sz) (hbe:e < C4) (hll:l.length = len) (hlen:(len + m.length) * by_ ≤ 140737488355328) (h63:len + m.length ≤ 9223372036854775807) (hd:Nat.blt d n = true)
  (k:B6 P E n ops rest ((((σ.set i (.row e sz (ver + 1) (l ++ m))).put c (.sl sz l)).put d (.row i (ver + 1) (len + m.length))).frz i) K) :
  B6 P E n ops (⟨some d, .call ⟨.builtin .append, #[x,y], #[T,T]⟩,ty,pos,after,none⟩ :: rest) σ K:=by
 have hbi:B2 (σ.set i (.row e sz (ver + 1) (l ++ m))).hp i = some (.row e sz (ver + 1) (l ++ m)):=by simp [St.set,D5]
 have hdr:B2 (O4 i (σ.set i (.row e sz (ver + 1) (l ++ m))).hp) i = none:=by
  rw [Q7];simp
 have he:(((σ.set i (.row e sz (ver + 1) (l ++ m))).put c (.sub i (ver + 1) 0 len)).put d (.row i (ver + 1) (len + m.length))).frz i = (((σ.set i (.row e sz (ver + 1) (l ++ m))).put c (.sl sz l)).put d (.row i (ver + 1) (len + m.length))).frz i:=by
  have e1:F7 (σ.set i (.row e sz (ver + 1) (l ++ m))).hp (O4 i (σ.set i (.row e sz (ver + 1) (l ++ m))).hp) (.sub i (ver + 1) 0 len) = .sl sz l:=by
   simp only [F7,Ak,hbi,hdr,Nat.beq_refl,cond_true]
   rw [Nat.zero_add,List.drop_zero, ← hll,List.take_left]
  have e2:F7 (σ.set i (.row e sz (ver + 1) (l ++ m))).hp (O4 i (σ.set i (.row e sz (ver + 1) (l ++ m))).hp) (.sl sz l) = .sl sz l:=by simp only [F7]
  unfold St.frz
  simp only [St.put,W3]
  rw [e1,e2]
 refine Cc c hc hx hb hy h0 hm0 hm hz hpos hbe hlen h63 hd (p4 (AK i) ?_) (p4 (AK i) k)
 rw [he];exact k
end rules
end Go.Av
