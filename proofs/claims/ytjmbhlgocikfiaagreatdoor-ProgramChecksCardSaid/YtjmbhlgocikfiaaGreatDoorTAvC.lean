/- Stores of several cells into an element of a row of one's own. -/
import Derived.Test.YtjmbhlgocikfiaaGreatDoorTE3
set_option linter.unusedVariables false
set_option linter.unusedSimpArgs false
namespace Go.Av
open Go Go.RowKit
theorem splice_get {α:Type} {xs cs:List α} {p:Nat} (h:p + cs.length ≤ xs.length) (j:Nat):(xs.take p ++ cs ++ xs.drop (p + cs.length))[j]? = if j < p then xs[j]? else if j < p + cs.length then cs[j - p]? else xs[j]?:=by
 have h1:(xs.take p).length = p:=by rw [List.length_take];omega
 rw [List.getElem?_append]
 by_cases a:j < p
 ·rw [if_pos a,if_pos (by rw [List.length_append];omega),List.getElem?_append_left (by omega),List.getElem?_take,if_pos a]
 ·rw [if_neg a]
  by_cases b:j < p + cs.length
  ·rw [if_pos b,if_pos (by rw [List.length_append];omega),List.getElem?_append_right (by omega),h1]
  ·rw [if_neg b,if_neg (by rw [List.length_append];omega),List.length_append,h1,List.getElem?_drop]
   congr 1;omega
theorem elems_spliceA {k sz off:Nat} {l:List (List AV)} {el m:List AV} {xs cs:List Value} (hk:l[k]? = some el) (hsz:∀ e ∈ l,e.length = sz) (hlen:xs.length = l.length * sz) (hoff:off + m.length ≤ sz) (hmc:m.length = cs.length)
  {R:AV → Value → Prop} (hr:∀ (k:Nat) el,l[k]? = some el → ∀ (j:Nat) x,el[j]? = some x → ∃ y,xs[k * sz + j]? = some y ∧ R x y) (hm:∀ (j:Nat) u z,m[j]? = some u → cs[j]? = some z → R u z) :
  k * sz + off + cs.length ≤ xs.length ∧ ∀ (k':Nat) el',(l.set k (spliceA el off m))[k']? = some el' → ∀ (j:Nat) x,el'[j]? = some x → ∃ y,(xs.take (k * sz + off) ++ cs ++ xs.drop (k * sz + off + cs.length))[k' * sz + j]? = some y ∧ R x y:=by
 have hkl:k < l.length:=(List.getElem?_eq_some_iff.1 hk).1
 have hb:(k + 1) * sz ≤ l.length * sz:=Nat.mul_le_mul_right _ hkl
 rw [Nat.add_mul,Nat.one_mul] at hb
 have hfit:k * sz + off + cs.length ≤ xs.length:=by omega
 have hel:el.length = sz:=hsz el (List.mem_of_getElem? hk)
 refine ⟨hfit,fun k' el' hk' j x hx=>?_⟩
 rw [splice_get hfit]
 rw [List.getElem?_set] at hk'
 by_cases e:k = k'
 ·subst e
  rw [if_pos rfl,if_pos hkl] at hk'
  cases hk'
  have hx2:(el.take off ++ m ++ el.drop (off + m.length))[j]? = some x:=hx
  rw [splice_get (by omega)] at hx2
  by_cases a:j < off
  ·rw [if_pos a] at hx2
   rw [if_pos (by omega)]
   exact hr k el hk j x hx2
  ·rw [if_neg a] at hx2
   rw [if_neg (by omega)]
   by_cases b:j < off + m.length
   ·rw [if_pos b] at hx2
    rw [if_pos (by omega),show k * sz + j - (k * sz + off) = j - off by omega]
    have hlt:j - off < cs.length:=by omega
    exact ⟨cs[j - off],List.getElem?_eq_getElem hlt,hm (j - off) x _ hx2 (List.getElem?_eq_getElem hlt)⟩
   ·rw [if_neg b] at hx2
    rw [if_neg (by omega)]
    exact hr k el hk j x hx2
 ·rw [if_neg e] at hk'
  obtain ⟨y,hy,hR⟩:=hr k' el' hk' j x hx
  refine ⟨y,?_,hR⟩
  have hj:j < sz:=by
   rw [← hsz el' (List.mem_of_getElem? hk')]
   exact (List.getElem?_eq_some_iff.1 hx).1
  rcases Nat.lt_or_gt_of_ne e with h1 | h1
  ·have h2:(k + 1) * sz ≤ k' * sz:=Nat.mul_le_mul_right _ h1
   rw [Nat.add_mul,Nat.one_mul] at h2
   rw [if_neg (by omega),if_neg (by omega)]
   exact hy
  ·have h2:(k' + 1) * sz ≤ k * sz:=Nat.mul_le_mul_right _ h1
   rw [Nat.add_mul,Nat.one_mul] at h2
   rw [if_pos (by omega)]
   exact hy
section
variable {P:Program} {E:Env} {n:Nat} {ops:Array Oper} {rest:List Oper} {σ:St} {K:St → Prop} {ty:TypeId} {pos:String} {after:Array Edge} {x y:Operand}
theorem aops_store_eltA {T szT:Nat} {ag:Bool} [tv:TVar P T ag szT] {i ver kk off e sz:Nat} {l:List (List AV)} {el:List AV} {av:AV} (hk:l[kk]? = some el) (hx:evO σ x = some (.elt i ver kk off)) (hy:evO σ y = some av) (hb:lookB σ.hp i = some (.row e sz ver l)) (hf:Fits σ.hp av) (ho:AllOne σ.hp (cellsA av)) (hcl:closedLB (cellsA av) = true)
  (hl:(cellsA av).length = szT) (hoff:off + szT ≤ sz) (hbe:Nat.blt e bigE = true)
  (k:AOps P E n ops rest (σ.set i (.row e sz ver (l.set kk (spliceA el off (cellsA av))))) K):AOps P E n ops (⟨none, .store T x y,ty,pos,after,none⟩ :: rest) σ K :=
 aops_turn hb (fun θ a w h=>by
  obtain ⟨g,m,cap,hθ,hv,hnx⟩:=elt_inv (h.rel hx) hb
  obtain ⟨xs,hown,hsz,hr⟩:=h.row hb
  have hθ':θ i = .slice (some ⟨g,0,none⟩) m cap:=hθ
  obtain ⟨cs,hc,hcl2,hrel⟩:=cells_rel h hf (h.rel hy)
  have h1:∀ v ∈ cs,v.oneCell' = true:=by
   intro v hv
   obtain ⟨j,hj⟩:=List.mem_iff_getElem?.1 hv
   have hlt:j < (cellsA av).length:=by rw [hcl2];exact (List.getElem?_eq_some_iff.1 hj).1
   have hu:(cellsA av)[j]? = some (cellsA av)[j]:=List.getElem?_eq_getElem hlt
   exact (AllOne.mem ho _ (List.getElem_mem hlt)).val h (hrel j _ v hu hj)
  rcases hown.2 with ⟨hn,_⟩ | ⟨g',cap',cur,hs,hbg,hg,hnc,hcm,hcs,htake⟩
  ·rw [hθ'] at hn;cases hn
  ·rw [hθ'] at hs
   cases hs
   have hgh:w.heap[g]? = some (.cells cur e (0,0)):=by
    rcases hg with ⟨_,hg⟩ | ⟨h2,_⟩ | ⟨h2,_⟩
    ·exact hg
    ·have:=Nat.blt_eq ▸ hbe;omega
    ·have:=Nat.blt_eq ▸ hbe;unfold bigE at this;unfold keepE at h2;omega
   have hcap:l.length * sz ≤ cap * sz:=Nat.mul_le_mul_right _ hnc
   have him:∀ (j:Nat) u z,(cellsA av)[j]? = some u → cs[j]? = some z → Im (cx E θ σ w).U w u z:=fun j u z hu hz=>((closedLB_spec hcl) u (List.mem_of_getElem? hu)).im (hrel j u z hu hz)
   obtain ⟨hfit,hall⟩:=elems_spliceA (R:=Im (cx E θ σ w).U w) hk hsz hown.1 (show off + (cellsA av).length ≤ sz by rw [hl];exact hoff) hcl2 hr him
   have hxl:=hown.1
   have hfit2:kk * sz + off + cs.length ≤ cur.size:=by omega
   have hrun:=run_storeVar (P:=P) (T:=T) (ag:=ag) (sz:=szT) hc (by omega) hgh (off:=kk * sz + off) hfit2 h1
   refine ⟨_,run_opStore hv hrun,rfl,rfl,rfl,by simp,fun k hk=>?_,⟨⟨_,_,_,hθ'⟩,e,ver,l,rfl, .inr ⟨rfl,by simp,rfl⟩⟩,fun le=>?_⟩
   ·refine setRow_other w g k _ fun e=>hk ?_
    rw [hθ'];simp [fp,e]
   ·refine ⟨xs.take (kk * sz + off) ++ cs ++ xs.drop (kk * sz + off + cs.length),?_,?_,fun k' el' hk' j u hu=>?_⟩
    ·refine ⟨by rw [List.length_append,List.length_append,List.length_take,List.length_drop,List.length_set];omega, .inr ⟨g,cap,_,by simp [cx,upd_self,hθ'],hbg, .inl ⟨by have:=Nat.blt_eq ▸ hbe;unfold bigE at this;unfold keepE;omega,setRow_heap w g cur _ e _ hgh⟩,by simpa using hnc,hcm,?_,?_⟩⟩
     ·simp [List.length_append,List.length_take,List.length_drop,hcs];omega
     ·rw [← htake]
      apply List.ext_getElem?
      intro j
      have hcl3:cur.toList.length = cap * sz:=by simpa using hcs
      rw [List.getElem?_take,List.length_set]
      by_cases a:j < l.length * sz
      ·rw [if_pos a,List.toList_toArray,splice_get (by omega),splice_get (by rw [List.length_take];omega)]
       by_cases b:j < kk * sz + off
       ·rw [if_pos b,if_pos b,List.getElem?_take,if_pos a]
       ·rw [if_neg b,if_neg b]
        by_cases c:j < kk * sz + off + cs.length
        ·rw [if_pos c,if_pos c]
        ·rw [if_neg c,if_neg c,List.getElem?_take,if_pos a]
      ·rw [if_neg a,splice_get (by rw [List.length_take];omega),if_neg (by omega),if_neg (by omega),List.getElem?_take,if_neg a]
    ·intro el' hel'
     rcases List.mem_or_eq_of_mem_set hel' with h2 | h2
     ·exact hsz _ h2
     ·rw [h2]
      have:=hsz el (List.mem_of_getElem? hk)
      simp [spliceA,List.length_append,List.length_take,List.length_drop];omega
    ·obtain ⟨z,hz,hi⟩:=hall k' el' hk' j u hu
     exact ⟨z,hz,hi.mono le.heap le.U⟩) k
theorem frz_store {T i ver len:Nat} (hy:evO σ y = some (.row i ver len)) (h:AOps P E n ops (⟨none, .store T x y,ty,pos,after,none⟩ :: rest) (σ.frz i) K):AOps P E n ops (⟨none, .store T x y,ty,pos,after,none⟩ :: rest) σ K:=aops_le (le_frz i) h
theorem aany_le {fuel:Nat} {l:List Bool} {σ':St} (h:St.le E n σ σ') (k:AAny P E n ops fuel l σ' K):AAny P E n ops fuel l σ K:=fun a w hs=>k a w (h a w hs)
theorem aany_frz {fuel:Nat} {l:List Bool} {i ver len:Nat} (t:Nat) (ht:look σ.sl t = some (.row i ver len)) (k:AAny P E n ops fuel l (σ.frz i) K):AAny P E n ops fuel l σ K:=aany_le (le_frz i) k
theorem q_load_eltO {nx:Nat} {hp:Hp} {ev:Operand → Option AV} {T szT:Nat} [tv:TVar P T true szT] {i ver k off e sz:Nat} {l:List (List AV)} {el:List AV} (hx:ev x = some (.elt i ver k off)) (hb:lookB hp i = some (.row e sz ver l)) (hk:l[k]? = some el) (ho:off + szT ≤ sz) :
  QOp P E nx hp ev (.load T x) ty (.agg ((el.drop off).take szT)) :=
 q_pure fun _ _ _ θ a w h=>by
  obtain ⟨g,m,cap,hθ,hv,_⟩:=elt_inv (h.rel hx) hb
  obtain ⟨xs,hown,hsz,hr⟩:=h.row hb
  have hel:el.length = sz:=hsz el (List.mem_of_getElem? hk)
  have hθ':θ i = .slice (some ⟨g,0,none⟩) m cap:=hθ
  rw [hθ'] at hown
  have hcs:∀ (j:Nat) v,((xs.drop (k * sz + off)).take szT)[j]? = some v → j < szT ∧ xs[k * sz + off + j]? = some v:=by
   intro j v hj
   rw [List.getElem?_take] at hj
   split at hj
   ·rename_i hjs;rw [List.getElem?_drop] at hj;exact ⟨hjs,hj⟩
   ·cases hj
  have hlen:((xs.drop (k * sz + off)).take szT).length = szT:=by
   have hk':k < l.length:=(List.getElem?_eq_some_iff.1 hk).1
   rw [List.length_take,List.length_drop,hown.1]
   have:(k + 1) * sz ≤ l.length * sz:=Nat.mul_le_mul_right _ hk'
   rw [Nat.add_mul,Nat.one_mul] at this
   omega
  have hel2:((el.drop off).take szT).length = szT:=by rw [List.length_take,List.length_drop,hel];omega
  refine ⟨.agg ((xs.drop (k * sz + off)).take szT).toArray,?_, .im (.agg _ _ (by rw [hel2,hlen]) fun j u z hu hz=>?_)⟩
  ·simp only [execOp,hv,Instr.loadAt,Instr.sureAddr,Sem.run_bind,Sem.run_pure,Result.andThen_ok]
   rw [run_loadVar_agg (P:=P) (sz:=szT) hlen (fun j v hj=>by
    have hcell:=hown.cells (g:=g) rfl _ _ (hcs j v hj).2
    rw [addr_add] at hcell ⊢
    rw [← hcell];congr 2;omega)]
   rfl
  ·rw [List.getElem?_take] at hu
   split at hu
   ·rw [List.getElem?_drop] at hu
    obtain ⟨y,hy,him⟩:=hr k el hk (off + j) u hu
    rw [show k * sz + (off + j) = k * sz + off + j by omega,(hcs j z hz).2] at hy
    cases hy
    exact him
   ·cases hu
theorem aops_load_eltO {d:Nat} {T szT:Nat} [tv:TVar P T true szT] {i ver k off e sz:Nat} {l:List (List AV)} {el:List AV} (hk:l[k]? = some el) (hx:evO σ x = some (.elt i ver k off)) (hb:lookB σ.hp i = some (.row e sz ver l)) (hd:Nat.blt d n = true) (ho:off + szT ≤ sz)
  (kk:AOps P E n ops rest (σ.put d (.agg ((el.drop off).take szT))) K):AOps P E n ops (⟨some d, .load T x,ty,pos,after,none⟩ :: rest) σ K:=aops_q (q_load_eltO hx hb hk ho) hd kk
end
end Go.Av
