/- Stores of several cells into an element of a row of one's own. -/
import Derived.Test.YtbhegmcbpolemaaDoorSE3
set_option linter.unusedVariables false
set_option linter.unusedSimpArgs false
namespace Go.Av
open Go Go.RowKit
theorem Z0 {α:Type} {xs cs:List α} {p:Nat} (h:p + cs.length ≤ xs.length) (j:Nat):(xs.take p ++ cs ++ xs.drop (p + cs.length))[j]? = if j < p then xs[j]? else if j < p + cs.length then cs[j - p]? else xs[j]?:=by
 have h1:(xs.take p).length = p:=by rw [List.length_take];omega
 rw [List.getElem?_append]
 by_cases a:j < p
 ·rw [if_pos a,if_pos (by rw [List.length_append];omega),List.getElem?_append_left (by omega),List.getElem?_take,if_pos a]
 ·rw [if_neg a]
  by_cases b:j < p + cs.length
  ·rw [if_pos b,if_pos (by rw [List.length_append];omega),List.getElem?_append_right (by omega),h1]
  ·rw [if_neg b,if_neg (by rw [List.length_append];omega),List.length_append,h1,List.getElem?_drop]
   congr 1;omega
theorem GM {k sz off:Nat} {l:List (List AV)} {el m:List AV} {xs cs:List Value} (hk:l[k]? = some el) (hsz:∀ e ∈ l,e.length = sz) (hlen:xs.length = l.length * sz) (hoff:off + m.length ≤ sz) (hmc:m.length = cs.length)
  {R:AV → Value → Prop} (hr:∀ (k:Nat) el,l[k]? = some el → ∀ (j:Nat) x,el[j]? = some x → ∃ y,xs[k * sz + j]? = some y ∧ R x y) (hm:∀ (j:Nat) u z,m[j]? = some u → cs[j]? = some z → R u z) :
  k * sz + off + cs.length ≤ xs.length ∧ ∀ (k':Nat) el',(l.set k (Q1 el off m))[k']? = some el' → ∀ (j:Nat) x,el'[j]? = some x → ∃ y,(xs.take (k * sz + off) ++ cs ++ xs.drop (k * sz + off + cs.length))[k' * sz + j]? = some y ∧ R x y:=by
 have hkl:k < l.length:=(List.getElem?_eq_some_iff.1 hk).1
 have hb:(k + 1) * sz ≤ l.length * sz:=Nat.mul_le_mul_right _ hkl
 rw [Nat.add_mul,Nat.one_mul] at hb
 have hfit:k * sz + off + cs.length ≤ xs.length:=by omega
 have hel:el.length = sz:=hsz el (List.mem_of_getElem? hk)
 refine ⟨hfit,fun k' el' hk' j x hx=>?_⟩
 rw [Z0 hfit]
 rw [List.getElem?_set] at hk'
 by_cases e:k = k'
 ·subst e
  rw [if_pos rfl,if_pos hkl] at hk'
  cases hk'
  have hx2:(el.take off ++ m ++ el.drop (off + m.length))[j]? = some x:=hx
  rw [Z0 (by omega)] at hx2
  by_cases a:j < off
  ·rw [if_pos a] at hx2
   rw [if_pos (by omega)]
   exact hr k el hk j x hx2
  ·rw [if_neg a] at hx2
   rw [if_neg (by omega)]
   by_cases b:j < off + m.length
   ·rw [if_pos b] at hx2
    rw [if_pos (by omega),show k * sz + j - (k * sz + off) = j - off by omega]
    have hlt:j - off < cs.length:=by omega
    exact ⟨cs[j - off],List.getElem?_eq_getElem hlt,hm (j - off) x _ hx2 (List.getElem?_eq_getElem hlt)⟩
   ·rw [if_neg b] at hx2
    rw [if_neg (by omega)]
    exact hr k el hk j x hx2
 ·rw [if_neg e] at hk'
  obtain ⟨y,hy,hR⟩:=hr k' el' hk' j x hx
  refine ⟨y,?_,hR⟩
  have hj:j < sz:=by
   rw [← hsz el' (List.mem_of_getElem? hk')]
   exact (List.getElem?_eq_some_iff.1 hx).1
  rcases Nat.lt_or_gt_of_ne e with h1 | h1
  ·have h2:(k + 1) * sz ≤ k' * sz:=Nat.mul_le_mul_right _ h1
   rw [Nat.add_mul,Nat.one_mul] at h2
   rw [if_neg (by omega),if_neg (by omega)]
   exact hy
  ·have h2:(k' + 1) * sz ≤ k * sz:=Nat.mul_le_mul_right _ h1
   rw [Nat.add_mul,Nat.one_mul] at h2
   rw [if_pos (by omega)]
   exact hy
section
variable {P:Program} {E:Env} {n:Nat} {ops:Array Oper} {rest:List Oper} {σ:St} {K:St → Prop} {ty:TypeId} {pos:String} {after:Array Edge} {x y:Operand}
theorem Z6 {T szT:Nat} {ag:Bool} [tv:G2 P T ag szT] {i ver kk off e sz:Nat} {l:List (List AV)} {el:List AV} {av:AV} (hk:l[kk]? = some el) (hx:D4 σ x = some (.elt i ver kk off)) (hy:D4 σ y = some av) (hb:A5 σ.hp i = some (.row e sz ver l)) (hf:Fits σ.hp av) (ho:X8 σ.hp (E6 av)) (hcl:G3 (E6 av) = true)
  (hl:(E6 av).length = szT) (hoff:off + szT ≤ sz) (hbe:Nat.blt e C4 = true)
  (k:B5 P E n ops rest (σ.set i (.row e sz ver (l.set kk (Q1 el off (E6 av))))) K):B5 P E n ops (⟨none, .store T x y,ty,pos,after,none⟩ :: rest) σ K :=
 z6 hb (fun θ a w h=>by
  obtain ⟨g,m,cap,hθ,hv,hnx⟩:=U9 (h.rel hx) hb
  obtain ⟨xs,hown,hsz,hr⟩:=h.row hb
  have hθ':θ i = .slice (some ⟨g,0,none⟩) m cap:=hθ
  obtain ⟨cs,hc,hcl2,hrel⟩:=y8 h hf (h.rel hy)
  have h1:∀ v ∈ cs,v.oneCell' = true:=by
   intro v hv
   obtain ⟨j,hj⟩:=List.mem_iff_getElem?.1 hv
   have hlt:j < (E6 av).length:=by rw [hcl2];exact (List.getElem?_eq_some_iff.1 hj).1
   have hu:(E6 av)[j]? = some (E6 av)[j]:=List.getElem?_eq_getElem hlt
   exact (X8.mem ho _ (List.getElem_mem hlt)).val h (hrel j _ v hu hj)
  rcases hown.2 with ⟨hn,_⟩ | ⟨g',cap',cur,hs,hbg,hg,hnc,hcm,hcs,htake⟩
  ·rw [hθ'] at hn;cases hn
  ·rw [hθ'] at hs
   cases hs
   have hgh:w.heap[g]? = some (.cells cur e (0,0)):=by
    rcases hg with ⟨_,hg⟩ | ⟨h2,_⟩ | ⟨h2,_⟩ | ⟨h2,_⟩
    ·exact hg
    ·have:=Nat.blt_eq ▸ hbe;omega
    ·have:=Nat.blt_eq ▸ hbe;unfold C4 at this;unfold G1 at h2;omega
    ·rw [Ar (R8 (Nat.blt_eq ▸ hbe))] at h2;cases h2
   have hcap:l.length * sz ≤ cap * sz:=Nat.mul_le_mul_right _ hnc
   have him:∀ (j:Nat) u z,(E6 av)[j]? = some u → cs[j]? = some z → Im (cx E θ σ w).U w u z:=fun j u z hu hz=>((J6 hcl) u (List.mem_of_getElem? hu)).im (hrel j u z hu hz)
   obtain ⟨hfit,hall⟩:=GM (R:=Im (cx E θ σ w).U w) hk hsz hown.1 (show off + (E6 av).length ≤ sz by rw [hl];exact hoff) hcl2 hr him
   have hxl:=hown.1
   have hfit2:kk * sz + off + cs.length ≤ cur.size:=by omega
   have hrun:=Br (P:=P) (T:=T) (ag:=ag) (sz:=szT) hc (by omega) hgh (off:=kk * sz + off) hfit2 h1
   refine ⟨_,k7 hv hrun,rfl,rfl,rfl,by simp,fun k hk=>?_,⟨⟨_,_,_,hθ'⟩,e,ver,l,rfl, .inr ⟨rfl,by simp,rfl⟩⟩,fun le=>?_⟩
   ·refine setRow_other w g k _ fun e=>hk ?_
    rw [hθ'];simp [fp,e]
   ·refine ⟨xs.take (kk * sz + off) ++ cs ++ xs.drop (kk * sz + off + cs.length),?_,?_,fun k' el' hk' j u hu=>?_, .lt (M2 (Nat.blt_eq ▸ hbe))⟩
    ·refine ⟨by rw [List.length_append,List.length_append,List.length_take,List.length_drop,List.length_set];omega, .inr ⟨g,cap,_,by simp [cx,D1,hθ'], .lt (R8 (Nat.blt_eq ▸ hbe)), .inl ⟨by have:=Nat.blt_eq ▸ hbe;unfold C4 at this;unfold G1;omega,setRow_heap w g cur _ e _ hgh⟩,by simpa using hnc,hcm,?_,?_⟩⟩
     ·simp [List.length_append,List.length_take,List.length_drop,hcs];omega
     ·rw [← htake]
      apply List.ext_getElem?
      intro j
      have hcl3:cur.toList.length = cap * sz:=by simpa using hcs
      rw [List.getElem?_take,List.length_set]
      by_cases a:j < l.length * sz
      ·rw [if_pos a,List.toList_toArray,Z0 (by omega),Z0 (by rw [List.length_take];omega)]
       by_cases b:j < kk * sz + off
       ·rw [if_pos b,if_pos b,List.getElem?_take,if_pos a]
       ·rw [if_neg b,if_neg b]
        by_cases c:j < kk * sz + off + cs.length
        ·rw [if_pos c,if_pos c]
        ·rw [if_neg c,if_neg c,List.getElem?_take,if_pos a]
      ·rw [if_neg a,Z0 (by rw [List.length_take];omega),if_neg (by omega),if_neg (by omega),List.getElem?_take,if_neg a]
    ·intro el' hel'
     rcases List.mem_or_eq_of_mem_set hel' with h2 | h2
     ·exact hsz _ h2
     ·rw [h2]
      have:=hsz el (List.mem_of_getElem? hk)
      simp [Q1,List.length_append,List.length_take,List.length_drop];omega
    ·obtain ⟨z,hz,hi⟩:=hall k' el' hk' j u hu
     exact ⟨z,hz,hi.mono le.heap le.U⟩) k
theorem Pf {fuel:Nat} {l:List Bool} {σ':St} (h:St.le E n σ σ') (k:F2 P E n ops fuel l σ' K):F2 P E n ops fuel l σ K:=fun a w hs=>k a w (h a w hs)
theorem Nj {fuel:Nat} {l:List Bool} {i ver len:Nat} (t:Nat) (ht:look σ.sl t = some (.row i ver len)) (k:F2 P E n ops fuel l (σ.frz i) K):F2 P E n ops fuel l σ K:=Pf (Gz i) k
end
end Go.Av
