/- Stores of several cells into an element of a row of one's own. -/
import Derived.Test.YthkklceofokkmaaGreatDoorBE3
import Derived.Test.YthkklceofokkmaaGreatDoorBQw1
import Derived.Test.YthkklceofokkmaaGreatDoorBQw7
import Derived.Test.YthkklceofokkmaaGreatDoorBSj
import Derived.Test.YthkklceofokkmaaGreatDoorBB9
set_option linter.unusedVariables false
set_option linter.unusedSimpArgs false
set_option linter.unnecessarySimpa false
namespace Go.Av
open Go Go.RowKit
theorem CQ {α:Type} {xs cs:List α} {p:Nat} (h:p + cs.length ≤ xs.length) (j:Nat):(xs.take p ++ cs ++ xs.drop (p + cs.length))[j]? = if j < p then xs[j]? else if j < p + cs.length then cs[j - p]? else xs[j]?:=by
 have h1:(xs.take p).length = p:=by rw [List.length_take];omega
 rw [List.getElem?_append]
 by_cases a:j < p
 ·rw [if_pos a,if_pos (by rw [List.length_append];omega),List.getElem?_append_left (by omega),List.getElem?_take,if_pos a]
 ·rw [if_neg a]
  by_cases b:j < p + cs.length
  ·rw [if_pos b,if_pos (by rw [List.length_append];omega),List.getElem?_append_right (by omega),h1]
  ·rw [if_neg b,if_neg (by rw [List.length_append];omega),List.length_append,h1,List.getElem?_drop]
   congr 1;omega
theorem Nj {k sz off:Nat} {l:List (List AV)} {el m:List AV} {xs cs:List Value} (hk:l[k]? = some el) (hsz:∀ e ∈ l,e.length = sz) (hlen:xs.length = l.length * sz) (hoff:off + m.length ≤ sz) (hmc:m.length = cs.length)
  {R:AV → Value → Prop} (hr:∀ (k:Nat) el,l[k]? = some el → ∀ (j:Nat) x,el[j]? = some x → ∃ y,xs[k * sz + j]? = some y ∧ R x y) (hm:∀ (j:Nat) u z,m[j]? = some u → cs[j]? = some z → R u z) :
  k * sz + off + cs.length ≤ xs.length ∧ ∀ (k':Nat) el',(l.set k (f0 el off m))[k']? = some el' → ∀ (j:Nat) x,el'[j]? = some x → ∃ y,(xs.take (k * sz + off) ++ cs ++ xs.drop (k * sz + off + cs.length))[k' * sz + j]? = some y ∧ R x y:=by
 have hkl:k < l.length:=(List.getElem?_eq_some_iff.1 hk).1
 have hb:(k + 1) * sz ≤ l.length * sz:=Nat.mul_le_mul_right _ hkl
 rw [Nat.add_mul,Nat.one_mul] at hb
 have hfit:k * sz + off + cs.length ≤ xs.length:=by omega
 have hel:el.length = sz:=hsz el (List.mem_of_getElem? hk)
 refine ⟨hfit,fun k' el' hk' j x hx=>?_⟩
 rw [CQ hfit]
 rw [List.getElem?_set] at hk'
 by_cases e:k = k'
 ·subst e
  rw [if_pos rfl,if_pos hkl] at hk'
  cases hk'
  have hx2:(el.take off ++ m ++ el.drop (off + m.length))[j]? = some x:=hx
  rw [CQ (by omega)] at hx2
  by_cases a:j < off
  ·rw [if_pos a] at hx2
   rw [if_pos (by omega)]
   exact hr k el hk j x hx2
  ·rw [if_neg a] at hx2
   rw [if_neg (by omega)]
   by_cases b:j < off + m.length
   ·rw [if_pos b] at hx2
    rw [if_pos (by omega),show k * sz + j - (k * sz + off) = j - off by omega]
    have hlt:j - off < cs.length:=by omega
    exact ⟨cs[j - off],List.getElem?_eq_getElem hlt,hm (j - off) x _ hx2 (List.getElem?_eq_getElem hlt)⟩
   ·rw [if_neg b] at hx2
    rw [if_neg (by omega)]
    exact hr k el hk j x hx2
 ·rw [if_neg e] at hk'
  obtain ⟨y,hy,hR⟩:=hr k' el' hk' j x hx
  refine ⟨y,?_,hR⟩
  have hj:j < sz:=by
   rw [← hsz el' (List.mem_of_getElem? hk')]
   exact (List.getElem?_eq_some_iff.1 hx).1
  rcases Nat.lt_or_gt_of_ne e with h1 | h1
  ·have h2:(k + 1) * sz ≤ k' * sz:=Nat.mul_le_mul_right _ h1
   rw [Nat.add_mul,Nat.one_mul] at h2
   rw [if_neg (by omega),if_neg (by omega)]
   exact hy
  ·have h2:(k' + 1) * sz ≤ k * sz:=Nat.mul_le_mul_right _ h1
   rw [Nat.add_mul,Nat.one_mul] at h2
   rw [if_pos (by omega)]
   exact hy
section
variable {P:Program} {E:Env} {n:Nat} {ops:Array Oper} {rest:List Oper} {σ:St} {K:St → Prop} {ty:TypeId} {pos:String} {after:Array Edge} {x y:Operand}
theorem LW {T szT:Nat} {ag:Bool} [tv:J6 P T ag szT] {i ver kk off e sz:Nat} {l:List (List AV)} {el:List AV} {av:AV} (hk:l[kk]? = some el) (hx:G6 σ x = some (.elt i ver kk off)) (hy:G6 σ y = some av) (hb:B4 σ.hp i = some (.row e sz ver l)) (hf:Fits σ.hp av) (ho:Bo σ.hp (I7 av)) (hcl:K9 (I7 av) = true)
  (hl:(I7 av).length = szT) (hoff:off + szT ≤ sz) (hbe:Nat.blt e U5 = true)
  (k:B7 P E n ops rest (σ.set i (.row e sz ver (l.set kk (f0 el off (I7 av))))) K):B7 P E n ops (⟨none, .store T x y,ty,pos,after,none⟩ :: rest) σ K :=
 Eb hb (fun θ a w h=>by
  obtain ⟨g,m,cap,hθ,hv,hnx⟩:=Bd (h.rel hx) hb
  obtain ⟨xs,hown,hsz,hr⟩:=h.row hb
  have hθ':θ i = .slice (some ⟨g,0,none⟩) m cap:=hθ
  obtain ⟨cs,hc,hcl2,hrel⟩:=EZ h hf (h.rel hy)
  have h1:∀ v ∈ cs,v.oneCell' = true:=by
   intro v hv
   obtain ⟨j,hj⟩:=List.mem_iff_getElem?.1 hv
   have hlt:j < (I7 av).length:=by rw [hcl2];exact (List.getElem?_eq_some_iff.1 hj).1
   have hu:(I7 av)[j]? = some (I7 av)[j]:=List.getElem?_eq_getElem hlt
   exact (Bo.mem ho _ (List.getElem_mem hlt)).val h (hrel j _ v hu hj)
  rcases hown.2 with ⟨hn,_⟩ | ⟨g',cap',cur,hs,hbg,hg,hnc,hcm,hcs,htake⟩
  ·rw [hθ'] at hn;cases hn
  ·rw [hθ'] at hs
   cases hs
   have hgh:w.heap[g]? = some (.cells cur e (0,0)):=by
    rcases hg with ⟨_,hg⟩ | ⟨h2,_⟩ | ⟨h2,_⟩
    ·exact hg
    ·have:=Nat.blt_eq ▸ hbe;omega
    ·have:=Nat.blt_eq ▸ hbe;unfold U5 at this;unfold M6 at h2;omega
   have hcap:l.length * sz ≤ cap * sz:=Nat.mul_le_mul_right _ hnc
   have him:∀ (j:Nat) u z,(I7 av)[j]? = some u → cs[j]? = some z → Im (cx E θ σ w).U w u z:=fun j u z hu hz=>((Q9 hcl) u (List.mem_of_getElem? hu)).im (hrel j u z hu hz)
   obtain ⟨hfit,hall⟩:=Nj (R:=Im (cx E θ σ w).U w) hk hsz hown.1 (show off + (I7 av).length ≤ sz by rw [hl];exact hoff) hcl2 hr him
   have hxl:=hown.1
   have hfit2:kk * sz + off + cs.length ≤ cur.size:=by omega
   have hrun:=HD (P:=P) (T:=T) (ag:=ag) (sz:=szT) hc (by omega) hgh (off:=kk * sz + off) hfit2 h1
   refine ⟨_,Ew hv hrun,rfl,rfl,rfl,by simp,fun k hk=>?_,⟨⟨_,_,_,hθ'⟩,e,ver,l,rfl, .inr ⟨rfl,by simp,rfl⟩⟩,fun le=>?_⟩
   ·refine setRow_other w g k _ fun e=>hk ?_
    rw [hθ'];simp [fp,e]
   ·refine ⟨xs.take (kk * sz + off) ++ cs ++ xs.drop (kk * sz + off + cs.length),?_,?_,fun k' el' hk' j u hu=>?_⟩
    ·refine ⟨by rw [List.length_append,List.length_append,List.length_take,List.length_drop,List.length_set];omega, .inr ⟨g,cap,_,by simp [cx,F5,hθ'],hbg, .inl ⟨by have:=Nat.blt_eq ▸ hbe;unfold U5 at this;unfold M6;omega,setRow_heap w g cur _ e _ hgh⟩,by simpa using hnc,hcm,?_,?_⟩⟩
     ·simp [List.length_append,List.length_take,List.length_drop,hcs];omega
     ·rw [← htake]
      apply List.ext_getElem?
      intro j
      have hcl3:cur.toList.length = cap * sz:=by simpa using hcs
      rw [List.getElem?_take,List.length_set]
      by_cases a:j < l.length * sz
      ·rw [if_pos a,List.toList_toArray,CQ (by omega),CQ (by rw [List.length_take];omega)]
       by_cases b:j < kk * sz + off
       ·rw [if_pos b,if_pos b,List.getElem?_take,if_pos a]
       ·rw [if_neg b,if_neg b]
        by_cases c:j < kk * sz + off + cs.length
        ·rw [if_pos c,if_pos c]
        ·rw [if_neg c,if_neg c,List.getElem?_take,if_pos a]
      ·rw [if_neg a,CQ (by rw [List.length_take];omega),if_neg (by omega),if_neg (by omega),List.getElem?_take,if_neg a]
    ·intro el' hel'
     rcases List.mem_or_eq_of_mem_set hel' with h2 | h2
     ·exact hsz _ h2
     ·rw [h2]
      have:=hsz el (List.mem_of_getElem? hk)
      simp [f0,List.length_append,List.length_take,List.length_drop];omega
    ·obtain ⟨z,hz,hi⟩:=hall k' el' hk' j u hu
     exact ⟨z,hz,hi.mono le.heap le.U⟩) k
theorem NW {T i ver len:Nat} (hy:G6 σ y = some (.row i ver len)) (h:B7 P E n ops (⟨none, .store T x y,ty,pos,after,none⟩ :: rest) (σ.frz i) K):B7 P E n ops (⟨none, .store T x y,ty,pos,after,none⟩ :: rest) σ K:=Cf (OT i) h
theorem Nk {d T:Nat} [tu:X6 P T] {l:List UInt8} (hx:G6 σ x = some (.str l)) (hd:Nat.blt d n = true)
  (k:B7 P E n ops rest ((σ.new (.it l 0)).put d (.ref σ.nx 0)) K):B7 P E n ops (⟨some d, .range T x,ty,pos,after,none⟩ :: rest) σ K :=
 AO (b:=.it l 0) hd (fun θ a w h=>by
  have hv:a.eval x = .string ⟨l.toArray⟩:=(h.rel hx).sval
  exact ⟨.pointer (some ⟨w.heap.size,0,none⟩), .pointer (some ⟨w.heap.size,0,none⟩),w.alloc (.stringIter ⟨l.toArray⟩ 0),by
   simp [execOp,Instr.range,hv,newObj,Sem.run_bind,Sem.run_pure,Sem.run,run_underlying tu.out],S0 _ _,KJ,fun le =>
   ⟨⟨w.heap.size,by simp [cx,F5],heap_alloc_new w _⟩, .ref _ _ _ (by simp [cx,St.new]) (by simp [cx,F5])⟩⟩) k
theorem UH {d:Nat} {op:Op} {i:Nat} {b b':H4} {av:AV} (hd:Nat.blt d n = true) (hi:B4 σ.hp i = some b)
  (hrun:∀ θ a w,m7 E θ σ.nx σ.hp (G6 σ) a w → ∃ v w',(execOp a.eval ⟨some d,op,ty,pos,after,none⟩).run P w = .ok (.value v) w' ∧ w'.os = w.os ∧ w'.tape = w.tape ∧ w'.output = w.output ∧ w'.heap.size = w.heap.size ∧
   (∀ k,fp (θ i) ≠ some k → w'.heap[k]? = w.heap[k]?) ∧ Sc (θ i) (θ i) b b' ∧
   ((cx E θ σ w).le (cx E (c7 θ i (θ i)) (σ.set i b') w') → W1 (cx E (c7 θ i (θ i)) (σ.set i b') w') i b') ∧ G4 (cx E (c7 θ i (θ i)) (σ.set i b') w') av v)
  (k:B7 P E n ops rest ((σ.set i b').put d av) K) (hlab:∀ e sz v l,b' = .row e sz v l → ∃ sz0 v0 l0,b = .row e sz0 v0 l0:=by intro _ _ _ _ h;cases h <;> exact ⟨_,_,_,rfl⟩):B7 P E n ops (⟨some d,op,ty,pos,after,none⟩ :: rest) σ K:=by
 intro a w ⟨θ,hs⟩
 unfold wpList
 rw [if_pos (by simp [Region.wanted])]
 left
 obtain ⟨v,w',hr,h1,h2,h3,h4,h5,h6,h7,h9⟩:=hrun θ a w hs.evT
 simp only [Oper.wp,hr,Oper.upon]
 have h8:=hs.turn (b':=b') (v':=θ i) hi h1 h2 h3 (by omega) (fun k _=>h5 k) (fun k hk=>.inl hk) h6 h7 fun e sz v l h hk _=>by
  obtain ⟨sz0,v0,l0,rfl⟩:=hlab e sz v l h
  exact ⟨rfl,e,sz0,v0,l0,rfl,hk⟩
 exact k _ _ ⟨_,h8.put (Nat.blt_eq ▸ hd) h9⟩
theorem NX {r:Nat} {w:World} {s:ByteArray} {p:Nat} (h:w.heap[r]? = some (.stringIter s p)):(getObj r).run P w = .ok (.stringIter s p) w:=by
 simp [getObj,Sem.run,h]
theorem WL {r:Nat} {w:World} {s:ByteArray} {p:Nat} (o:Obj) (h:w.heap[r]? = some (.stringIter s p)):(setObj r o).run P w = .ok () { w with heap:=w.heap.setIfInBounds r o }:=by
 simp [setObj,Sem.run,h]
theorem UI {l:List UInt8} {p:Nat} {c:UInt8} (h:l[p]? = some c) (hc:c.toNat < 128):Utf8.decode ⟨l.toArray⟩ p = (c.toNat,1):=by
 have hlt:=(List.getElem?_eq_some_iff.1 h).1
 have:(⟨l.toArray⟩:ByteArray).get! (p + 0) = c:=by
  show l.toArray[p + 0]! = c
  rw [Nat.add_zero,List.getElem!_toArray,List.getElem!_eq_getElem?_getD,h];rfl
 unfold Utf8.decode
 simp only [this]
 rw [if_pos (by omega)]
theorem Nl {d:Nat} {i p:Nat} {l:List UInt8} {c:UInt8} (hc:l[p]? = some c) (hx:G6 σ x = some (.ref i 0)) (hb:B4 σ.hp i = some (.it l p)) (hd:Nat.blt d n = true) (h128:c.toNat < 128)
  (k:B7 P E n ops rest ((σ.set i (.it l (p + 1))).put d (.tup [.b true, .i p, .v (.int .i32 c.toNat)])) K):B7 P E n ops (⟨some d, .next x true,ty,pos,after,none⟩ :: rest) σ K :=
 UH (b':=.it l (p + 1)) hd hb (fun θ a w h=>by
  obtain ⟨b,hθ,hv,hnx⟩:=R8 (h.rel hx)
  obtain ⟨r,hθ',hr⟩:=(h.owns i _ hb).2
  have hθ2:θ i = .pointer (some ⟨r,0,none⟩):=hθ'
  have hθ3:θ i = .pointer (some ⟨b,0,none⟩):=hθ
  have hbr:b = r:=by rw [hθ2] at hθ3;cases hθ3;rfl
  subst hbr
  have hr2:w.heap[b]? = some (.stringIter ⟨l.toArray⟩ p):=hr
  have hlt:=(List.getElem?_eq_some_iff.1 hc).1
  have hbl:b < w.heap.size:=(Array.getElem?_eq_some_iff.1 hr2).1
  refine ⟨.tuple #[.bool true, .int .i64 p, .int .i32 c.toNat], { w with heap:=w.heap.setIfInBounds b (.stringIter ⟨l.toArray⟩ (p + 1)) },?_,rfl,rfl,rfl,by simp,fun k hk=>?_,rfl,fun _=>?_,?_⟩
  ·have hsz:p < (⟨l.toArray⟩:ByteArray).size:=hlt
   simp only [execOp,Instr.next,hv,Sem.run_bind,NX hr2,Result.andThen_ok,if_pos hsz,UI hc h128,WL _ hr2,Sem.run_pure]
   rfl
  ·have hne:b ≠ k:=fun e=>hk (by rw [hθ2,e];rfl)
   exact Array.getElem?_setIfInBounds_ne hne
  ·refine ⟨b,by simp only [cx,F5];exact hθ2,?_⟩
   simp [cx,hbl]
  ·exact .im (.tup _ [.bool true, .int .i64 p, .int .i32 c.toNat] rfl fun j u z hu hz=>by
    rcases j with _ | _ | _ | j
    ·cases hu;cases hz;exact .v _
    ·cases hu;cases hz;exact .v _
    ·cases hu;cases hz;exact .v _
    ·cases hu)) k
theorem Nm {d:Nat} {i p:Nat} {l:List UInt8} (hc:l.length ≤ p) (hx:G6 σ x = some (.ref i 0)) (hb:B4 σ.hp i = some (.it l p)) (hd:Nat.blt d n = true)
  (k:B7 P E n ops rest (σ.put d (.tup [.b false])) K):B7 P E n ops (⟨some d, .next x true,ty,pos,after,none⟩ :: rest) σ K :=
 FP (F8 fun _ _ _ θ a w h=>by
  obtain ⟨b,hθ,hv,hnx⟩:=R8 (h.rel hx)
  obtain ⟨r,hθ',hr⟩:=(h.owns i _ hb).2
  have hθ2:θ i = .pointer (some ⟨r,0,none⟩):=hθ'
  have hθ3:θ i = .pointer (some ⟨b,0,none⟩):=hθ
  have hbr:b = r:=by rw [hθ2] at hθ3;cases hθ3;rfl
  subst hbr
  have hr2:w.heap[b]? = some (.stringIter ⟨l.toArray⟩ p):=hr
  refine ⟨.tuple #[.bool false],?_, .im (.tup _ [.bool false] rfl fun j u z hu hz=>by
   rcases j with _ | j
   ·cases hu;cases hz;exact .v _
   ·cases hu)⟩
  have hsz:¬ p < (⟨l.toArray⟩:ByteArray).size:=Nat.not_lt.2 hc
  simp only [execOp,Instr.next,hv,Sem.run_bind,NX hr2,Result.andThen_ok,if_neg hsz,Sem.run_pure]) hd k
end
end Go.Av
namespace Go.Proofs.YthkklceofokkmaaGreatDoor
open Go Go.Av
attribute [local irreducible] E5 B7 E6 E7 DQ E8 F0 St.le B3 B5
set_option maxRecDepth 100000
theorem ZH {α:Type} (l:List α) (k:Nat):List.drop ((0:Nat):Int).toNat (List.take (k:Int).toNat l) = l.take k:=rfl
theorem Qd {α:Type} (l:List α) (n:Nat) (h:1 ≤ n):List.drop ((0:Nat):Int).toNat (List.take ((n:Int) - 1).toNat l) = l.take (n - 1):=by
 rw [show ((n:Int) - 1).toNat = n - 1 by omega];rfl
set_option maxHeartbeats 16000000 in
theorem RR (l:List UInt8) (hl:l.length ≤ maxLen):B3 Tryz.prog 6 [.sl 1 (l.map S6)] (.b true):=by
 unfold maxLen at hl
 have hL:(l.take 400).length ≤ 400:=List.length_take_le _ _
 have hnew:=Jh l (by omega)
 have hsch:=IA (l.take 400) 0 hL
 have hd:=Gc (l.take 400) 0
 generalize FF (l.take 400) 0 = s0 at *
 obtain ⟨s,a0⟩:=s0
 dsimp only at hsch hd
 generalize l.take 400 = t at *
 have hdcl:=NN t s hd hL a0
 obtain ⟨hok,hq3,hlen⟩:=Qa hd t a0
 generalize Q7 t s a0 = X at *
 obtain ⟨D,a1⟩:=X
 dsimp only at hdcl hok hq3 hlen
 obtain ⟨T,lq,q,En,hT,hqs,t1,t2,t3,t4,t5,t6,t7,t8⟩:=UG hok hlen
 have hz:U8 s D = 0:=(BU s D).2 hok
 have e1:B3 Tryz.prog 18 [sA s,M5 D] (.tup [.str T, .i 0]):=(DF s D).congr (by rw [Hr,if_pos hz, ← hT,if_neg (by omega)])
 have hql:D.qs.length = lq.length + 1:=by rw [hqs,List.length_append];rfl
 obtain ⟨c1,c2,c3,c4,c5,c6,Q⟩:=D
 dsimp only at hqs hql hq3 t4 t7 t8 e1 hdcl
 have e2:B3 Tryz.prog 19 [sA s, .str (List.drop ((0:Nat):Int).toNat (List.take ((T.length:Int) - 1).toNat T))] (.tup [M5 zD, .i (4 + (Q.length:Int)), .i 11]):=(BE s _).congr (by rw [Qd _ _ t2,t8])
 obtain ⟨Y,g,hY1,hY2,hY3⟩:∃ (Y:F4) (g:Int),l8 s (T.take En) = (Y,0,g) ∧ (Q.length = 1 → g = 1) ∧ (¬ Q.length = 1 → g = 0 ∧ Y = ⟨c1,c2,c3,c4,c5,c6,lq⟩):=by
  rw [t7]
  by_cases h:lq = []
  ·rw [if_pos h]
   exact ⟨_,_,rfl,fun _=>rfl,fun g=>by rw [h] at hql;exact absurd hql g⟩
  ·rw [if_neg h]
   exact ⟨_,_,rfl,fun g=>absurd (List.eq_nil_of_length_eq_zero (by omega)) h,fun _=>⟨rfl,rfl⟩⟩
 have e3:B3 Tryz.prog 19 [sA s, .str (List.drop ((0:Nat):Int).toNat (List.take (En:Int).toNat T))] (.tup [M5 Y, .i 0, .i g]):=(BE s _).congr (by rw [ZH,hY1])
 have hgg:¬ Q.length = 1 → g = 0:=fun h=>(hY3 h).1
 have e4:¬ Q.length = 1 → B3 Tryz.prog 20 [M5 Y, .agg [.str c1, .str c2, .i c3.op, .i c3.col, .i c3.code, .i c3.lo, .i c3.hi, .sl 6 (c3.kids.map D5), .i c4, .i c5, .i c6, .sl 17 (List.drop ((0:Nat):Int).toNat (List.take ((Q.length:Int) - 1).toNat (Q.map C4)))]] (.b true):=fun h=>by
  rw [(hY3 h).2,Qd _ _ (by omega),hql,Nat.add_sub_cancel,hqs,List.map_append,List.take_left' (by rw [List.length_map])]
  exact LV _
 have ha:=FJ
 clear hok hz hT t7 t8 hY1 hY3 hqs
 refine F7 Tryz.func6 120 fun hrd E h0=>?_
 clear hrd
 repeat' ((first | refine Nk rfl rfl ?_ | refine B0 e1 ?_ | refine y8 [] [] hnew rfl rfl rfl rfl rfl trivial rfl rfl rfl rfl rfl ?_ |refine A1 ?_|refine S1 ?_|refine Z1 ?_|refine Z2 ?_|(refine And.intro ?_ ?_<;>intro h<;>try first|(exfalso;omega)|exact absurd rfl h)|refine Z3 ?_|refine Z4 ?_|intro el hel hbB|intro el hel|intro ex|refine Z5 ?_|(refine A8 ?_ ?_;exact ⟨by kernel_rfl,by decide⟩)|refine A7 ?_ ?_|exact A6|refine A3 ?_ ?_|exact A2|(refine A0 ?_ ?_ ?_;kernel_rfl;kernel_rfl) | refine nc [0] [0] hsch rfl rfl rfl ⟨rfl,trivial⟩ ?_ | refine nc [0] [0] hdcl rfl rfl rfl ⟨rfl,trivial⟩ ?_) <;> (try (conv=>whnf)))
 all_goals first
  | (exfalso;omega)
  | skip
 refine D8 (ι:=Nat) (fun p=>⟨[(4, .iptr (sL s)),(5, .ref 2 0),(6, .str T),(7, .i 0),(8, .i (Dc T p)),(9, .i (EY T p)),(31, .ref 3 0)],4,[(2,some (.box (k0 ⟨c1,c2,c3,c4,c5,c6,Q⟩))),(3,some (.it T p))]⟩) (fun p=>p ≤ T.length) (fun p=>T.length - p) 0 (Nat.zero_le _) (A5 h0 rfl ⟨rfl,rfl,rfl,rfl,rfl,rfl,rfl,trivial⟩ ⟨rfl,rfl,trivial⟩ rfl rfl rfl) (fun p hp=>?_)
 by_cases hlt:p < T.length
 ·obtain ⟨c,hc⟩:∃ c,T[p]? = some c:=⟨_,List.getElem?_eq_getElem hlt⟩
  have hlow:c.toNat < 128:=by
   rw [List.all_eq_true] at t3
   have:=t3 c (List.mem_of_getElem? hc)
   unfold O9 at this
   exact of_decide_eq_true this
  have hcn:(c.toNat = 10 → Dc T (p + 1) = Dc T p + 1) ∧ (¬ c.toNat = 10 → Dc T (p + 1) = Dc T p) ∧ (c.toNat = 10 → p + 1 < T.length → EY T (p + 1) = p + 1) ∧ (¬ c.toNat = 10 → EY T (p + 1) = EY T p) ∧ (¬ p + 1 < T.length → EY T (p + 1) = EY T p):=by
   have hi:c.toNat = 10 ↔ T[p]? = some 10:=by
    rw [hc]
    constructor
    ·intro h;rw [show c = 10 from UInt8.toNat_inj.1 h]
    ·intro h;cases h;rfl
   refine ⟨fun h=>?_,fun h=>?_,fun h h2=>?_,fun h=>?_,fun h=>?_⟩
   ·rw [Dc,if_pos (hi.1 h)]
   ·rw [Dc,if_neg fun g=>h (hi.2 g)]
   ·rw [EY,if_pos ⟨hi.1 h,h2⟩]
   ·rw [EY,if_neg fun g=>h (hi.2 g.1)]
   ·rw [EY,if_neg fun g=>h g.2]
  have hcb:Dc T p ≤ p:=by
   have:∀ q,Dc T q ≤ q:=fun q=>by
    induction q with
    | zero=>exact Nat.le_refl _
    | succ q ih=>rw [Dc];split <;> omega
   exact this p
  generalize Dc T p = x0 at *
  generalize EY T p = y0 at *
  obtain ⟨q1,q2,q3,q4,q5⟩:=hcn
  clear e1 e2 e3 e4 ha hnew hsch hdcl
  repeat' ((first | refine Nl hc rfl rfl rfl hlow ?_ | (refine Ak (x:=c) hc (by omega) ?_) |refine A1 ?_|refine S1 ?_|refine Z1 ?_|refine Z2 ?_|(refine And.intro ?_ ?_<;>intro h<;>try first|(exfalso;omega)|exact absurd rfl h)|refine Z3 ?_|refine Z4 ?_|intro el hel hbB|intro el hel|intro ex|refine Z5 ?_|(refine A8 ?_ ?_;exact ⟨by kernel_rfl,by decide⟩)|refine A7 ?_ ?_|exact A6|refine A3 ?_ ?_|exact A2|(refine A0 ?_ ?_ ?_;kernel_rfl;kernel_rfl)) <;> (try (conv=>whnf)))
  all_goals first
   | exact ⟨p + 1,by omega,by omega,A5 h0 rfl ⟨rfl,rfl,rfl,rfl,congrArg (fun z:Int=>some (AV.i z)) (by omega),congrArg (fun z:Int=>some (AV.i z)) (by omega),rfl,trivial⟩ ⟨rfl,rfl,trivial⟩ rfl rfl rfl⟩
   | (exfalso;omega)
 ·obtain rfl:p = T.length:=by omega
  rw [t4,t5]
  have hend:T.length ≤ T.length:=Nat.le_refl _
  have hQm:(Q.map C4).length = Q.length:=List.length_map ..
  clear e1 hnew hsch hdcl
  repeat' ((first | refine Nm hend rfl rfl rfl ?_ | refine B0 e2 ?_ | refine B0 e3 ?_ | (refine B0 (e4 (by omega)) ?_) | refine B0 ha ?_ | (refine E3 16 ?_;refine H6 (id:=16) (σ':=⟨[(4, .iptr (sL s)),(5, .ref 2 0),(6, .str T),(8, .i ((4 + Q.length:Nat):Int)),(9, .i En)],3,[(2,some (.box (k0 ⟨c1,c2,c3,c4,c5,c6,Q⟩)))]⟩) (A5 h0 rfl ⟨rfl,rfl,rfl,rfl,rfl,trivial⟩ ⟨rfl,trivial⟩ rfl rfl rfl) ?_;refine F3 (id:=16) ⟨[(4, .iptr (sL s)),(5, .ref 2 0),(6, .str T),(8, .i ((4 + Q.length:Nat):Int)),(9, .i En),(12, .i (4 + (Q.length:Int))),(13, .i 11)],4,[(2,some (.box (k0 ⟨c1,c2,c3,c4,c5,c6,Q⟩)))]⟩ ?_ ?_) | (refine E3 19 ?_;refine H6 (id:=19) (σ':=⟨[(4, .iptr (sL s)),(5, .ref 2 0),(6, .str T),(9, .i En)],4,[(2,some (.box (k0 ⟨c1,c2,c3,c4,c5,c6,Q⟩)))]⟩) (A5 h0 rfl ⟨rfl,rfl,rfl,rfl,trivial⟩ ⟨rfl,trivial⟩ rfl rfl rfl) ?_;refine F3 (id:=19) ⟨[(5, .ref 2 0),(14, .iptr (k0 Y)),(15, .i 0),(16, .i g)],5,[(2,some (.box (k0 ⟨c1,c2,c3,c4,c5,c6,Q⟩)))]⟩ ?_ ?_) |refine A1 ?_|refine S1 ?_|refine Z1 ?_|refine Z2 ?_|(refine And.intro ?_ ?_<;>intro h<;>try first|(exfalso;omega)|exact absurd rfl h)|refine Z3 ?_|refine Z4 ?_|intro el hel hbB|intro el hel|intro ex|refine Z5 ?_|(refine A8 ?_ ?_;exact ⟨by kernel_rfl,by decide⟩)|refine A7 ?_ ?_|exact A6|refine A3 ?_ ?_|exact A2|(refine A0 ?_ ?_ ?_;kernel_rfl;kernel_rfl)) <;> (try (conv=>whnf)))
  all_goals first
   | exact A9 rfl rfl
   | exact A5 h0 rfl ⟨rfl,rfl,rfl,rfl,rfl,rfl,rfl,trivial⟩ ⟨rfl,trivial⟩ rfl rfl rfl
   | exact A5 h0 rfl ⟨rfl,rfl,rfl,rfl,trivial⟩ ⟨rfl,trivial⟩ rfl rfl rfl
   | (exfalso;omega)
theorem UJ (l:List AV) (h:Du Tryz.prog Tryz.f6.params.toList l):B3 Tryz.prog 6 l (.b true):=by
 obtain ⟨a1,r1,rfl,h1,rfl⟩:=h
 obtain ⟨l,hl,rfl⟩:=PD h1
 exact RR l hl
end Go.Proofs.YthkklceofokkmaaGreatDoor
