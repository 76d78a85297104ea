/- Draws: what drawn rows are like. Draws: columns of a kind; boxes that say the same with empty rows for nothing laid. -/
import Derived.Test.YthkklceofokkmaaGreatDoorBB13
import Derived.Test.YthkklceofokkmaaGreatDoorBB12
import Derived.Test.YthkklceofokkmaaGreatDoorBB5
import Derived.Test.YthkklceofokkmaaGreatDoorBCd1
import Derived.Test.YthkklceofokkmaaGreatDoorBCm1
import Derived.Test.YthkklceofokkmaaGreatDoorBSx
set_option linter.unusedVariables false
set_option linter.unnecessarySimpa false
set_option linter.unusedSimpArgs false
namespace Go.Proofs.YthkklceofokkmaaGreatDoor
open Go Go.Av
attribute [local irreducible] E5 B7 E6 E7 DQ E8 F0 St.le B3 B5
set_option maxRecDepth 100000
theorem X5 {E:Env} {n:Nat} {σ:St} (i:Nat) {l:List AV} (l':List AV) (hb:B4 σ.hp i = some (.box l)) (hn:Ff l l'):St.le E n σ (σ.set i (.box l')):=by
 unfold St.le
 rintro a w ⟨θ,h⟩
 obtain ⟨hlen,hel⟩:=hn.get
 obtain ⟨_,b,arr,ty,h1,h2,h3,h4⟩:=h.owns i _ hb
 have ht:=h.turn (v':=θ i) (b':=.box l') (w':=w) hb rfl rfl rfl (Nat.le_refl _) (fun _ _ _=>rfl) (fun k hk=>.inl hk) rfl fun le=>?_
 ·exact ⟨_,ht⟩
 ·refine ⟨b,arr,ty,by simp only [cx,F5];exact h1,h2,by omega,fun j x y hx hy=>?_⟩
  obtain ⟨x0,hx0⟩:=P3 hlen hx
  exact Kd (hel j x0 x hx0 hx) ((h4 j x0 y hx0 hy).mono le)
def H2 (s:B2) (kind:Int) (k:Nat):List Nat:=(List.range k).filter fun i=>decide ((C6 s i).kind = kind)
theorem ES (s:B2) (kind:Int) (k:Nat):(H2 s kind k).length ≤ k:=by
 have:=List.length_filter_le (fun i:Nat=>decide ((C6 s i).kind = kind)) (List.range k)
 simpa [H2] using this
theorem NG {s:B2} {kind:Int} {k:Nat} (h:(C6 s k).kind = kind):H2 s kind (k + 1) = H2 s kind k ++ [k]:=by
 simp [H2,List.range_succ,List.filter_append,h]
theorem Pj {s:B2} {kind:Int} {k:Nat} (h:¬ (C6 s k).kind = kind):H2 s kind (k + 1) = H2 s kind k:=by
 simp [H2,List.range_succ,List.filter_append,h]
theorem i8 {s:B2} {kind:Int} {i:Nat}:i ∈ H2 s kind s.cols.length ↔ i < s.cols.length ∧ (C6 s i).kind = kind:=by
 unfold H2
 rw [List.mem_filter,List.mem_range,decide_eq_true_eq]
set_option maxHeartbeats 4000000 in
theorem CH (s:B2) (kind:Int) (hlen:s.cols.length ≤ 1000):B3 Tryz.prog 101 [sA s, .i kind] (.sl 1 ((H2 s kind s.cols.length).map iA)):=by
 refine F7 Tryz.func101 27 fun hrd E h0=>?_
 clear hrd
 repeat' ((first|refine A1 ?_|refine S1 ?_|refine Z1 ?_|refine Z2 ?_|(refine And.intro ?_ ?_<;>intro h<;>try first|(exfalso;omega)|exact absurd rfl h)|refine Z3 ?_|refine Z4 ?_|intro el hel hbB|intro el hel|intro ex|refine Z5 ?_|(refine A8 ?_ ?_;exact ⟨by kernel_rfl,by decide⟩)|refine A7 ?_ ?_|exact A6|refine A3 ?_ ?_|exact A2|(refine A0 ?_ ?_ ?_;kernel_rfl;kernel_rfl)) <;> (try (conv=>whnf)))
 refine D8 (ι:=Nat) (fun k=>⟨[(1, .i kind),(2, .ref 0 0),(5, .row 1 0 (H2 s kind k).length),(9, .i s.cols.length),(10, .i k)],2,[(0,some (.box (sL s))),(1,some (.row 3 1 0 ((H2 s kind k).map iA)))]⟩) (fun k=>k ≤ s.cols.length) (fun k=>s.cols.length - k) 0 (Nat.zero_le _)
  (B8 (EF (d:=5) (e:=3) (sz:=1) rfl) (A5 h0 rfl ⟨rfl,rfl,rfl,rfl,rfl,trivial⟩ ⟨rfl,⟨0,rfl⟩,trivial⟩ rfl rfl rfl)) (fun k hk=>?_)
 have hal:=ES s kind k
 have hca:∀ el,s.cols[k]? = some el → C6 s k = el:=fun el h=>E0 (by simpa using h)
 repeat' ((first|refine A1 ?_|refine S1 ?_|refine Z1 ?_|refine Z2 ?_|(refine And.intro ?_ ?_<;>intro h<;>try first|(exfalso;omega)|exact absurd rfl h)|refine Z3 ?_|refine Z4 ?_|intro el hel hbB|intro el hel|intro ex|refine Z5 ?_|(refine A8 ?_ ?_;exact ⟨by kernel_rfl,by decide⟩)|refine A7 ?_ ?_|exact A6|refine A3 ?_ ?_|exact A2|(refine A0 ?_ ?_ ?_;kernel_rfl;kernel_rfl)) <;> (try (conv=>whnf)))
 all_goals first
  | (have hy:(C6 s k).kind = kind:=by rw [hca _ hel];assumption
     exact ⟨k + 1,by omega,by omega,A5 h0 rfl ⟨rfl,rfl,congrArg (fun z:Nat=>some (AV.row 1 0 z)) (by rw [NG hy,List.length_append];rfl),rfl,rfl,trivial⟩ ⟨rfl,⟨_,congrArg (H4.row 3 1 _) (by rw [NG hy,List.map_append];rfl)⟩,trivial⟩ rfl rfl rfl⟩)
  | (have hy:¬ (C6 s k).kind = kind:=by rw [hca _ hel];assumption
     exact ⟨k + 1,by omega,by omega,A5 h0 rfl ⟨rfl,rfl,congrArg (fun z:Nat=>some (AV.row 1 0 z)) (by rw [Pj hy]),rfl,rfl,trivial⟩ ⟨rfl,⟨_,congrArg (fun z=>H4.row 3 1 0 (z.map iA)) (Pj hy)⟩,trivial⟩ rfl rfl rfl⟩)
  | exact A9 rfl (congrArg (fun z=>AV.sl 1 ((H2 s kind z).map iA)) (by omega))
def k9 (l:List UInt8) (a:Nat) (s:B2) (kind:Int):Nat × Nat:=((H2 s kind s.cols.length).getD (B9 l a (H2 s kind s.cols.length).length).1 0,(B9 l a (H2 s kind s.cols.length).length).2)
theorem AC {l:List UInt8} {a:Nat} {s:B2} {kind:Int} (h:1 ≤ (H2 s kind s.cols.length).length):(H2 s kind s.cols.length)[(B9 l a (H2 s kind s.cols.length).length).1]? = some (k9 l a s kind).1 ∧ (k9 l a s kind).1 < s.cols.length ∧ (C6 s (k9 l a s kind).1).kind = kind:=by
 have hn:=I0 l a (n:=(H2 s kind s.cols.length).length) (by omega)
 have hlt:(B9 l a (H2 s kind s.cols.length).length).1 < (H2 s kind s.cols.length).length:=by omega
 have e:(H2 s kind s.cols.length)[(B9 l a (H2 s kind s.cols.length).length).1]? = some (k9 l a s kind).1:=by
  unfold k9
  dsimp only
  rw [List.getD_eq_getElem?_getD,List.getElem?_eq_getElem hlt]
  rfl
 exact ⟨e,i8.1 (List.mem_of_getElem? e)⟩
theorem F6.two {s:B2} (h:F6 s):1 ≤ (H2 s 2 s.cols.length).length ∧ 1 ≤ (H2 s 3 s.cols.length).length:=by
 have hl:=h.lens
 obtain ⟨b,ms,h1,h2,h3,h4⟩:=h.cs
 have m2:1 ∈ H2 s 2 s.cols.length:=by
  refine i8.2 ⟨by omega,?_⟩
  have:s.cols[1]? = some FE:=by rw [h1];cases b <;> rfl
  rw [show C6 s ((1:Nat):Int) = FE from E0 (by simpa using this)]
  rfl
 have m3:(O3 b).length ∈ H2 s 3 s.cols.length:=by
  have hm:ms[0]? = some (ms[0]'(by omega)):=List.getElem?_eq_getElem (by omega)
  have hc:s.cols[(O3 b).length]? = some (ms[0]'(by omega)):=by rw [h1,List.getElem?_append_right (Nat.le_refl _),Nat.sub_self];exact hm
  refine i8.2 ⟨Q0 hc,?_⟩
  rw [show C6 s (((O3 b).length:Nat):Int) = _ from E0 (by simpa using hc)]
  exact (h4 0 _ hm).kind
 exact ⟨List.length_pos_of_mem m2,List.length_pos_of_mem m3⟩
set_option maxHeartbeats 4000000 in
theorem LH (l:List UInt8) (a:Nat) (s:B2) (hd:F6 s) (hl:l.length ≤ 400):B5 Tryz.prog 63 1 (D9 l a) [.ref 0 0,sA s] 1 (D9 l (k9 l a s 2).2) (.i (k9 l a s 2).1):=by
 have hc:=CH s 2 (by have:=hd.lens;omega)
 have hn:=J9 l a (H2 s 2 s.cols.length).length hl
 have hk:=(AC (l:=l) (a:=a) hd.two.1).1
 have hle:=ES s 2 s.cols.length
 have hln:=hd.lens
 refine G3 Tryz.func63 15 fun E h0=>?_
 repeat' ((first | refine B0 hc ?_ | refine ⟨C3 [0] [0] hn rfl rfl rfl rfl rfl ⟨rfl,trivial⟩ rfl rfl rfl rfl rfl ?_⟩ | (refine B1 hk (by omega) ?_) |refine A1 ?_|refine S1 ?_|refine Z1 ?_|refine Z2 ?_|(refine And.intro ?_ ?_<;>intro h<;>try first|(exfalso;omega)|exact absurd rfl h)|refine Z3 ?_|refine Z4 ?_|intro el hel hbB|intro el hel|intro ex|refine Z5 ?_|(refine A8 ?_ ?_;exact ⟨by kernel_rfl,by decide⟩)|refine A7 ?_ ?_|exact A6|refine A3 ?_ ?_|exact A2|(refine A0 ?_ ?_ ?_;kernel_rfl;kernel_rfl)) <;> (try (conv=>whnf)))
 all_goals exact D4 (A5 h0 rfl ⟨rfl,trivial⟩ ⟨rfl,trivial⟩ rfl rfl rfl)
set_option maxHeartbeats 4000000 in
theorem DW (l:List UInt8) (a:Nat) (s:B2) (hd:F6 s) (hl:l.length ≤ 400):B5 Tryz.prog 55 1 (D9 l a) [.ref 0 0,sA s] 1 (D9 l (k9 l a s 3).2) (.i (k9 l a s 3).1):=by
 have hc:=CH s 3 (by have:=hd.lens;omega)
 have hn:=J9 l a (H2 s 3 s.cols.length).length hl
 have hk:=(AC (l:=l) (a:=a) hd.two.2).1
 have hle:=ES s 3 s.cols.length
 have hln:=hd.lens
 refine G3 Tryz.func55 15 fun E h0=>?_
 repeat' ((first | refine B0 hc ?_ | refine ⟨C3 [0] [0] hn rfl rfl rfl rfl rfl ⟨rfl,trivial⟩ rfl rfl rfl rfl rfl ?_⟩ | (refine B1 hk (by omega) ?_) |refine A1 ?_|refine S1 ?_|refine Z1 ?_|refine Z2 ?_|(refine And.intro ?_ ?_<;>intro h<;>try first|(exfalso;omega)|exact absurd rfl h)|refine Z3 ?_|refine Z4 ?_|intro el hel hbB|intro el hel|intro ex|refine Z5 ?_|(refine A8 ?_ ?_;exact ⟨by kernel_rfl,by decide⟩)|refine A7 ?_ ?_|exact A6|refine A3 ?_ ?_|exact A2|(refine A0 ?_ ?_ ?_;kernel_rfl;kernel_rfl)) <;> (try (conv=>whnf)))
 all_goals exact D4 (A5 h0 rfl ⟨rfl,trivial⟩ ⟨rfl,trivial⟩ rfl rfl rfl)
end Go.Proofs.YthkklceofokkmaaGreatDoor
namespace Go.Proofs.YthkklceofokkmaaGreatDoor
open Go Go.Av
attribute [local irreducible] E5 B7 E6 E7 DQ E8 F0 St.le B3 B5
set_option maxRecDepth 100000
theorem G8 {E:Env} {n:Nat} {σ:St} (d:Nat) {x:AV} (y:AV) (hd:Av.look σ.sl d = some x) (hn:NL x y):St.le E n σ (σ.put d y):=by
 unfold St.le
 rintro a w ⟨θ,h⟩
 refine ⟨θ,h.size,h.defers,h.fr,fun s z hs=>?_,h.owns,h.apart,h.mine,h.X,h.base⟩
 simp only [St.put,H5] at hs
 by_cases e:d = s
 ·subst e
  rw [if_pos rfl] at hs
  cases hs
  exact Kd hn (h.slots d x hd)
 ·rw [if_neg e] at hs
  exact h.slots s z hs
def BJ (l:List UInt8) (s:B2) (a:Nat):A4 × Nat :=
 let q:=B9 l a 5
 if (q.1:Int) = 1 then
  let k:=k9 l q.2 s 2
  let n:=B9 l k.2 (D7 s (C6 s k.1)).2.length
  (.mk 2 k.1 n.1 0 0 [],n.2)
 else if (q.1:Int) = 2 ∨ (q.1:Int) = 3 then
  let k:=k9 l q.2 s 3
  let r:=B9 l k.2 44
  let h:=B9 l r.2 30
  (.mk 3 k.1 0 ((C6 s k.1).low + (-3 + r.1)) ((C6 s k.1).low + (-3 + r.1) + h.1) [],h.2)
 else if (q.1:Int) = 4 then
  let k:=k9 l q.2 s 3
  (if (C6 s k.1).opt = true then .mk 4 k.1 0 0 0 [] else .mk 1 0 0 0 0 [],k.2)
 else (.mk 1 0 0 0 0 [],q.2)
def K6 (l:List UInt8) (s:B2):Nat → Nat → A4 × Nat
 | 0,a=>BJ l s a
 | d + 1,a =>
   let q:=B9 l a 5
   if (q.1:Int) = 2 then
    let x:=K6 l s d q.2
    (.mk 7 0 0 0 0 [x.1],x.2)
   else if (q.1:Int) = 3 then
    let x:=K6 l s d q.2
    let y:=K6 l s d x.2
    (.mk 5 0 0 0 0 [x.1,y.1],y.2)
   else if (q.1:Int) = 4 then
    let x:=K6 l s d q.2
    let y:=K6 l s d x.2
    (.mk 6 0 0 0 0 [x.1,y.1],y.2)
   else BJ l s q.2
theorem K7 (o c k lo hi:Int):NL (.agg [.i o, .i c, .i k, .i lo, .i hi, .v (.slice none 0 0)]) (L8 (.mk o c k lo hi [])) :=
 Hh ⟨.refl _, .refl _, .refl _, .refl _, .refl _, .nil 6,trivial⟩
theorem Vg (o:Int) (x:A4):NL (.agg [.i o, .i 0, .i 0, .i 0, .i 0, .sl 6 [P4 x]]) (L8 (.mk o 0 0 0 0 [x])):=by
 rw [← Fd];exact .refl _
theorem Fh (o:Int) (x y:A4):NL (.agg [.i o, .i 0, .i 0, .i 0, .i 0, .sl 6 [P4 x,P4 y]]) (L8 (.mk o 0 0 0 0 [x,y])):=by
 rw [← Fd, ← Fd];exact .refl _
abbrev O0:Nat:=25
set_option maxHeartbeats 8000000 in
theorem Er (l:List UInt8) (s:B2) (hd:F6 s) (hl:l.length ≤ 400) (d:Nat):∀ a:Nat,d ≤ 10 → B5 Tryz.prog 30 1 (D9 l a) [.ref 0 0,sA s, .i d] 1 (D9 l (K6 l s d a).2) (L8 (K6 l s d a).1):=by
 induction d with
 | zero =>
   intro a _
   show B5 _ _ _ _ _ _ (D9 l (BJ l s a).2) (L8 (BJ l s a).1)
   unfold BJ
   have r1:=J9 l a 5 hl
   have h5:=I0 l a (n:=5) (by omega)
   generalize B9 l a 5 = q at *
   obtain ⟨q1,q2⟩:=q
   dsimp only at r1 h5 ⊢
   have r2:=LH l q2 s hd hl
   obtain ⟨_,k1,k2⟩:=AC (l:=l) (a:=q2) hd.two.1
   generalize k9 l q2 s 2 = k at *
   obtain ⟨ka,kb⟩:=k
   dsimp only at r2 k1 k2 ⊢
   obtain ⟨c,hc⟩:∃ c,s.cols[ka]? = some c:=⟨_,List.getElem?_eq_getElem k1⟩
   have hca:C6 s ka = c:=E0 (by simpa using hc)
   rw [hca] at k2 ⊢
   obtain ⟨hlst,_⟩:=hd.lvs hc k2
   obtain ⟨lx,hlx⟩:∃ lx,s.lists[c.lst.toNat]? = some lx:=⟨_,List.getElem?_eq_getElem (by omega)⟩
   rw [Q1 hlx]
   have r3:=J9 l kb lx.2.length hl
   have r4:=DW l q2 s hd hl
   obtain ⟨_,m1,m2⟩:=AC (l:=l) (a:=q2) hd.two.2
   generalize k9 l q2 s 3 = m at *
   obtain ⟨ma,mb⟩:=m
   dsimp only at r4 m1 m2 ⊢
   obtain ⟨x,hx⟩:∃ x,s.cols[ma]? = some x:=⟨_,List.getElem?_eq_getElem m1⟩
   have hxa:C6 s ma = x:=E0 (by simpa using hx)
   rw [hxa] at m2 ⊢
   have hxb:-4 ≤ x.low ∧ x.low ≤ 2:=by
    rcases hd.col hx with ⟨_,rfl⟩ | ⟨_,rfl | rfl⟩ | ⟨_,nm,hm⟩
    ·cases m2
    ·cases m2
    ·cases m2
    ·exact hm.low
   have r5:=Y0 l mb (-3) 40 hl (by omega) (by omega) (by omega)
   rw [show (40:Int) - -3 + 1 = 44 from rfl] at r5
   have h44:=I0 l mb (n:=44) (by omega)
   generalize B9 l mb 44 = r at *
   obtain ⟨ra,rb⟩:=r
   dsimp only at r5 h44 ⊢
   have r6:=J9 l rb 30 hl
   have h30:=I0 l rb (n:=30) (by omega)
   generalize B9 l rb 30 = u at *
   obtain ⟨ua,ub⟩:=u
   generalize B9 l kb lx.2.length = v at *
   obtain ⟨va,vb⟩:=v
   dsimp only at r3 r6 h30 ⊢
   refine G3 Tryz.func30 111 fun E h0=>?_
   repeat' ((first | refine ⟨C3 [0] [0] r1 rfl rfl rfl rfl rfl ⟨rfl,trivial⟩ rfl rfl rfl rfl rfl ?_⟩ | refine ⟨C3 [0] [0] r2 rfl rfl rfl rfl rfl ⟨rfl,trivial⟩ rfl rfl rfl rfl rfl ?_⟩ | refine ⟨C3 [0] [0] r3 rfl rfl rfl rfl rfl ⟨rfl,trivial⟩ rfl rfl rfl rfl rfl ?_⟩ | refine ⟨C3 [0] [0] r4 rfl rfl rfl rfl rfl ⟨rfl,trivial⟩ rfl rfl rfl rfl rfl ?_⟩ | refine ⟨C3 [0] [0] r5 rfl rfl rfl rfl rfl ⟨rfl,trivial⟩ rfl rfl rfl rfl rfl ?_⟩ | refine ⟨C3 [0] [0] r6 rfl rfl rfl rfl rfl ⟨rfl,trivial⟩ rfl rfl rfl rfl rfl ?_⟩ | (refine B1 (x:=c) hc (by omega) ?_) | (refine B1 (x:=lx) hlx (by omega) ?_) | (refine B1 (x:=x) hx (by omega) ?_) | (refine E3 12 ?_;refine F3 (id:=12) ⟨[(6, .ref 2 0)],3,[(0,some (.box [.sl 1 (l.map S6), .i vb])),(2,some (.box [.i 2, .i ka, .i va, .i 0, .i 0, .v (.slice none 0 0)]))]⟩ ?_ ?_) | (refine E3 16 ?_;refine F3 (id:=16) ⟨[(0, .ref 0 0),(4, .ref 1 0),(6, .ref 2 0),(8, .i ma),(9, .i (x.low + (-3 + ra)))],3,[(0,some (.box [.sl 1 (l.map S6), .i rb])),(1,some (.box (sL s))),(2,some (.box [.i 0, .i 0, .i 0, .i 0, .i 0, .v (.slice none 0 0)]))]⟩ ?_ ?_) |refine A1 ?_|refine S1 ?_|refine Z1 ?_|refine Z2 ?_|(refine And.intro ?_ ?_<;>intro h<;>try first|(exfalso;omega)|exact absurd rfl h)|refine Z3 ?_|refine Z4 ?_|intro el hel hbB|intro el hel|intro ex|refine Z5 ?_|(refine A8 ?_ ?_;exact ⟨by kernel_rfl,by decide⟩)|refine A7 ?_ ?_|exact A6|refine A3 ?_ ?_|exact A2|(refine A0 ?_ ?_ ?_;kernel_rfl;kernel_rfl)) <;> (try (conv=>whnf)))
   all_goals first
    | exact A5 h0 rfl ⟨rfl,trivial⟩ ⟨rfl,rfl,trivial⟩ rfl rfl rfl
    | exact A5 h0 rfl ⟨rfl,rfl,rfl,rfl,rfl,trivial⟩ ⟨rfl,rfl,rfl,trivial⟩ rfl rfl rfl
    | (rw [if_pos (by assumption)];exact D0 (rvs:=[.cell 6 O0]) (vs:=[_]) ⟨2,_,_,rfl,rfl,inferInstance,rfl,rfl,trivial⟩ rfl rfl (B8 (G8 6 _ rfl (K7 2 ka va 0 0)) (A5 h0 rfl ⟨rfl,trivial⟩ ⟨rfl,trivial⟩ rfl rfl rfl)) rfl)
    | (rw [if_neg (by omega),if_pos (by omega)];exact D0 (rvs:=[.cell 6 O0]) (vs:=[_]) ⟨2,_,_,rfl,rfl,inferInstance,rfl,rfl,trivial⟩ rfl rfl (B8 (G8 6 _ rfl (K7 3 ma 0 (x.low + (-3 + ra)) (x.low + (-3 + ra) + ua))) (A5 h0 rfl ⟨rfl,trivial⟩ ⟨rfl,trivial⟩ rfl rfl rfl)) rfl)
    | (rw [if_neg (by omega),if_neg (by omega),if_pos (by omega),if_pos (by assumption)];exact D0 (rvs:=[.cell 6 O0]) (vs:=[_]) ⟨2,_,_,rfl,rfl,inferInstance,rfl,rfl,trivial⟩ rfl rfl (B8 (G8 6 _ rfl (K7 4 ma 0 0 0)) (A5 h0 rfl ⟨rfl,trivial⟩ ⟨rfl,trivial⟩ rfl rfl rfl)) rfl)
    | (rw [if_neg (by omega),if_neg (by omega),if_pos (by omega),if_neg (by assumption)];exact D0 (rvs:=[.cell 6 O0]) (vs:=[_]) ⟨2,_,_,rfl,rfl,inferInstance,rfl,rfl,trivial⟩ rfl rfl (B8 (G8 6 _ rfl (K7 1 0 0 0 0)) (A5 h0 rfl ⟨rfl,trivial⟩ ⟨rfl,trivial⟩ rfl rfl rfl)) rfl)
    | (rw [if_neg (by omega),if_neg (by omega),if_pos (by omega),if_neg (by rw [h];exact Bool.false_ne_true)];exact D0 (rvs:=[.cell 6 O0]) (vs:=[_]) ⟨2,_,_,rfl,rfl,inferInstance,rfl,rfl,trivial⟩ rfl rfl (B8 (G8 6 _ rfl (K7 1 0 0 0 0)) (A5 h0 rfl ⟨rfl,trivial⟩ ⟨rfl,trivial⟩ rfl rfl rfl)) rfl)
    | (rw [if_neg (by omega),if_neg (by omega),if_neg (by omega)];exact D0 (rvs:=[.cell 6 O0]) (vs:=[_]) ⟨2,_,_,rfl,rfl,inferInstance,rfl,rfl,trivial⟩ rfl rfl (B8 (G8 6 _ rfl (K7 1 0 0 0 0)) (A5 h0 rfl ⟨rfl,trivial⟩ ⟨rfl,trivial⟩ rfl rfl rfl)) rfl)
 | succ d ih =>
   intro a hd10
   have e1:(((d + 1:Nat):Int) - 1) = (d:Int):=by omega
   unfold K6 BJ
   have r0:=J9 l a 5 hl
   have g5:=I0 l a (n:=5) (by omega)
   generalize B9 l a 5 = p at *
   obtain ⟨p1,p2⟩:=p
   dsimp only at r0 g5 ⊢
   have hX:=ih p2 (by omega)
   rw [← e1] at hX
   generalize K6 l s d p2 = X at *
   obtain ⟨X1,X2⟩:=X
   dsimp only at hX ⊢
   have hY:=ih X2 (by omega)
   rw [← e1] at hY
   generalize K6 l s d X2 = Y at *
   obtain ⟨Y1,Y2⟩:=Y
   dsimp only at hY ⊢
   have r1:=J9 l p2 5 hl
   have h5:=I0 l a (n:=5) (by omega)
   generalize B9 l p2 5 = q at *
   obtain ⟨q1,q2⟩:=q
   dsimp only at r1 h5 ⊢
   have r2:=LH l q2 s hd hl
   obtain ⟨_,k1,k2⟩:=AC (l:=l) (a:=q2) hd.two.1
   generalize k9 l q2 s 2 = k at *
   obtain ⟨ka,kb⟩:=k
   dsimp only at r2 k1 k2 ⊢
   obtain ⟨c,hc⟩:∃ c,s.cols[ka]? = some c:=⟨_,List.getElem?_eq_getElem k1⟩
   have hca:C6 s ka = c:=E0 (by simpa using hc)
   rw [hca] at k2 ⊢
   obtain ⟨hlst,_⟩:=hd.lvs hc k2
   obtain ⟨lx,hlx⟩:∃ lx,s.lists[c.lst.toNat]? = some lx:=⟨_,List.getElem?_eq_getElem (by omega)⟩
   rw [Q1 hlx]
   have r3:=J9 l kb lx.2.length hl
   have r4:=DW l q2 s hd hl
   obtain ⟨_,m1,m2⟩:=AC (l:=l) (a:=q2) hd.two.2
   generalize k9 l q2 s 3 = m at *
   obtain ⟨ma,mb⟩:=m
   dsimp only at r4 m1 m2 ⊢
   obtain ⟨x,hx⟩:∃ x,s.cols[ma]? = some x:=⟨_,List.getElem?_eq_getElem m1⟩
   have hxa:C6 s ma = x:=E0 (by simpa using hx)
   rw [hxa] at m2 ⊢
   have hxb:-4 ≤ x.low ∧ x.low ≤ 2:=by
    rcases hd.col hx with ⟨_,rfl⟩ | ⟨_,rfl | rfl⟩ | ⟨_,nm,hm⟩
    ·cases m2
    ·cases m2
    ·cases m2
    ·exact hm.low
   have r5:=Y0 l mb (-3) 40 hl (by omega) (by omega) (by omega)
   rw [show (40:Int) - -3 + 1 = 44 from rfl] at r5
   have h44:=I0 l mb (n:=44) (by omega)
   generalize B9 l mb 44 = r at *
   obtain ⟨ra,rb⟩:=r
   dsimp only at r5 h44 ⊢
   have r6:=J9 l rb 30 hl
   have h30:=I0 l rb (n:=30) (by omega)
   generalize B9 l rb 30 = u at *
   obtain ⟨ua,ub⟩:=u
   generalize B9 l kb lx.2.length = v at *
   obtain ⟨va,vb⟩:=v
   dsimp only at r3 r6 h30 ⊢
   clear ih e1
   refine G3 Tryz.func30 111 fun E h0=>?_
   repeat' ((first | refine ⟨C3 [0] [0] r0 rfl rfl rfl rfl rfl ⟨rfl,trivial⟩ rfl rfl rfl rfl rfl ?_⟩ | refine ⟨C3 [0] [0] hX rfl rfl rfl rfl rfl ⟨rfl,trivial⟩ rfl rfl rfl rfl rfl ?_⟩ | refine ⟨C3 [0] [0] hY rfl rfl rfl rfl rfl ⟨rfl,trivial⟩ rfl rfl rfl rfl rfl ?_⟩ | (refine E3 6 ?_;refine F3 (id:=6) ⟨[(6, .ref 2 0)],3,[(0,some (.box [.sl 1 (l.map S6), .i Y2])),(2,some (.box [.i 5, .i 0, .i 0, .i 0, .i 0, .sl 6 [P4 X1,P4 Y1]]))]⟩ ?_ ?_) | (refine E3 8 ?_;refine F3 (id:=8) ⟨[(6, .ref 2 0)],3,[(0,some (.box [.sl 1 (l.map S6), .i Y2])),(2,some (.box [.i 6, .i 0, .i 0, .i 0, .i 0, .sl 6 [P4 X1,P4 Y1]]))]⟩ ?_ ?_) | refine ⟨C3 [0] [0] r1 rfl rfl rfl rfl rfl ⟨rfl,trivial⟩ rfl rfl rfl rfl rfl ?_⟩ | refine ⟨C3 [0] [0] r2 rfl rfl rfl rfl rfl ⟨rfl,trivial⟩ rfl rfl rfl rfl rfl ?_⟩ | refine ⟨C3 [0] [0] r3 rfl rfl rfl rfl rfl ⟨rfl,trivial⟩ rfl rfl rfl rfl rfl ?_⟩ | refine ⟨C3 [0] [0] r4 rfl rfl rfl rfl rfl ⟨rfl,trivial⟩ rfl rfl rfl rfl rfl ?_⟩ | refine ⟨C3 [0] [0] r5 rfl rfl rfl rfl rfl ⟨rfl,trivial⟩ rfl rfl rfl rfl rfl ?_⟩ | refine ⟨C3 [0] [0] r6 rfl rfl rfl rfl rfl ⟨rfl,trivial⟩ rfl rfl rfl rfl rfl ?_⟩ | (refine B1 (x:=c) hc (by omega) ?_) | (refine B1 (x:=lx) hlx (by omega) ?_) | (refine B1 (x:=x) hx (by omega) ?_) | (refine E3 12 ?_;refine F3 (id:=12) ⟨[(6, .ref 2 0)],3,[(0,some (.box [.sl 1 (l.map S6), .i vb])),(2,some (.box [.i 2, .i ka, .i va, .i 0, .i 0, .v (.slice none 0 0)]))]⟩ ?_ ?_) | (refine E3 16 ?_;refine F3 (id:=16) ⟨[(0, .ref 0 0),(4, .ref 1 0),(6, .ref 2 0),(8, .i ma),(9, .i (x.low + (-3 + ra)))],3,[(0,some (.box [.sl 1 (l.map S6), .i rb])),(1,some (.box (sL s))),(2,some (.box [.i 0, .i 0, .i 0, .i 0, .i 0, .v (.slice none 0 0)]))]⟩ ?_ ?_) |refine A1 ?_|refine S1 ?_|refine Z1 ?_|refine Z2 ?_|(refine And.intro ?_ ?_<;>intro h<;>try first|(exfalso;omega)|exact absurd rfl h)|refine Z3 ?_|refine Z4 ?_|intro el hel hbB|intro el hel|intro ex|refine Z5 ?_|(refine A8 ?_ ?_;exact ⟨by kernel_rfl,by decide⟩)|refine A7 ?_ ?_|exact A6|refine A3 ?_ ?_|exact A2|(refine A0 ?_ ?_ ?_;kernel_rfl;kernel_rfl)) <;> (try (conv=>whnf)))
   all_goals first
    | (rw [if_pos (by assumption)];exact D0 (rvs:=[.cell 6 O0]) (vs:=[_]) ⟨2,_,_,rfl,rfl,inferInstance,rfl,rfl,trivial⟩ rfl rfl (B8 (G8 6 _ rfl (Vg 7 X1)) (A5 h0 rfl ⟨rfl,trivial⟩ ⟨rfl,trivial⟩ rfl rfl rfl)) rfl)
    | (rw [if_neg (by omega),if_pos (by assumption)];exact D0 (rvs:=[.cell 6 O0]) (vs:=[_]) ⟨2,_,_,rfl,rfl,inferInstance,rfl,rfl,trivial⟩ rfl rfl (B8 (G8 6 _ rfl (Fh 5 X1 Y1)) (A5 h0 rfl ⟨rfl,trivial⟩ ⟨rfl,trivial⟩ rfl rfl rfl)) rfl)
    | (rw [if_neg (by omega),if_neg (by omega),if_pos (by assumption)];exact D0 (rvs:=[.cell 6 O0]) (vs:=[_]) ⟨2,_,_,rfl,rfl,inferInstance,rfl,rfl,trivial⟩ rfl rfl (B8 (G8 6 _ rfl (Fh 6 X1 Y1)) (A5 h0 rfl ⟨rfl,trivial⟩ ⟨rfl,trivial⟩ rfl rfl rfl)) rfl)
    | exact A5 h0 rfl ⟨rfl,trivial⟩ ⟨rfl,rfl,trivial⟩ rfl rfl rfl
    | exact A5 h0 rfl ⟨rfl,rfl,rfl,rfl,rfl,trivial⟩ ⟨rfl,rfl,rfl,trivial⟩ rfl rfl rfl
    | (rw [if_neg (by omega),if_neg (by omega),if_neg (by omega),if_pos (by assumption)];exact D0 (rvs:=[.cell 6 O0]) (vs:=[_]) ⟨2,_,_,rfl,rfl,inferInstance,rfl,rfl,trivial⟩ rfl rfl (B8 (G8 6 _ rfl (K7 2 ka va 0 0)) (A5 h0 rfl ⟨rfl,trivial⟩ ⟨rfl,trivial⟩ rfl rfl rfl)) rfl)
    | (rw [if_neg (by omega),if_neg (by omega),if_neg (by omega),if_neg (by omega),if_pos (by omega)];exact D0 (rvs:=[.cell 6 O0]) (vs:=[_]) ⟨2,_,_,rfl,rfl,inferInstance,rfl,rfl,trivial⟩ rfl rfl (B8 (G8 6 _ rfl (K7 3 ma 0 (x.low + (-3 + ra)) (x.low + (-3 + ra) + ua))) (A5 h0 rfl ⟨rfl,trivial⟩ ⟨rfl,trivial⟩ rfl rfl rfl)) rfl)
    | (rw [if_neg (by omega),if_neg (by omega),if_neg (by omega),if_neg (by omega),if_neg (by omega),if_pos (by omega),if_pos (by assumption)];exact D0 (rvs:=[.cell 6 O0]) (vs:=[_]) ⟨2,_,_,rfl,rfl,inferInstance,rfl,rfl,trivial⟩ rfl rfl (B8 (G8 6 _ rfl (K7 4 ma 0 0 0)) (A5 h0 rfl ⟨rfl,trivial⟩ ⟨rfl,trivial⟩ rfl rfl rfl)) rfl)
    | (rw [if_neg (by omega),if_neg (by omega),if_neg (by omega),if_neg (by omega),if_neg (by omega),if_pos (by omega),if_neg (by assumption)];exact D0 (rvs:=[.cell 6 O0]) (vs:=[_]) ⟨2,_,_,rfl,rfl,inferInstance,rfl,rfl,trivial⟩ rfl rfl (B8 (G8 6 _ rfl (K7 1 0 0 0 0)) (A5 h0 rfl ⟨rfl,trivial⟩ ⟨rfl,trivial⟩ rfl rfl rfl)) rfl)
    | (rw [if_neg (by omega),if_neg (by omega),if_neg (by omega),if_neg (by omega),if_neg (by omega),if_pos (by omega),if_neg (by rw [h];exact Bool.false_ne_true)];exact D0 (rvs:=[.cell 6 O0]) (vs:=[_]) ⟨2,_,_,rfl,rfl,inferInstance,rfl,rfl,trivial⟩ rfl rfl (B8 (G8 6 _ rfl (K7 1 0 0 0 0)) (A5 h0 rfl ⟨rfl,trivial⟩ ⟨rfl,trivial⟩ rfl rfl rfl)) rfl)
    | (rw [if_neg (by omega),if_neg (by omega),if_neg (by omega),if_neg (by omega),if_neg (by omega),if_neg (by omega)];exact D0 (rvs:=[.cell 6 O0]) (vs:=[_]) ⟨2,_,_,rfl,rfl,inferInstance,rfl,rfl,trivial⟩ rfl rfl (B8 (G8 6 _ rfl (K7 1 0 0 0 0)) (A5 h0 rfl ⟨rfl,trivial⟩ ⟨rfl,trivial⟩ rfl rfl rfl)) rfl)
end Go.Proofs.YthkklceofokkmaaGreatDoor
namespace Go.Proofs.YthkklceofokkmaaGreatDoor
open Go Go.Av
attribute [local irreducible] E5 B7 E6 E7 DQ E8 F0 St.le B3 B5
set_option maxRecDepth 100000
def LI (f g:Nat → Int) (L:List Nat):Prop:=∀ x ∈ L,∀ y ∈ L,f x = f y → g x = g y
instance (f g:Nat → Int) (L:List Nat):Decidable (LI f g L):=by unfold LI;infer_instance
def Zg (f:Nat → Int) (l:List Nat) (k:Nat) (b:Int):Option Nat:=(l.take k).reverse.find? fun x=>decide (f x = b)
def Ti (f:Nat → Int) (l:List Nat) (k:Nat) (b:Int):Bool:=(Zg f l k b).isSome
def Tj (f g:Nat → Int) (l:List Nat) (k:Nat) (b:Int):Int:=((Zg f l k b).map g).getD 0
theorem Xt {f g:Nat → Int} {l:List Nat} {k:Nat} {b:Int} (h:Ti f l k b = true):∃ x ∈ l.take k,f x = b ∧ Tj f g l k b = g x:=by
 unfold Ti at h
 unfold Tj
 obtain ⟨x,hx⟩:=Option.isSome_iff_exists.1 h
 refine ⟨x,?_,?_,by rw [hx];rfl⟩
 ·exact List.mem_reverse.1 (List.mem_of_find?_eq_some hx)
 ·simpa using List.find?_some hx
theorem LI.not {f g:Nat → Int} {l:List Nat} {k x:Nat} (hx:l[k]? = some x) (hs:Ti f l k (f x) = true) (hv:Tj f g l k (f x) ≠ g x):¬ LI f g l:=by
 intro h
 obtain ⟨z,hz,e1,e2⟩:=Xt (g:=g) hs
 rw [e2] at hv
 exact hv (h z (List.mem_of_mem_take hz) x (List.mem_of_getElem? hx) e1)
def Xu (a:A4) (x:G9) (level:Int):Prop :=
 if level = 0 then x.opt = false ∧ ¬ (x.low < a.lo ∧ a.lo ≤ x.high) ∧ ¬ (x.low ≤ a.hi ∧ a.hi < x.high)
 else ((x.low < a.lo ∧ a.lo ≤ x.high) → a.lo.tmod (G0 x level) = 0) ∧ ((x.low ≤ a.hi ∧ a.hi < x.high) → (a.hi + 1).tmod (G0 x level) = 0)
instance (a:A4) (x:G9) (level:Int):Decidable (Xu a x level):=by unfold Xu;infer_instance
def fY (s:B2) (a:A4) (level:Int):Bool :=
 if a.op = 2 then decide (LI (fun x=>BC (D7 s (C6 s a.col)).1 (D7 s (C6 s a.col)).2 x level) (fun x=>eo s a x) (Lx s a.col))
 else if a.op = 4 then decide (0 < level) else decide (Xu a (C6 s a.col) level)
end Go.Proofs.YthkklceofokkmaaGreatDoor
