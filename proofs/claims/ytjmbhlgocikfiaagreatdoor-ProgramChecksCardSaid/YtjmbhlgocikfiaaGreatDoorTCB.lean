/- Draws: what drawn rows are like. Draws: columns of a kind; boxes that say the same with empty rows for nothing laid. -/
import Derived.Test.YtjmbhlgocikfiaaGreatDoorTB13
import Derived.Test.YtjmbhlgocikfiaaGreatDoorTB12
import Derived.Test.YtjmbhlgocikfiaaGreatDoorTB5
import Derived.Test.YtjmbhlgocikfiaaGreatDoorTAvTy
import Derived.Test.YtjmbhlgocikfiaaGreatDoorTE3
import Derived.Test.YtjmbhlgocikfiaaGreatDoorTSx
set_option linter.unusedVariables false
set_option linter.unnecessarySimpa false
set_option linter.unusedSimpArgs false
namespace Go.Proofs.YtjmbhlgocikfiaaGreatDoor
open Go Go.Av
attribute [local irreducible] AWp AOps AAny MAny DQ retQ retG St.le FCall GCall
set_option maxRecDepth 100000
def colsK (s:Sch) (kind:Int) (k:Nat):List Nat:=(List.range k).filter fun i=>decide ((colAt s i).kind = kind)
theorem colsK_le (s:Sch) (kind:Int) (k:Nat):(colsK s kind k).length ≤ k:=by
 have:=List.length_filter_le (fun i:Nat=>decide ((colAt s i).kind = kind)) (List.range k)
 simpa [colsK] using this
theorem colsK_yes {s:Sch} {kind:Int} {k:Nat} (h:(colAt s k).kind = kind):colsK s kind (k + 1) = colsK s kind k ++ [k]:=by
 simp [colsK,List.range_succ,List.filter_append,h]
theorem colsK_no {s:Sch} {kind:Int} {k:Nat} (h:¬ (colAt s k).kind = kind):colsK s kind (k + 1) = colsK s kind k:=by
 simp [colsK,List.range_succ,List.filter_append,h]
theorem colsK_mem {s:Sch} {kind:Int} {i:Nat}:i ∈ colsK s kind s.cols.length ↔ i < s.cols.length ∧ (colAt s i).kind = kind:=by
 unfold colsK
 rw [List.mem_filter,List.mem_range,decide_eq_true_eq]
set_option maxHeartbeats 4000000 in
theorem columns_call (s:Sch) (kind:Int) (hlen:s.cols.length ≤ 1000):FCall Tryz.prog 84 [sA s, .i kind] (.sl 1 ((colsK s kind s.cols.length).map iA)):=by
 refine fci Tryz.func84 27 fun hrd E h0=>?_
 clear hrd
 repeat' ((first|refine aops_go ?_|refine S1 ?_|refine Z1 ?_|refine Z2 ?_|(refine And.intro ?_ ?_<;>intro h<;>try first|(exfalso;omega)|exact absurd rfl h)|refine Z3 ?_|refine Z4 ?_|intro el hel hbB|intro el hel|intro ex|refine Z5 ?_|(refine free_i ?_ ?_;exact ⟨by kernel_rfl,by decide⟩)|refine allI_c ?_ ?_|exact allI_n|refine allMP_c ?_ ?_|exact allMP_n|(refine many_step ?_ ?_ ?_;kernel_rfl;kernel_rfl)) <;> (try (conv=>whnf)))
 refine loop_i (ι:=Nat) (fun k=>⟨[(1, .i kind),(2, .ref 0 0),(5, .row 1 0 (colsK s kind k).length),(9, .i s.cols.length),(10, .i k)],2,[(0,some (.box (sL s))),(1,some (.row 3 1 0 ((colsK s kind k).map iA)))]⟩) (fun k=>k ≤ s.cols.length) (fun k=>s.cols.length - k) 0 (Nat.zero_le _)
  (le_trans (le_adopt (d:=5) (e:=3) (sz:=1) rfl) (le_of h0 rfl ⟨rfl,rfl,rfl,rfl,rfl,trivial⟩ ⟨rfl,⟨0,rfl⟩,trivial⟩ rfl rfl rfl)) (fun k hk=>?_)
 have hal:=colsK_le s kind k
 have hca:∀ el,s.cols[k]? = some el → colAt s k = el:=fun el h=>colAt_get (by simpa using h)
 repeat' ((first|refine aops_go ?_|refine S1 ?_|refine Z1 ?_|refine Z2 ?_|(refine And.intro ?_ ?_<;>intro h<;>try first|(exfalso;omega)|exact absurd rfl h)|refine Z3 ?_|refine Z4 ?_|intro el hel hbB|intro el hel|intro ex|refine Z5 ?_|(refine free_i ?_ ?_;exact ⟨by kernel_rfl,by decide⟩)|refine allI_c ?_ ?_|exact allI_n|refine allMP_c ?_ ?_|exact allMP_n|(refine many_step ?_ ?_ ?_;kernel_rfl;kernel_rfl)) <;> (try (conv=>whnf)))
 all_goals first
  | (have hy:(colAt s k).kind = kind:=by rw [hca _ hel];assumption
     exact ⟨k + 1,by omega,by omega,le_of h0 rfl ⟨rfl,rfl,congrArg (fun z:Nat=>some (AV.row 1 0 z)) (by rw [colsK_yes hy,List.length_append];rfl),rfl,rfl,trivial⟩ ⟨rfl,⟨_,congrArg (Blk.row 3 1 _) (by rw [colsK_yes hy,List.map_append];rfl)⟩,trivial⟩ rfl rfl rfl⟩)
  | (have hy:¬ (colAt s k).kind = kind:=by rw [hca _ hel];assumption
     exact ⟨k + 1,by omega,by omega,le_of h0 rfl ⟨rfl,rfl,congrArg (fun z:Nat=>some (AV.row 1 0 z)) (by rw [colsK_no hy]),rfl,rfl,trivial⟩ ⟨rfl,⟨_,congrArg (fun z=>Blk.row 3 1 0 (z.map iA)) (colsK_no hy)⟩,trivial⟩ rfl rfl rfl⟩)
  | exact ret_tmp rfl (congrArg (fun z=>AV.sl 1 ((colsK s kind z).map iA)) (by omega))
def colD (l:List UInt8) (a:Nat) (s:Sch) (kind:Int):Nat × Nat:=((colsK s kind s.cols.length).getD (nxt l a (colsK s kind s.cols.length).length).1 0,(nxt l a (colsK s kind s.cols.length).length).2)
theorem colD_ok {l:List UInt8} {a:Nat} {s:Sch} {kind:Int} (h:1 ≤ (colsK s kind s.cols.length).length):(colsK s kind s.cols.length)[(nxt l a (colsK s kind s.cols.length).length).1]? = some (colD l a s kind).1 ∧ (colD l a s kind).1 < s.cols.length ∧ (colAt s (colD l a s kind).1).kind = kind:=by
 have hn:=nxt_lt l a (n:=(colsK s kind s.cols.length).length) (by omega)
 have hlt:(nxt l a (colsK s kind s.cols.length).length).1 < (colsK s kind s.cols.length).length:=by omega
 have e:(colsK s kind s.cols.length)[(nxt l a (colsK s kind s.cols.length).length).1]? = some (colD l a s kind).1:=by
  unfold colD
  dsimp only
  rw [List.getD_eq_getElem?_getD,List.getElem?_eq_getElem hlt]
  rfl
 exact ⟨e,colsK_mem.1 (List.mem_of_getElem? e)⟩
theorem Drawn.two {s:Sch} (h:Drawn s):1 ≤ (colsK s 2 s.cols.length).length ∧ 1 ≤ (colsK s 3 s.cols.length).length:=by
 have hl:=h.lens
 obtain ⟨b,ms,h1,h2,h3,h4⟩:=h.cs
 have m2:1 ∈ colsK s 2 s.cols.length:=by
  refine colsK_mem.2 ⟨by omega,?_⟩
  have:s.cols[1]? = some sexC:=by rw [h1];cases b <;> rfl
  rw [show colAt s ((1:Nat):Int) = sexC from colAt_get (by simpa using this)]
  rfl
 have m3:(baseC b).length ∈ colsK s 3 s.cols.length:=by
  have hm:ms[0]? = some (ms[0]'(by omega)):=List.getElem?_eq_getElem (by omega)
  have hc:s.cols[(baseC b).length]? = some (ms[0]'(by omega)):=by rw [h1,List.getElem?_append_right (Nat.le_refl _),Nat.sub_self];exact hm
  refine colsK_mem.2 ⟨lt_of_get hc,?_⟩
  rw [show colAt s (((baseC b).length:Nat):Int) = _ from colAt_get (by simpa using hc)]
  exact (h4 0 _ hm).kind
 exact ⟨List.length_pos_of_mem m2,List.length_pos_of_mem m3⟩
set_option maxHeartbeats 4000000 in
theorem coded_call (l:List UInt8) (a:Nat) (s:Sch) (hd:Drawn s) (hl:l.length ≤ 400):GCall Tryz.prog 41 1 (drB l a) [.ref 0 0,sA s] 1 (drB l (colD l a s 2).2) (.i (colD l a s 2).1):=by
 have hc:=columns_call s 2 (by have:=hd.lens;omega)
 have hn:=next_call l a (colsK s 2 s.cols.length).length hl
 have hk:=(colD_ok (l:=l) (a:=a) hd.two.1).1
 have hle:=colsK_le s 2 s.cols.length
 have hln:=hd.lens
 refine gci Tryz.func41 15 fun E h0=>?_
 repeat' ((first | refine call_i hc ?_ | refine ⟨ncall_h [0] [0] hn rfl rfl rfl rfl rfl ⟨rfl,trivial⟩ rfl rfl rfl rfl rfl ?_⟩ | (refine each_knownm hk (by omega) ?_) |refine aops_go ?_|refine S1 ?_|refine Z1 ?_|refine Z2 ?_|(refine And.intro ?_ ?_<;>intro h<;>try first|(exfalso;omega)|exact absurd rfl h)|refine Z3 ?_|refine Z4 ?_|intro el hel hbB|intro el hel|intro ex|refine Z5 ?_|(refine free_i ?_ ?_;exact ⟨by kernel_rfl,by decide⟩)|refine allI_c ?_ ?_|exact allI_n|refine allMP_c ?_ ?_|exact allMP_n|(refine many_step ?_ ?_ ?_;kernel_rfl;kernel_rfl)) <;> (try (conv=>whnf)))
 all_goals exact retg_tmp (le_of h0 rfl ⟨rfl,trivial⟩ ⟨rfl,trivial⟩ rfl rfl rfl)
set_option maxHeartbeats 4000000 in
theorem measured_call (l:List UInt8) (a:Nat) (s:Sch) (hd:Drawn s) (hl:l.length ≤ 400):GCall Tryz.prog 42 1 (drB l a) [.ref 0 0,sA s] 1 (drB l (colD l a s 3).2) (.i (colD l a s 3).1):=by
 have hc:=columns_call s 3 (by have:=hd.lens;omega)
 have hn:=next_call l a (colsK s 3 s.cols.length).length hl
 have hk:=(colD_ok (l:=l) (a:=a) hd.two.2).1
 have hle:=colsK_le s 3 s.cols.length
 have hln:=hd.lens
 refine gci Tryz.func42 15 fun E h0=>?_
 repeat' ((first | refine call_i hc ?_ | refine ⟨ncall_h [0] [0] hn rfl rfl rfl rfl rfl ⟨rfl,trivial⟩ rfl rfl rfl rfl rfl ?_⟩ | (refine each_knownm hk (by omega) ?_) |refine aops_go ?_|refine S1 ?_|refine Z1 ?_|refine Z2 ?_|(refine And.intro ?_ ?_<;>intro h<;>try first|(exfalso;omega)|exact absurd rfl h)|refine Z3 ?_|refine Z4 ?_|intro el hel hbB|intro el hel|intro ex|refine Z5 ?_|(refine free_i ?_ ?_;exact ⟨by kernel_rfl,by decide⟩)|refine allI_c ?_ ?_|exact allI_n|refine allMP_c ?_ ?_|exact allMP_n|(refine many_step ?_ ?_ ?_;kernel_rfl;kernel_rfl)) <;> (try (conv=>whnf)))
 all_goals exact retg_tmp (le_of h0 rfl ⟨rfl,trivial⟩ ⟨rfl,trivial⟩ rfl rfl rfl)
end Go.Proofs.YtjmbhlgocikfiaaGreatDoor
namespace Go.Av
open Go Go.RowKit
theorem gcall_le {P:Program} {f m0 m1 m2:Nat} {hp0 hp1 hp2:Hp} {args:List AV} {r r2:AV} (h:GCall P f m0 hp0 args m1 hp1 r) (hm:Nat.ble m0 m1 = true) (hle:∀ E:Env,E.n0 = m0 → St.le E 1 ⟨[(0,r)],m1,hp1⟩ ⟨[(0,r2)],m2,hp2⟩):GCall P f m0 hp0 args m2 hp2 r2:=by
 refine ⟨h.1,fun X θ w vs hX htab hbk hl hvs=>?_⟩
 refine Calls.mono (h.2 X θ w vs hX htab hbk hl hvs) ?_
 rintro e w' ⟨⟨v,θ',rfl,hv,hbk',hown,hθ⟩,hos,htape,hout,hsize,hblock⟩
 have sat:Sat ⟨w,X,owned θ hp0,θ,m0,htab⟩ 1 ⟨[(0,r)],m1,hp1⟩ { tmps:=#[v],defers:=[] } w':=by
  refine ⟨θ',rfl,rfl,⟨hos,htape,hout,hsize,hblock⟩,fun s x hs=>?_,hbk'.owns,hbk'.apart,fun i b k hi hk=>⟨hbk'.fresh i b k hi hk,hown i b k hi hk⟩,hX,⟨Nat.ble_eq ▸ hm,hθ⟩⟩
  rw [look_cons] at hs
  split at hs
  ·rename_i e0
   subst e0
   cases hs
   exact hv
  ·cases hs
 obtain ⟨θ2,hs⟩:=hle _ rfl _ _ sat
 have hr:=hs.slots 0 r2 rfl
 exact ⟨⟨v,θ2,rfl,hr,⟨hs.owns,hs.apart,fun i b k hi hk=>(hs.mine i b k hi hk).1⟩,fun i b k hi hk=>(hs.mine i b k hi hk).2,hs.base.2⟩,hs.fr.os,hs.fr.tape,hs.fr.output,hs.fr.size,hs.fr.block⟩
end Go.Av
namespace Go.Proofs.YtjmbhlgocikfiaaGreatDoor
open Go Go.Av
attribute [local irreducible] AWp AOps AAny MAny DQ retQ retG St.le FCall GCall
set_option maxRecDepth 100000
theorem schc_draw (l:List UInt8) (a:Nat) (hl:l.length ≤ 400):GCall Tryz.prog 11 1 (drB l a) [.ref 0 0] 1 (drB l (schS l a).2) (sA (schS l a).1) :=
 gcall_le (sch_call l a hl) rfl fun E h0=>le_of h0 rfl ⟨rfl,trivial⟩ ⟨rfl,trivial⟩ rfl rfl rfl
end Go.Proofs.YtjmbhlgocikfiaaGreatDoor
