/- Chapter 3: the law's signed texts, where they are long. -/
import Derived.Test.YtiphlhoclaogjabGreatDoorQKb4
import Derived.Test.YtiphlhoclaogjabGreatDoorQE3
import Derived.SizedLaws
import Derived.Test.YtiphlhoclaogjabGreatDoorQKc9
import Derived.Test.YtiphlhoclaogjabGreatDoorQAw7
import Derived.Test.YtiphlhoclaogjabGreatDoorQNm1
import Derived.Test.YtiphlhoclaogjabGreatDoorQXt2
import Derived.Test.YtiphlhoclaogjabGreatDoorQB9
import Derived.Test.YtiphlhoclaogjabGreatDoorQRp1
import Derived.Test.YtiphlhoclaogjabGreatDoorQAvI
import Derived.Test.YtiphlhoclaogjabGreatDoorQKf1
set_option linter.unusedVariables false
set_option linter.unnecessarySimpa false
set_option linter.unusedSimpArgs false
namespace Go.Proofs.YtiphlhoclaogjabGreatDoor
open Go Go.Av
attribute [local irreducible] D6 B8 D8 D7 DQ E0 E1 St.le B4 B9
set_option maxRecDepth 100000
set_option maxHeartbeats 4000000 in
theorem Bq (g:List UInt8) (hg:g.length ≤ 140737488455328):B4 Tryz.prog 17 [.sl 1 (g.map T7)] (.str (JC g)):=by
 have hcl:=OI g (g.length - 1)
 have hbl:(BC g).length ≤ 140737488455328:=by unfold BC;rw [List.length_take];omega
 have hsm:=Ev (BC g) (by omega)
 have hb:=Is (BC g) 7 (by decide)
 have hit:=Pn (q9 (BC g) 7) (by omega)
 have hil:=Lib.itoa_length_le (q9 (BC g) 7:Nat) (by omega) (by omega)
 have hS:JC g = BC g ++ [115,117,109,32] ++ Lib.itoa (q9 (BC g) 7:Nat) ++ [10]:=by
  unfold JC r8
  rw [← Rz]
  simp only [List.append_assoc]
 rw [hS]
 clear hS
 have hB:BC g = g.take (BB g (g.length - 1)):=rfl
 generalize Lib.itoa (q9 (BC g) 7:Nat) = im at *
 refine F3 Tryz.func17 32 fun hrd E h0=>?_
 clear hrd
 repeat' ((first|refine A4 ?_|refine S1 ?_|refine Z1 ?_|refine Z2 ?_|(refine And.intro ?_ ?_<;>intro h<;>try first|(exfalso;omega)|exact absurd rfl h)|refine Z3 ?_|refine Z4 ?_|intro el hel hbB|intro el hel|intro ex|refine Z5 ?_|(refine A9 ?_ ?_;exact ⟨by kernel_rfl,by decide⟩)|refine A8 ?_ ?_|exact A7|refine A6 ?_ ?_|exact A5|(refine A0 ?_ ?_ ?_;kernel_rfl;kernel_rfl)) <;> (try (conv=>whnf)))
 refine C2 (ι:=Nat) (fun k=>⟨[(3, .str g),(4, .i (BB g k)),(5, .i k)],0,[]⟩) (fun k=>k ≤ g.length - 1) (fun k=>g.length - 1 - k) 0 (Nat.zero_le _) (B0 h0 rfl ⟨rfl,rfl,rfl,trivial⟩ trivial rfl rfl rfl) (fun k hk=>?_)
 by_cases hlt:k < g.length - 1
 ·obtain ⟨c,hc⟩:∃ c,g[k]? = some c:=⟨_,List.getElem?_eq_getElem (by omega)⟩
  have h1:(c.toNat:Int) = 10 → BB g (k + 1) = k + 1:=fun h=>by
   have e:c = 10:=UInt8.toNat_inj.1 (by show c.toNat = 10;omega)
   unfold BB;rw [if_pos (by rw [hc,e])]
  have h2:¬ (c.toNat:Int) = 10 → BB g (k + 1) = BB g k:=fun h=>by
   rw [BB,if_neg (by rw [hc];intro e;exact h (by rw [Option.some.inj e];rfl))]
  repeat' ((first | (refine k8 (x:=c) hc (by omega) ?_) | (refine A3 (x:=c) hc (by omega) ?_) |refine A4 ?_|refine S1 ?_|refine Z1 ?_|refine Z2 ?_|(refine And.intro ?_ ?_<;>intro h<;>try first|(exfalso;omega)|exact absurd rfl h)|refine Z3 ?_|refine Z4 ?_|intro el hel hbB|intro el hel|intro ex|refine Z5 ?_|(refine A9 ?_ ?_;exact ⟨by kernel_rfl,by decide⟩)|refine A8 ?_ ?_|exact A7|refine A6 ?_ ?_|exact A5|(refine A0 ?_ ?_ ?_;kernel_rfl;kernel_rfl)) <;> (try (conv=>whnf)))
  all_goals first
   | (exfalso;omega)
   | exact ⟨k + 1,by omega,by omega,B0 h0 rfl ⟨rfl,congrArg (fun z:Nat=>some (AV.i z)) (h1 (by assumption)).symm,rfl,trivial⟩ trivial rfl rfl rfl⟩
   | exact ⟨k + 1,by omega,by omega,B0 h0 rfl ⟨rfl,congrArg (fun z:Nat=>some (AV.i z)) (h2 (by assumption)).symm,rfl,trivial⟩ trivial rfl rfl rfl⟩
 ·obtain rfl:k = g.length - 1:=by omega
  generalize BB g (g.length - 1) = m at *
  rw [hB] at hsm hbl hit hb ⊢
  have hbl:(g.take m).length ≤ 140737488455328:=hbl
  repeat' ((first | (refine G9 ?_ ?_;(show (g.take m).length + 4 ≤ _;omega)) | (refine G9 ?_ ?_;(show (g.take m ++ [115,117,109,32]).length + im.length ≤ _;simp only [List.length_append,List.length_cons,List.length_nil];omega)) | (refine G9 ?_ ?_;(show (g.take m ++ [115,117,109,32] ++ im).length + 1 ≤ _;simp only [List.length_append,List.length_cons,List.length_nil];omega)) | refine B2 hsm ?_ | refine B2 hit ?_ | (refine E3 ?_ ?_;kernel_rfl) |refine A4 ?_|refine S1 ?_|refine Z1 ?_|refine Z2 ?_|(refine And.intro ?_ ?_<;>intro h<;>try first|(exfalso;omega)|exact absurd rfl h)|refine Z3 ?_|refine Z4 ?_|intro el hel hbB|intro el hel|intro ex|refine Z5 ?_|(refine A9 ?_ ?_;exact ⟨by kernel_rfl,by decide⟩)|refine A8 ?_ ?_|exact A7|refine A6 ?_ ?_|exact A5|(refine A0 ?_ ?_ ?_;kernel_rfl;kernel_rfl)) <;> (try (conv=>whnf)))
  all_goals first
   | (exfalso;omega)
   | exact B5 rfl rfl
end Go.Proofs.YtiphlhoclaogjabGreatDoor
namespace Go.Av
open Go Go.RowKit
section
variable {H:Type} {enc:TypeId × Value → H} {P:Program} {w:World} {base:Nat} {spare:Nat → Bool} {held:Bool}
theorem Ul {fuel:Nat} {t:TypeId} {z:ByteArray} {y:DataW H × List MemPlace} (ht:P.underlying t = some .string) (h:DataW.trod enc P w base spare held fuel t [.string z] = some y):y.1 = .lit (.string z.data.toList):=by
 cases fuel with
 | zero=>simp [DataW.trod] at h
 | succ f =>
   simp only [DataW.trod,ht] at h
   split at h
   ·cases h;rfl
   ·cases h
theorem IK:∀ {ts:List TypeId} {vs:List Value} {ds:List (DataW H)} {ps:List MemPlace},DataW.TrodAll enc P w base spare held ts vs ds ps → ∀ {j:Nat} {t:TypeId} {v:Value},ts[j]? = some t → vs[j]? = some v → ∃ d p,ds[j]? = some d ∧ DataW.Trod enc P w base spare held t v d p
 | [],[],[],ps,_,j,t,v,ht,_=>by simp at ht
 | [],[],_ :: _,ps,h,_,_,_,_,_=>h.elim
 | [],_ :: _,_,ps,h,_,_,_,_,_=>h.elim
 | _ :: _,[],_,ps,h,_,_,_,_,_=>h.elim
 | _ :: _,_ :: _,[],ps,h,_,_,_,_,_=>h.elim
 | t0 :: ts,v0 :: vs,d0 :: ds,ps,h,j,t,v,ht,hv=>by
   obtain ⟨p,q,h1,h2,_⟩:=h
   cases j with
   | zero=>simp at ht hv;subst ht hv;exact ⟨d0,p,rfl,h1⟩
   | succ j=>exact IK h2 (j:=j) (by simpa using ht) (by simpa using hv)
def Um (P:Program) (ts:List TypeId) (l:List AV):Prop:=∀ (j:Nat) t s,ts[j]? = some t → P.underlying t = some .string → l[j]? = some (.str s) → s.length ≤ 140737488355328
theorem SF {f:Nat} {fn:Func} {s:ChangeSpec} {tb:TypeId} {handsOn:Bool} {W:World} {args:Array Value} {ds gs:List (DataW H)} {before:List MemPlace} {b0:Nat} {r:Reach} {vt:List TypeId}
  (hl:laidOutB P = true) (hr:(fn.params.toList.all fun t=>P.readableRec t && decide (t < P.types.size)) = true) (htb:P.underlying tb = some .bool) (hrt:fn.resultTypes = #[tb])
  (hvars:s.vars = []) (hs:∀ ds:List (DataW H),ds.length = fn.params.toList.length → s.fn H (ds ++ []) = { results:=[.lit (.bool true)],args:=ds })
  (hcall:∀ l,FU P fn.params.toList l → Um P fn.params.toList l → B4 P f l (.b true))
  (htab:a7 Cp W) (hval:∀ (j:Nat) t v,fn.params[j]? = some t → args[j]? = some v → Value.okWide P W r b0 t v)
  (hW:DataW.Whole enc P fn.params.toList s.vars false W args.toList ds gs before)
  (hsz:(DataW.weightsEach P (fn.params.toList ++ vt) (ds ++ gs)).all (· ≤ reachBytes) = true) :
  Calls P f args W fun e W'=>∃ v,e = .returned v ∧ s.post enc P fn false true handsOn false W args v W':=by
 have hW0:=hW
 obtain ⟨p,q,hA,hV,rfl,hfz,hnd⟩:=hW
 obtain ⟨hdl,l,hsh,hll,him⟩:=JX (r:=r) (b0:=b0) (fun j t v ht hv=>hval j t v (by simpa using ht) (by simpa using hv)) hA
 have hlt:∀ x ∈ p ++ q,x.block < W.heap.size:=fun x hx=>hW0.lt x hx
 rw [hvars] at hV
 obtain ⟨rfl,rfl⟩:gs = [] ∧ q = []:=by
  cases gs with
  | nil=>exact ⟨rfl,hV⟩
  | cons a b=>exact hV.elim
 have hb:Um P fn.params.toList l:=fun j t z ht hu hz=>by
  obtain ⟨v,hv⟩:=L8 hll.symm hz
  have hi:=him j _ _ hz hv
  cases hi with
  | str =>
    obtain ⟨d,p,hd,fuel,htr⟩:=IK hA ht hv
    have e:=Ul (z:=⟨z.toArray⟩) hu htr
    dsimp only at e
    have hb:=sized_string hsz (j:=j) (t:=t) (bytes:=z) (by rw [List.getElem?_append_left (List.getElem?_eq_some_iff.1 ht).1];exact ht) (by rw [List.append_nil,hd,e])
    have:=reachBytes_lt
    omega
 have hc:=(hcall l hsh hb).2 Cp W args.toList (fun k hk=>hk.elim) htab hll him
 have ea:args.toList.toArray = args:=by simp
 rw [ea] at hc
 refine hc.mono fun e W' ⟨v,he,hi,hb⟩=>?_
 subst he
 cases hi
 refine ⟨_,rfl,ds,[],p ++ [],[],p,[],hW0,?_,?_,?_,?_,fun h=>by cases h⟩
 ·rw [hrt,hs ds hdl]
  exact ⟨[],[],shut_bool htb true,rfl,rfl⟩
 ·rw [hs ds hdl]
  exact JY hl hb hr (fun x hx=>hlt x (by simp [hx])) hA
 ·rw [hvars,hs ds hdl]
  rfl
 ·exact Below.frame hb _
end
end Go.Av
namespace Go.Proofs.YtiphlhoclaogjabGreatDoor
open Go Go.Av
attribute [local irreducible] D6 B8 D8 D7 DQ E0 E1 St.le B4 B9
set_option maxRecDepth 100000
set_option maxHeartbeats 32000000 in
theorem SG (l:List UInt8) (raw:List UInt8) (at':Int) (b:UInt8) (hl:l.length ≤ maxLen) (hr:raw.length ≤ 140737488355328):B4 Tryz.prog 6 [.sl 1 (l.map T7), .str raw, .i at', .v (.int .u8 b.toNat)] (.b true):=by
 unfold maxLen at hl
 have hb:=b.toNat_lt
 have hL:(l.take 400).length ≤ 400:=List.length_take_le _ _
 have hnew:=TS l (by omega)
 have hsrc:=UT (l.take 400) 0 6 hL (by decide) (by decide)
 obtain ⟨hf,hlen⟩:=UX (l.take 400) 0 6 (by decide) (by decide)
 generalize BA (l.take 400) 0 6 = X at *
 obtain ⟨⟨s,rows⟩,a1⟩:=X
 generalize l.take 400 = t at *
 dsimp only at hsrc hf hlen
 have e1:=(FA s rows).congr (congrArg (fun z:List UInt8 × Int=>AV.tup [.str z.1, .i z.2]) hf)
 dsimp only at e1
 clear hf
 generalize m8 s rows = G at *
 have hmo:=TT at' ((G.length:Int) + 1) (by omega)
 have hml:=w6 (k:=at') (n:=(G.length:Int) + 1) (by omega)
 generalize Ej at' ((G.length:Int) + 1) = k at *
 have ha:=NQ
 generalize hA1:List.drop ((0:Nat):Int).toNat (List.take k.toNat G) = A1
 have hA1l:A1.length ≤ G.length:=by rw [← hA1,List.length_drop,List.length_take];omega
 generalize hA2:List.drop k.toNat (List.take (G.length:Int).toNat G) = A2
 have hA2l:A2.length ≤ G.length:=by rw [← hA2,List.length_drop,List.length_take];omega
 have hsg2:=Bq (A1 ++ raw ++ A2) (by simp only [List.length_append];omega)
 subst hA1 hA2
 have hcat:(List.drop ((0:Nat):Int).toNat (List.take k.toNat G) ++ raw ++ List.drop k.toNat (List.take (G.length:Int).toNat G)).length ≤ 140737488455328:=by simp only [List.length_append];omega
 generalize hY2:JC (List.drop ((0:Nat):Int).toNat (List.take k.toNat G) ++ raw ++ List.drop k.toNat (List.take (G.length:Int).toNat G)) = Y2 at *
 clear hY2
 by_cases hk:k < G.length
 ·obtain ⟨gk,hgk⟩:∃ el,G[k.toNat]? = some el:=⟨_,List.getElem?_eq_getElem (by omega)⟩
  have hsg1:=Bq (G.set k.toNat b) (by rw [List.length_set];omega)
  generalize hY1:JC (G.set k.toNat b) = Y1 at *
  clear hY1
  obtain ⟨V,hV⟩:∃ V:List (List UInt8),V = [raw,G,(G.set k.toNat b),Y1,List.drop ((0:Nat):Int).toNat (List.take k.toNat G),G ++ raw,Y2]:=⟨_,rfl⟩
  have hVl:V.length = 7:=by rw [hV];rfl
  refine F3 Tryz.func6 111 fun hrd E h0=>?_
  clear hrd
  repeat' ((first | refine b9 [] [] hnew rfl rfl rfl rfl rfl trivial rfl rfl rfl rfl rfl ?_ | refine B2 e1 ?_ | refine B2 hmo ?_ | refine B2 hsg1 ?_ | refine B2 hsg2 ?_ | (refine A3 (x:=gk) hgk (by omega) ?_) | (refine G9 ?_ ?_;(simp only [List.length_append];omega)) | refine JZ (l:=G) rfl rfl (by omega) ?_ | (refine G2 7 ?_;refine K5 (id:=7) (σ':=⟨[(1, .str raw),(10, .str G),(12, .sl 1 ((G.set k.toNat b).map T7)),(13, .i k)],0,[]⟩) (B0 h0 rfl ⟨rfl,rfl,congrArg (fun z=>some (AV.sl 1 z)) (by rw [List.map_set];rfl),rfl,trivial⟩ trivial rfl rfl rfl) ?_;refine G6 (id:=7) ⟨[(73, .sl 1 ([raw,G,(G.set k.toNat b),Y1,List.drop ((0:Nat):Int).toNat (List.take k.toNat G),G ++ raw,Y2].map C1)),(74, .i 7),(75, .i 0)],0,[]⟩ ?_ ?_) |refine A4 ?_|refine S1 ?_|refine Z1 ?_|refine Z2 ?_|(refine And.intro ?_ ?_<;>intro h<;>try first|(exfalso;omega)|exact absurd rfl h)|refine Z3 ?_|refine Z4 ?_|intro el hel hbB|intro el hel|intro ex|refine Z5 ?_|(refine A9 ?_ ?_;exact ⟨by kernel_rfl,by decide⟩)|refine A8 ?_ ?_|exact A7|refine A6 ?_ ?_|exact A5|(refine A0 ?_ ?_ ?_;kernel_rfl;kernel_rfl) | refine nc [0] [0] hsrc rfl rfl rfl ⟨rfl,trivial⟩ ?_) <;> (try (conv=>whnf)))
  all_goals first
   | exact B0 h0 rfl ⟨rfl,rfl,rfl,trivial⟩ trivial rfl rfl rfl
   | (exfalso;omega)
   | skip
  clear e1 hsg1 hsg2 hmo hsrc hnew
  refine C2 (ι:=Nat) (fun j=>⟨[(73, .sl 1 (V.map C1)),(74, .i 7),(75, .i j)],0,[]⟩) (fun j=>j ≤ 7) (fun j=>7 - j) 0 (Nat.zero_le _) (B0 h0 rfl ⟨congrArg (fun z:List (List UInt8)=>some (AV.sl 1 (z.map C1))) hV.symm,rfl,rfl,trivial⟩ trivial rfl rfl rfl) (fun j hj=>?_)
  clear hV
  by_cases hjt:j < 7
  ·obtain ⟨z,hz⟩:∃ z,V[j]? = some z:=⟨_,List.getElem?_eq_getElem (by omega)⟩
   have f1:=Du z
   have f2:=IJ z
   rw [← KC] at f2
   generalize Cf z = Q at *
   obtain ⟨⟨s2,r2⟩,n2,e2⟩:=Q
   dsimp only at f1 f2
   have f3:B4 Tryz.prog 15 [sA s2, .sl 1 (r2.map D2),sA s2, .sl 1 (r2.map D2)] (.b true):=(Dv s2 r2 s2 r2).congr (congrArg AV.b (decide_eq_true ⟨rfl,rfl,rfl⟩))
   repeat' ((first | (refine A3 (x:=z) hz (by omega) ?_) | refine B2 f1 ?_ | refine B2 f2 ?_ | refine B2 f3 ?_ | (refine E3 ?_ ?_;kernel_rfl) |refine A4 ?_|refine S1 ?_|refine Z1 ?_|refine Z2 ?_|(refine And.intro ?_ ?_<;>intro h<;>try first|(exfalso;omega)|exact absurd rfl h)|refine Z3 ?_|refine Z4 ?_|intro el hel hbB|intro el hel|intro ex|refine Z5 ?_|(refine A9 ?_ ?_;exact ⟨by kernel_rfl,by decide⟩)|refine A8 ?_ ?_|exact A7|refine A6 ?_ ?_|exact A5|(refine A0 ?_ ?_ ?_;kernel_rfl;kernel_rfl)) <;> (try (conv=>whnf)))
   all_goals first
    | (exfalso;omega)
    | exact ⟨j + 1,by omega,by omega,B0 h0 rfl ⟨rfl,rfl,rfl,trivial⟩ trivial rfl rfl rfl⟩
    | contradiction
  ·repeat' ((first | refine B2 ha ?_ |refine A4 ?_|refine S1 ?_|refine Z1 ?_|refine Z2 ?_|(refine And.intro ?_ ?_<;>intro h<;>try first|(exfalso;omega)|exact absurd rfl h)|refine Z3 ?_|refine Z4 ?_|intro el hel hbB|intro el hel|intro ex|refine Z5 ?_|(refine A9 ?_ ?_;exact ⟨by kernel_rfl,by decide⟩)|refine A8 ?_ ?_|exact A7|refine A6 ?_ ?_|exact A5|(refine A0 ?_ ?_ ?_;kernel_rfl;kernel_rfl)) <;> (try (conv=>whnf)))
   all_goals first
    | (exfalso;omega)
    | exact B5 rfl rfl
 ·have hgk:True:=trivial
  have hsg1:=Bq G (by omega)
  generalize hY1:JC G = Y1 at *
  clear hY1
  obtain ⟨V,hV⟩:∃ V:List (List UInt8),V = [raw,G,G,Y1,List.drop ((0:Nat):Int).toNat (List.take k.toNat G),G ++ raw,Y2]:=⟨_,rfl⟩
  have hVl:V.length = 7:=by rw [hV];rfl
  refine F3 Tryz.func6 111 fun hrd E h0=>?_
  clear hrd
  repeat' ((first | refine b9 [] [] hnew rfl rfl rfl rfl rfl trivial rfl rfl rfl rfl rfl ?_ | refine B2 e1 ?_ | refine B2 hmo ?_ | refine B2 hsg1 ?_ | refine B2 hsg2 ?_ | (refine G9 ?_ ?_;(simp only [List.length_append];omega)) | refine JZ (l:=G) rfl rfl (by omega) ?_ | (refine G2 7 ?_;refine K5 (id:=7) (σ':=⟨[(1, .str raw),(10, .str G),(12, .sl 1 (G.map T7)),(13, .i k)],0,[]⟩) (B0 h0 rfl ⟨rfl,rfl,congrArg (fun z=>some (AV.sl 1 z)) rfl,rfl,trivial⟩ trivial rfl rfl rfl) ?_;refine G6 (id:=7) ⟨[(73, .sl 1 ([raw,G,G,Y1,List.drop ((0:Nat):Int).toNat (List.take k.toNat G),G ++ raw,Y2].map C1)),(74, .i 7),(75, .i 0)],0,[]⟩ ?_ ?_) |refine A4 ?_|refine S1 ?_|refine Z1 ?_|refine Z2 ?_|(refine And.intro ?_ ?_<;>intro h<;>try first|(exfalso;omega)|exact absurd rfl h)|refine Z3 ?_|refine Z4 ?_|intro el hel hbB|intro el hel|intro ex|refine Z5 ?_|(refine A9 ?_ ?_;exact ⟨by kernel_rfl,by decide⟩)|refine A8 ?_ ?_|exact A7|refine A6 ?_ ?_|exact A5|(refine A0 ?_ ?_ ?_;kernel_rfl;kernel_rfl) | refine nc [0] [0] hsrc rfl rfl rfl ⟨rfl,trivial⟩ ?_) <;> (try (conv=>whnf)))
  all_goals first
   | exact B0 h0 rfl ⟨rfl,rfl,rfl,trivial⟩ trivial rfl rfl rfl
   | (exfalso;omega)
   | skip
  clear e1 hsg1 hsg2 hmo hsrc hnew
  refine C2 (ι:=Nat) (fun j=>⟨[(73, .sl 1 (V.map C1)),(74, .i 7),(75, .i j)],0,[]⟩) (fun j=>j ≤ 7) (fun j=>7 - j) 0 (Nat.zero_le _) (B0 h0 rfl ⟨congrArg (fun z:List (List UInt8)=>some (AV.sl 1 (z.map C1))) hV.symm,rfl,rfl,trivial⟩ trivial rfl rfl rfl) (fun j hj=>?_)
  clear hV
  by_cases hjt:j < 7
  ·obtain ⟨z,hz⟩:∃ z,V[j]? = some z:=⟨_,List.getElem?_eq_getElem (by omega)⟩
   have f1:=Du z
   have f2:=IJ z
   rw [← KC] at f2
   generalize Cf z = Q at *
   obtain ⟨⟨s2,r2⟩,n2,e2⟩:=Q
   dsimp only at f1 f2
   have f3:B4 Tryz.prog 15 [sA s2, .sl 1 (r2.map D2),sA s2, .sl 1 (r2.map D2)] (.b true):=(Dv s2 r2 s2 r2).congr (congrArg AV.b (decide_eq_true ⟨rfl,rfl,rfl⟩))
   repeat' ((first | (refine A3 (x:=z) hz (by omega) ?_) | refine B2 f1 ?_ | refine B2 f2 ?_ | refine B2 f3 ?_ | (refine E3 ?_ ?_;kernel_rfl) |refine A4 ?_|refine S1 ?_|refine Z1 ?_|refine Z2 ?_|(refine And.intro ?_ ?_<;>intro h<;>try first|(exfalso;omega)|exact absurd rfl h)|refine Z3 ?_|refine Z4 ?_|intro el hel hbB|intro el hel|intro ex|refine Z5 ?_|(refine A9 ?_ ?_;exact ⟨by kernel_rfl,by decide⟩)|refine A8 ?_ ?_|exact A7|refine A6 ?_ ?_|exact A5|(refine A0 ?_ ?_ ?_;kernel_rfl;kernel_rfl)) <;> (try (conv=>whnf)))
   all_goals first
    | (exfalso;omega)
    | exact ⟨j + 1,by omega,by omega,B0 h0 rfl ⟨rfl,rfl,rfl,trivial⟩ trivial rfl rfl rfl⟩
    | contradiction
  ·repeat' ((first | refine B2 ha ?_ |refine A4 ?_|refine S1 ?_|refine Z1 ?_|refine Z2 ?_|(refine And.intro ?_ ?_<;>intro h<;>try first|(exfalso;omega)|exact absurd rfl h)|refine Z3 ?_|refine Z4 ?_|intro el hel hbB|intro el hel|intro ex|refine Z5 ?_|(refine A9 ?_ ?_;exact ⟨by kernel_rfl,by decide⟩)|refine A8 ?_ ?_|exact A7|refine A6 ?_ ?_|exact A5|(refine A0 ?_ ?_ ?_;kernel_rfl;kernel_rfl)) <;> (try (conv=>whnf)))
   all_goals first
    | (exfalso;omega)
    | exact B5 rfl rfl
theorem Un (l:List AV) (h:FU Tryz.prog Tryz.f6.params.toList l) (hs:Um Tryz.prog Tryz.f6.params.toList l):B4 Tryz.prog 6 l (.b true):=by
 obtain ⟨a1,r1,rfl,h1,a0,r0,rfl,h4,a2,r2,rfl,h2,a3,r3,rfl,h3,rfl⟩:=h
 obtain ⟨l,hl,rfl⟩:=Xj h1
 obtain ⟨x,_,rfl⟩:=ZK h4
 obtain ⟨n,_,rfl⟩:=ZJ h2
 obtain ⟨b,hb,rfl⟩:=Xb Tryz.underlying5 h3
 have e:b = (UInt8.ofNat b).toNat:=by simp;omega
 rw [e]
 exact SG l x n (UInt8.ofNat b) hl (hs 1 9 x rfl Tryz.underlying9 rfl)
end Go.Proofs.YtiphlhoclaogjabGreatDoor
