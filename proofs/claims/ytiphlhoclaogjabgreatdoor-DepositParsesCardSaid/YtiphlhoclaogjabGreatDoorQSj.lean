/- The library's Itoa and Atoi as contracts of the walk. -/
import Derived.Test.YtiphlhoclaogjabGreatDoorQAvTy
import Derived.Test.YtiphlhoclaogjabGreatDoorQSh
import Derived.Lib.AppendIntMem
import Derived.Lib.AtoiErrMem
import Derived.Lib.Join
import Derived.Lib.IndexMore
set_option linter.unusedVariables false
namespace Go.Proofs.YtiphlhoclaogjabGreatDoor
open Go Go.Av Go.RowKit Go.Lib
set_option maxRecDepth 100000
instance:Ai Tryz.prog 65:=.of (by kernel_rfl)
theorem G7 (n:Int) (h0:-9223372036854775808 ≤ n) (h1:n ≤ 9223372036854775807):B4 Tryz.prog 31 [.v (.int .i64 n)] (.str (Lib.itoa n)):=by
 refine ⟨⟨Tryz.f31,Tryz.func31,by kernel_rfl,by kernel_rfl⟩,fun X w vs hX htb hl hv=>?_⟩
 match vs,hl with
 | [v],_ =>
   have hv0:=hv 0 _ v rfl rfl
   cases hv0
   refine Calls.mono (Tryz.strconv_Itoa n h0 h1 w ?_) ?_
   ·obtain ⟨_,t,fr,h⟩:=htb.tab 1 .u64 Lib.pow10Tab (by kernel_rfl)
    unfold Lib.TabIs World.var?
    rw [show (Tryz.prog).globalNamed "internal/strconv.uint64pow10" = some 1 by kernel_rfl]
    simp only [Option.bind_some,h]
   ·rintro e w' ⟨rfl,k,os,rfl⟩
    exact ⟨_,rfl, .str _,below_grow _ w (Nat.le_refl _) k os⟩
theorem Vw (z:List UInt8) (hz:z.length ≤ 281474976710656) {v:Int} (h:Lib.atoiAll z = .ok v):B4 Tryz.prog 72 [.str z] (.tup [.v (.int .i64 v), .v .nilIface]):=by
 refine ⟨⟨Tryz.f72,Tryz.func72,by kernel_rfl,by kernel_rfl⟩,fun X w vs hX htb hl hv=>?_⟩
 match vs,hl with
 | [y],_ =>
   have hv0:=hv 0 _ y rfl rfl
   cases hv0
   have hs:(ByteArray.mk z.toArray).size = z.length:=rfl
   refine Calls.mono (Tryz.strconv_Atoi_ok ⟨z.toArray⟩ (by rw [hs];omega) v (by simpa using h) w) ?_
   rintro e w' ⟨rfl,hw⟩
   refine ⟨_,rfl, .tup _ [.int .i64 v, .nilIface] rfl fun j x c hx hc=>?_,?_⟩
   ·match j,hx,hc with
    | 0,hx,hc=>cases hx;cases hc;exact .v _
    | 1,hx,hc=>cases hx;cases hc;exact .v _
   ·rcases hw with rfl | ⟨t,rfl⟩
    ·exact Below.refl _ _
    ·exact Lib.bytesWorld_below _ _ _
theorem TH (z:List UInt8) (hz:z.length ≤ 281474976710656) (h:Lib.atoiAll z = Lib.NumEnd.syntax):B4 Tryz.prog 72 [.str z] (.tup [.v (.int .i64 0), .err]):=by
 refine ⟨⟨Tryz.f72,Tryz.func72,by kernel_rfl,by kernel_rfl⟩,fun X w vs hX htb hl hv=>?_⟩
 match vs,hl with
 | [y],_ =>
   have hv0:=hv 0 _ y rfl rfl
   cases hv0
   have hs:(ByteArray.mk z.toArray).size = z.length:=rfl
   obtain ⟨_,te,pe,t,fr,he⟩:=htb.err 2 (by decide)
   refine Calls.mono (Tryz.strconv_Atoi_syntax ⟨z.toArray⟩ (by rw [hs];omega) (by simpa using h) (.iface te pe) w (by unfold World.cell?;simp [he]) (.inr ⟨te,pe,rfl⟩)) ?_
   rintro e w' ⟨N,rfl,_,_,hb⟩
   refine ⟨_,rfl, .tup _ [.int .i64 0,_] rfl fun j x c hx hc=>?_,hb⟩
   match j,hx,hc with
   | 0,hx,hc=>cases hx;cases hc;exact .v _
   | 1,hx,hc=>cases hx;cases hc;exact .err _ _
theorem TI (z:List UInt8) (hz:z.length ≤ 281474976710656) (h:Lib.atoiAll z = .range):B4 Tryz.prog 72 [.str z] (.tup [.v (.int .i64 (Lib.atoiSat z)), .err]):=by
 refine ⟨⟨Tryz.f72,Tryz.func72,by kernel_rfl,by kernel_rfl⟩,fun X w vs hX htb hl hv=>?_⟩
 match vs,hl with
 | [y],_ =>
   have hv0:=hv 0 _ y rfl rfl
   cases hv0
   have hs:(ByteArray.mk z.toArray).size = z.length:=rfl
   obtain ⟨_,te,pe,t,fr,he⟩:=htb.err 3 (by decide)
   refine Calls.mono (Tryz.strconv_Atoi_range ⟨z.toArray⟩ (by rw [hs];omega) (by simpa using h) (.iface te pe) w (by unfold World.cell?;simp [he]) (.inr ⟨te,pe,rfl⟩)) ?_
   rintro e w' ⟨N,rfl,_,_,hb⟩
   refine ⟨_,rfl, .tup _ [.int .i64 (Lib.atoiSat z),_] rfl fun j x c hx hc=>?_,hb⟩
   match j,hx,hc with
   | 0,hx,hc=>cases hx;cases hc;exact .v _
   | 1,hx,hc=>cases hx;cases hc;exact .err _ _
end Go.Proofs.YtiphlhoclaogjabGreatDoor
namespace Go.Proofs.YtiphlhoclaogjabGreatDoor
open Go Go.Av Go.RowKit Go.Lib
set_option maxRecDepth 100000
abbrev C1 (z:List UInt8):List AV:=[.str z]
theorem Qn {U:Nat → Prop} {w:World} {l:List (List UInt8)} {y:Value} (h:Im U w (.sl 1 (l.map C1)) y):(∃ a c,y = .slice a 0 c ∧ l = []) ∨ ∃ bk o c,y = .slice (some ⟨bk,o,none⟩) l.length c ∧ l.length ≤ c ∧ bk < w.heap.size ∧ ∀ (j:Nat) x,l[j]? = some x → w.cell? ⟨bk,o + j,none⟩ = some (.string ⟨x.toArray⟩):=by
 generalize hL:l.map C1 = L at h
 have hlen:L.length = l.length:=by rw [← hL,List.length_map]
 cases h with
 | slnil=>exact .inl ⟨none,0,rfl,List.map_eq_nil_iff.1 hL⟩
 | sl sz L a cap f hcap hm hu hsz hc h =>
   cases l with
   | nil=>exact .inl ⟨some a,cap,by rw [hlen];rfl,rfl⟩
   | cons x0 r =>
     have hcell:∀ (j:Nat) x,(x0 :: r)[j]? = some x → w.cell? (a.add j) = some (.string ⟨x.toArray⟩):=fun j x hx=>by
      have h1:j < L.length:=by rw [hlen];exact (List.getElem?_eq_some_iff.1 hx).1
      have h2:=hc j h1 0 Nat.one_pos
      have h3:=h j (C1 x) (by rw [← hL,List.getElem?_map,hx];rfl) 0 _ rfl
      rw [Nat.mul_one,Nat.add_zero] at h2
      rw [h2]
      generalize f j 0 = v at h3
      cases h3
      rfl
     have h0:=hcell 0 x0 rfl
     obtain ⟨bk,o,sp⟩:=a
     have hs:sp = none:=by
      cases sp with
      | none=>rfl
      | some q =>
        exfalso
        unfold World.cell? Addr.add at h0
        rw [if_pos rfl] at h0
        revert h0
        split
        ·intro h0;cases h0
        ·intro h0;cases h0
     subst hs
     have hlt:=DB h0
     rw [T5] at hlt
     refine .inr ⟨bk,o,cap,by rw [hlen],by rw [← hlen];exact hcap,hlt,fun j x hx=>?_⟩
     have hj:=hcell j x hx
     have e:(⟨bk,o,none⟩:Addr).add j = ⟨bk,o + j,none⟩:=by unfold Addr.add;split <;> simp_all
     rwa [e] at hj
theorem Qo (l:List (List UInt8)) (sep:List UInt8) (hN:l.length ≤ 140737488355328) (hlen:(Lib.join l sep).length ≤ 140737488355328):B4 Tryz.prog 61 [.sl 1 (l.map C1), .str sep] (.str (Lib.join l sep)):=by
 refine ⟨⟨Tryz.f61,Tryz.func61,by kernel_rfl,by kernel_rfl⟩,fun X w vs hX htb hl hv=>?_⟩
 match vs,hl with
 | [y,z],_ =>
   have hv0:=hv 0 _ y rfl rfl
   have hv1:=hv 1 _ z rfl rfl
   cases hv1
   rcases Qn hv0 with ⟨a,c,rfl,rfl⟩ | ⟨bk,o,c,rfl,hc,hbk,hcell⟩
   ·refine Calls.mono (Tryz.strings_Join_none a c ⟨sep.toArray⟩ w) ?_
    rintro e w' ⟨rfl,rfl⟩
    exact ⟨_,rfl, .str [],Below.refl _ _⟩
   ·have e1:(l.map fun x=>ByteArray.mk x.toArray).map (·.data.toList) = l:=by
     rw [List.map_map]
     exact (List.map_congr_left (fun x _=>rfl)).trans (List.map_id l)
    have:=Tryz.strings_Join bk o c (l.map fun x=>ByteArray.mk x.toArray) ⟨sep.toArray⟩ w (fun j x hx=>by
     rw [List.getElem?_map,Option.map_eq_some_iff] at hx
     obtain ⟨x0,h1,rfl⟩:=hx
     exact hcell j x0 h1) hbk (by rw [List.length_map];exact hN) (by rw [List.length_map];exact hc) (by rw [e1];exact hlen)
    rw [e1,List.length_map] at this
    refine Calls.mono this ?_
    rintro e w' ⟨rfl,hb⟩
    exact ⟨_,rfl, .str _,hb⟩
theorem TJ (t sep:List UInt8) (ht:t.length < 4294967281):B4 Tryz.prog 37 [.str t, .str sep] (.tup [.str (Lib.cut t sep).1, .str (Lib.cut t sep).2.1, .b (Lib.cut t sep).2.2]):=by
 refine ⟨⟨Tryz.f37,Tryz.func37,by kernel_rfl,by kernel_rfl⟩,fun X w vs hX htb hl hv=>?_⟩
 match vs,hl with
 | [y,z],_ =>
   have hv0:=hv 0 _ y rfl rfl
   have hv1:=hv 1 _ z rfl rfl
   cases hv0
   cases hv1
   obtain ⟨_,m,tt,fr,he⟩:=htb.num 0 (by decide)
   refine Calls.mono (Tryz.strings_Cut ⟨t.toArray⟩ ⟨sep.toArray⟩ m w ht (by unfold World.cell?;simp [he])) ?_
   rintro e w' ⟨rfl,n,rfl⟩
   refine ⟨_,rfl, .tup _ [.string _, .string _, .bool _] rfl fun j x c hx hc=>?_,⟨rfl,rfl,rfl,Nat.le_refl _,fun _ _=>rfl⟩⟩
   match j,hx,hc with
   | 0,hx,hc=>cases hx;cases hc;exact .str _
   | 1,hx,hc=>cases hx;cases hc;exact .str _
   | 2,hx,hc=>cases hx;cases hc;exact .v _
end Go.Proofs.YtiphlhoclaogjabGreatDoor
