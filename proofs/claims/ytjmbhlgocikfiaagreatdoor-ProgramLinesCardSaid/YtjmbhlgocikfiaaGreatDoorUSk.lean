/- The library's Itoa and Atoi as contracts of the walk. -/
import Derived.Test.YtjmbhlgocikfiaaGreatDoorUAvTy
import Derived.Test.YtjmbhlgocikfiaaGreatDoorUSh
import Derived.Lib.AppendIntMem
import Derived.Lib.AtoiErrMem
set_option linter.unusedVariables false
namespace Go.Proofs.YtjmbhlgocikfiaaGreatDoor
open Go Go.Av Go.RowKit Go.Lib
set_option maxRecDepth 100000
instance:TIface Tryz.prog 85:=.of (by kernel_rfl)
theorem itoaI_call (n:Int) (h0:-9223372036854775808 ≤ n) (h1:n ≤ 9223372036854775807):FCall Tryz.prog 27 [.v (.int .i64 n)] (.str (Lib.itoa n)):=by
 refine ⟨⟨Tryz.f27,Tryz.func27,by kernel_rfl,by kernel_rfl⟩,fun X w vs hX htb hl hv=>?_⟩
 match vs,hl with
 | [v],_ =>
  have hv0:=hv 0 _ v rfl rfl
  cases hv0
  refine Calls.mono (Tryz.strconv_Itoa n h0 h1 w ?_) ?_
  ·obtain ⟨_,t,fr,h⟩:=htb.tab 1 .u64 Lib.pow10Tab (by kernel_rfl)
   unfold Lib.TabIs World.var?
   rw [show (Tryz.prog).globalNamed "internal/strconv.uint64pow10" = some 1 by kernel_rfl]
   simp only [Option.bind_some,h]
  ·rintro e w' ⟨rfl,k,os,rfl⟩
   exact ⟨_,rfl, .str _,below_grow _ w (Nat.le_refl _) k os⟩
theorem atoi_ok (z:List UInt8) (hz:z.length ≤ 281474976710656) {v:Int} (h:Lib.atoiAll z = .ok v):FCall Tryz.prog 150 [.str z] (.tup [.v (.int .i64 v), .v .nilIface]):=by
 refine ⟨⟨Tryz.f150,Tryz.func150,by kernel_rfl,by kernel_rfl⟩,fun X w vs hX htb hl hv=>?_⟩
 match vs,hl with
 | [y],_ =>
  have hv0:=hv 0 _ y rfl rfl
  cases hv0
  have hs:(ByteArray.mk z.toArray).size = z.length:=rfl
  refine Calls.mono (Tryz.strconv_Atoi_ok ⟨z.toArray⟩ (by rw [hs];omega) v (by simpa using h) w) ?_
  rintro e w' ⟨rfl,hw⟩
  refine ⟨_,rfl, .tup _ [.int .i64 v, .nilIface] rfl fun j x c hx hc=>?_,?_⟩
  ·match j,hx,hc with
   | 0,hx,hc=>cases hx;cases hc;exact .v _
   | 1,hx,hc=>cases hx;cases hc;exact .v _
  ·rcases hw with rfl | ⟨t,rfl⟩
   ·exact Below.refl _ _
   ·exact Lib.bytesWorld_below _ _ _
theorem atoi_syn (z:List UInt8) (hz:z.length ≤ 281474976710656) (h:Lib.atoiAll z = Lib.NumEnd.syntax):FCall Tryz.prog 150 [.str z] (.tup [.v (.int .i64 0), .err]):=by
 refine ⟨⟨Tryz.f150,Tryz.func150,by kernel_rfl,by kernel_rfl⟩,fun X w vs hX htb hl hv=>?_⟩
 match vs,hl with
 | [y],_ =>
  have hv0:=hv 0 _ y rfl rfl
  cases hv0
  have hs:(ByteArray.mk z.toArray).size = z.length:=rfl
  obtain ⟨_,te,pe,t,fr,he⟩:=htb.err 4 (by decide)
  refine Calls.mono (Tryz.strconv_Atoi_syntax ⟨z.toArray⟩ (by rw [hs];omega) (by simpa using h) (.iface te pe) w (by unfold World.cell?;simp [he]) (.inr ⟨te,pe,rfl⟩)) ?_
  rintro e w' ⟨N,rfl,_,_,hb⟩
  refine ⟨_,rfl, .tup _ [.int .i64 0,_] rfl fun j x c hx hc=>?_,hb⟩
  match j,hx,hc with
  | 0,hx,hc=>cases hx;cases hc;exact .v _
  | 1,hx,hc=>cases hx;cases hc;exact .err _ _
theorem atoi_rng (z:List UInt8) (hz:z.length ≤ 281474976710656) (h:Lib.atoiAll z = .range):FCall Tryz.prog 150 [.str z] (.tup [.v (.int .i64 (Lib.atoiSat z)), .err]):=by
 refine ⟨⟨Tryz.f150,Tryz.func150,by kernel_rfl,by kernel_rfl⟩,fun X w vs hX htb hl hv=>?_⟩
 match vs,hl with
 | [y],_ =>
  have hv0:=hv 0 _ y rfl rfl
  cases hv0
  have hs:(ByteArray.mk z.toArray).size = z.length:=rfl
  obtain ⟨_,te,pe,t,fr,he⟩:=htb.err 5 (by decide)
  refine Calls.mono (Tryz.strconv_Atoi_range ⟨z.toArray⟩ (by rw [hs];omega) (by simpa using h) (.iface te pe) w (by unfold World.cell?;simp [he]) (.inr ⟨te,pe,rfl⟩)) ?_
  rintro e w' ⟨N,rfl,_,_,hb⟩
  refine ⟨_,rfl, .tup _ [.int .i64 (Lib.atoiSat z),_] rfl fun j x c hx hc=>?_,hb⟩
  match j,hx,hc with
  | 0,hx,hc=>cases hx;cases hc;exact .v _
  | 1,hx,hc=>cases hx;cases hc;exact .err _ _
end Go.Proofs.YtjmbhlgocikfiaaGreatDoor
