/- strings.Split, SplitN, Index, LastIndex as contracts of the walk. -/
import Derived.Test.YtkcekccdcpmekaaGreatDoorQSj
import Derived.Test.YtkcekccdcpmekaaGreatDoorQQr0
import Derived.Test.YtkcekccdcpmekaaGreatDoorQNm1
import Derived.Test.YtkcekccdcpmekaaGreatDoorQD1
set_option linter.unusedVariables false
set_option linter.unusedSimpArgs false
set_option linter.unnecessarySimpa false
set_option maxHeartbeats 64000000
namespace Go.Proofs.YtkcekccdcpmekaaGreatDoor
open Go Go.Av Go.RowKit Go.Lib
set_option maxRecDepth 100000
theorem Rz{X:Nat→Prop}{w:World}(hX:∀k,X k→k<w.heap.size)(T:TypeId)(l:List ByteArray)(N:Nat)(hl:l.length≤N)(hN:N≤maxLen):
  Im X (w.alloc (.cells (Lib.cellsOf l N) T)) (.sl 1 ((l.map (·.data.toList)).map F6)) (.slice (some ⟨w.heap.size,0,none⟩) l.length N):=by
 have kf:((l.map (·.data.toList)).map F6).length=l.length:=by rw[List.length_map,List.length_map]
 have:=Im.sl (U:=X) (w:=w.alloc (.cells (Lib.cellsOf l N) T)) 1 ((l.map (·.data.toList)).map F6) ⟨w.heap.size,0,none⟩ N (fun i _=>.string (l.getD i default)) (by rw[kf];exact hl) hN (fun _ _ h=>Nat.lt_irrefl _ (hX _ h))
  (fun e he=>by
   obtain⟨x,_,rfl⟩:=List.mem_map.1 he
   rfl)
  (fun i hi j hj=>by
   rw[kf]at hi
   have mc:j=0:=by omega
   subst mc
   have e:(⟨w.heap.size,0,none⟩:Addr).add (i*1+0)=⟨w.heap.size,i,none⟩:=by rw[Nat.mul_one,Nat.add_zero];unfold Addr.add;split<;>simp_all
   rw[e]
   have hc:(Lib.cellsOf l N)[i]?=some (.string (l.getD i default)):=by
    unfold Lib.cellsOf
    rw[List.getElem?_toArray,List.getElem?_append_left (by rw[List.length_map];exact hi),List.getElem?_map,List.getElem?_eq_getElem hi,List.getD_eq_getElem?_getD,List.getElem?_eq_getElem hi];rfl
   exact(World.cell?_alloc_new (w:=w) (Lib.cellsOf l N) T i).trans hc)
  (fun i e he j x hx=>by
   rw[List.getElem?_map,List.getElem?_map]at he
   cases hi:l[i]? with
   |none=>rw[hi]at he;cases he
   |some y =>
    rw[hi]at he
    cases he
    match j,hx with
    |0,hx =>
     cases hx
     rw[List.getD_eq_getElem?_getD,hi]
     exact .str _)
 rw[kf]at this
 exact this
theorem Mu{kp:ByteArray}(h1:1≤kp.size):∀(n:Nat) (s:ByteArray),Lib.countB s kp=n→(Lib.splitB kp 0 n s).length=n+1
 |0,s,_=>rfl
 |n+1,s,h=>by
  by_cases hi:Lib.indexB s kp=-1
  ·rw[Lib.countB_miss s kp hi]at h;cases h
  ·have mw:-1≤Lib.indexB s kp:=Lib.index_ge _ _
   obtain⟨i,he⟩:∃i:Nat,Lib.indexB s kp=i:=⟨(Lib.indexB s kp).toNat,by omega⟩
   have hc:=Lib.countB_hit s kp i h1 he
   rw[Lib.splitB_hit kp 0 n s i he,List.length_cons,Mu h1 n _ (by omega)]
theorem P4(t kp:List UInt8)(ht:t.length<4294967281)(h1:kp≠[]):A4 Tryz.prog 80 [.str t,.str kp] (.sl 1 ((D3 kp t).map F6)):=by
 have nW:1≤(⟨kp.toArray⟩:ByteArray).size:=by
  show 1≤kp.toArray.size
  rw[List.size_toArray];exact List.length_pos_iff.2 h1
 refine⟨⟨Tryz.f80,Tryz.func80,by kernel_rfl,by kernel_rfl⟩,fun X w vs hX mL hl hv=>?_⟩
 match vs,hl with
 |[y,z],_ =>
  have nn:=hv 0 _ y rfl rfl
  have nY:=hv 1 _ z rfl rfl
  cases nn
  cases nY
  obtain⟨_,m,tt,fr,he⟩:=mL.num 0 (by decide)
  refine Calls.mono (Tryz.strings_Split ⟨t.toArray⟩ ⟨kp.toArray⟩ m w ht (by unfold World.cell?;simp[he]) nW) ?_
  rintro e w' ⟨rfl,rfl⟩
  have kf:=Mu nW _ ⟨t.toArray⟩ rfl
  have ku:=Lib.count_le t kp
  have nA:Lib.countB ⟨t.toArray⟩ ⟨kp.toArray⟩+1≤maxLen:=by
   have:Lib.countB ⟨t.toArray⟩ ⟨kp.toArray⟩=Lib.count t kp:=rfl
   unfold maxLen;omega
  have ly:=Rz (w:=w) hX 9 (Lib.splitB ⟨kp.toArray⟩ 0 (Lib.countB ⟨t.toArray⟩ ⟨kp.toArray⟩) ⟨t.toArray⟩) (Lib.countB ⟨t.toArray⟩ ⟨kp.toArray⟩+1) (by rw[kf];exact Nat.le_refl _) nA
  rw[kf,Lib.splitB_data]at ly
  have e2:Lib.splitK (⟨kp.toArray⟩:ByteArray).data.toList 0 (Lib.countB ⟨t.toArray⟩ ⟨kp.toArray⟩) (⟨t.toArray⟩:ByteArray).data.toList=D3 kp t:=eT h1 t
  rw[e2]at ly
  have e3:Lib.cellsOf (Lib.splitB ⟨kp.toArray⟩ 0 (Lib.countB ⟨t.toArray⟩ ⟨kp.toArray⟩) ⟨t.toArray⟩) (Lib.countB ⟨t.toArray⟩ ⟨kp.toArray⟩+1)=((Lib.splitB ⟨kp.toArray⟩ 0 (Lib.countB ⟨t.toArray⟩ ⟨kp.toArray⟩) ⟨t.toArray⟩).map Value.string).toArray:=by
   unfold Lib.cellsOf
   rw[kf,Nat.sub_self,List.replicate_zero,List.append_nil]
  rw[e3]at ly
  exact⟨_,rfl,ly,Y4 _ _⟩
theorem TP(t kp:List UInt8)(n:Nat)(ht:t.length<4294967281)(h1:kp≠[])(hn:1≤n)(nq:n≤1000):A4 Tryz.prog 127 [.str t,.str kp,.i n] (.sl 1 ((M0 kp (n-1) t).map F6)):=by
 have nW:1≤(⟨kp.toArray⟩:ByteArray).size:=by
  show 1≤kp.toArray.size
  rw[List.size_toArray];exact List.length_pos_iff.2 h1
 have xW:(⟨t.toArray⟩:ByteArray).size=t.length:=by show t.toArray.size=_;rw[List.size_toArray]
 refine⟨⟨Tryz.f127,Tryz.func127,by kernel_rfl,by kernel_rfl⟩,fun X w vs hX mL hl hv=>?_⟩
 match vs,hl with
 |[y,z,u],_ =>
  have nn:=hv 0 _ y rfl rfl
  have nY:=hv 1 _ z rfl rfl
  have oe:=hv 2 _ u rfl rfl
  cases nn
  cases nY
  cases oe
  obtain⟨_,m,tt,fr,he⟩:=mL.num 0 (by decide)
  refine Calls.mono (Tryz.strings_SplitN ⟨t.toArray⟩ ⟨kp.toArray⟩ n m w ht (by unfold World.cell?;simp[he]) nW hn (by omega)) ?_
  rintro e w' ⟨rfl,rfl⟩
  rw[xW]
  have pD:min n (t.length+1)≤n:=Nat.min_le_left _ _
  have hmp:1≤min n (t.length+1):=by rw[Nat.le_min];omega
  have ly:=Rz (w:=w) hX 9 (Lib.splitB ⟨kp.toArray⟩ 0 (min n (t.length+1)-1) ⟨t.toArray⟩) (min n (t.length+1)) (by have:=Lib.splitB_length_le ⟨kp.toArray⟩ 0 (min n (t.length+1)-1) ⟨t.toArray⟩;omega) (by unfold maxLen;omega)
  rw[Lib.splitB_data]at ly
  have e2:Lib.splitK (⟨kp.toArray⟩:ByteArray).data.toList 0 (min n (t.length+1)-1) (⟨t.toArray⟩:ByteArray).data.toList=M0 kp (n-1) t:=(JV kp _ t).trans (aj h1 n t)
  rw[e2]at ly
  exact⟨_,rfl,ly,Y4 _ _⟩
theorem s5(t kp:List UInt8)(ht:t.length<4294967281):A4 Tryz.prog 79 [.str t,.str kp] (.i (Lib.lastIndex t kp)):=by
 refine⟨⟨Tryz.f79,Tryz.func79,by kernel_rfl,by kernel_rfl⟩,fun X w vs hX mL hl hv=>?_⟩
 match vs,hl with
 |[y,z],_ =>
  have nn:=hv 0 _ y rfl rfl
  have nY:=hv 1 _ z rfl rfl
  cases nn
  cases nY
  refine Calls.mono (Tryz.strings_LastIndex ⟨t.toArray⟩ ⟨kp.toArray⟩ (by show t.toArray.size<_;rw[List.size_toArray];omega) w) ?_
  rintro e w' ⟨rfl,rfl⟩
  exact⟨_,rfl,.v _,Below.refl _ _⟩
theorem Y9(t kp:List UInt8)(ht:t.length<4294967281):A4 Tryz.prog 48 [.str t,.str kp] (.i (Lib.index t kp)):=by
 refine⟨⟨Tryz.f48,Tryz.func48,by kernel_rfl,by kernel_rfl⟩,fun X w vs hX mL hl hv=>?_⟩
 match vs,hl with
 |[y,z],_ =>
  have nn:=hv 0 _ y rfl rfl
  have nY:=hv 1 _ z rfl rfl
  cases nn
  cases nY
  obtain⟨_,m,tt,fr,he⟩:=mL.num 0 (by decide)
  refine Calls.mono (Tryz.strings_Index ⟨t.toArray⟩ ⟨kp.toArray⟩ m w ht (by unfold World.cell?;simp[he])) ?_
  rintro e w' h
  obtain⟨rfl,h2⟩:=h
  exact⟨_,rfl,.v _,by first|(subst h2;exact Below.refl _ _)|(obtain⟨n,rfl⟩:=h2;exact⟨rfl,rfl,rfl,Nat.le_refl _,fun _ _=>rfl⟩)⟩
end Go.Proofs.YtkcekccdcpmekaaGreatDoor
namespace Go.Proofs.YtkcekccdcpmekaaGreatDoor
open Go Go.Av
attribute [local irreducible] E8 B5 E5 E1 DQ E7 E9 St.le A4 A9
set_option maxRecDepth 100000
theorem WK(z:List UInt8)(hz:z.length≤281474976710656){n:Int}(h:Lib.atoiAll z=.ok n):A4 Tryz.prog 126 [.str z] (.tup [.i n,.b (decide (z.length≤15∧0≤n∧Lib.itoa n=z))]):=by
 have h1:=UK z hz h
 obtain⟨b1,b2⟩:=Lib.atoiAll_bounds h
 have h2:=P3 n b1 b2
 generalize Lib.itoa n=y at *
 clear h
 refine D0 Tryz.func126 29 fun ki E h0=>?_
 clear ki
 repeat'((first|refine A0 h1 ?_|refine A0 h2 ?_ |refine S2 ?_|(refine T6 ?_ ?_<;>intro h<;>try exact V1 h)|intro el ke kg|intro el ke|exact T4|refine T5 ?_ ?_|intro ex)<;>try conv=>whnf)
 all_goals first
  |(exfalso;omega)
  |(refine O3 rfl rfl (congrArg (fun b:Bool=>AV.tup [.i n,.b b]) ?_);rw[decide_eq_false (by omega)])
  |(refine O3 rfl rfl (congrArg (fun b:Bool=>AV.tup [.i n,.b b]) ?_);rw[decide_eq_decide];exact⟨fun h=>⟨by omega,by omega,h⟩,fun h=>h.2.2⟩)
theorem Kp(z:List UInt8)(hz:z.length≤281474976710656)(v:Int)(h1:A4 Tryz.prog 162 [.str z] (.tup [.v (.int .i64 v),.err])):A4 Tryz.prog 126 [.str z] (.tup [.i v,.b false]):=by
 refine D0 Tryz.func126 29 fun ki E h0=>?_
 clear ki
 repeat'((first|refine A0 h1 ?_ |refine S2 ?_|(refine T6 ?_ ?_<;>intro h<;>try exact V1 h)|intro el ke kg|intro el ke|exact T4|refine T5 ?_ ?_|intro ex)<;>try conv=>whnf)
 all_goals first
  |exact O3 rfl rfl rfl
  |(exfalso;omega)
theorem Bp(z:List UInt8)(hz:z.length≤281474976710656):A4 Tryz.prog 126 [.str z] (.tup [.i (L3 z).1,.b (L3 z).2]):=by
 unfold L3
 cases h:Lib.atoiAll z with
 |ok v=>exact WK z hz h
 |range=>exact Kp z hz _ (RI z hz h)
 |_=>exact Kp z hz 0 (RH z hz h)
theorem Az(w:List UInt8):A4 Tryz.prog 82 [.str w] (.b (O4 w)):=by
 unfold O4
 refine D0 Tryz.func82 9 fun ki E h0=>?_
 clear ki
 repeat'((first|refine S2 ?_|(refine T6 ?_ ?_<;>intro h<;>try exact V1 h)|intro el ke kg|intro el ke|exact T4|refine T5 ?_ ?_|intro ex)<;>try conv=>whnf)
 all_goals first
  |(refine A3 rfl (congrArg AV.b ?_);rw[eq_comm,decide_eq_false_iff_not];exact fun h=>absurd (by assumption) h.1)
  |(refine A3 rfl (congrArg AV.b ?_);rw[decide_eq_decide];exact⟨fun h=>⟨by assumption,h⟩,fun h=>h.2⟩)
  |(refine A3 rfl (congrArg AV.b ?_);simp_all;done)
abbrev DW(s:A5)(d:G0):List AV:=[.sl 2 (s.lists.map R0),.sl 7 (s.cols.map M7),.str d.prj,.str d.src,.i d.coh.op,.i d.coh.col,.i d.coh.code,.i d.coh.lo,.i d.coh.hi,.sl 6 (d.coh.kids.map C3),.i d.part,.i d.of,.i d.seed,.row 1 0 d.qs.length]
abbrev w9(s:A5)(d:G0):Hp:=[(0,some (.box (DW s d))),(1,some (.row D7 17 0 (d.qs.map C0)))]
theorem AQ(s:A5)(d:G0)(t:List UInt8)(ht:t.length≤140737488355328):A9 Tryz.prog 81 2 (w9 s d) [.ref 0 0,.str t] 2 (w9 s d) (.tup [G9 (K5 s t).1,.b (decide ((K5 s t).2=0))]):=by
 have h1:=TL s t ht
 generalize K5 s t=C at *
 obtain⟨c,e⟩:=C
 dsimp only at h1 ⊢
 refine G4 Tryz.func81 20 fun E h0=>?_
 repeat'((first|refine A0 h1 ?_ |refine S2 ?_|(refine T6 ?_ ?_<;>intro h<;>try exact V1 h)|intro el ke kg|intro el ke|exact T4|refine T5 ?_ ?_|intro ex)<;>try conv=>whnf)
 all_goals first
  |exact C9 (rvs:=[.cell 4 Q6,.tmp 5]) (vs:=[_,_]) ⟨2,_,_,rfl,rfl,inferInstance,rfl,rfl,trivial⟩ rfl rfl (B2 h0) rfl
theorem E4{ws:List (List UInt8)}{i:Nat}(h:i<ws.length):ws[i]?=some (B1 ws i):=by
 rw[B1,List.getD_eq_getElem?_getD,List.getElem?_eq_getElem h];rfl
theorem SA(s:A5)(d:G0)(ws:List (List UInt8))(hw:∀w∈ws,w.length≤20000):A9 Tryz.prog 87 2 (w9 s d) [.ref 0 0,.sl 1 (ws.map F6)] 2 (w9 s (LX d ws).1) (.b (LX d ws).2):=by
 unfold LX
 by_cases kf:ws.length=6
 ·have g1:=E4 (ws:=ws) (i:=1) (by omega)
  have g2:=E4 (ws:=ws) (i:=2) (by omega)
  have g3:=E4 (ws:=ws) (i:=3) (by omega)
  have g4:=E4 (ws:=ws) (i:=4) (by omega)
  have g5:=E4 (ws:=ws) (i:=5) (by omega)
  have n1:=Bp (B1 ws 1) (by have:=hw _ (List.mem_of_getElem? g1);omega)
  have n3:=Bp (B1 ws 3) (by have:=hw _ (List.mem_of_getElem? g3);omega)
  have n5:=Bp (B1 ws 5) (by have:=hw _ (List.mem_of_getElem? g5);omega)
  generalize B1 ws 1=w1 at *
  generalize B1 ws 2=w2 at *
  generalize B1 ws 3=w3 at *
  generalize B1 ws 4=w4 at *
  generalize B1 ws 5=w5 at *
  generalize L3 w1=N1 at *
  generalize L3 w3=N3 at *
  generalize L3 w5=N5 at *
  obtain⟨a1,b1⟩:=N1
  obtain⟨a3,b3⟩:=N3
  obtain⟨a5,b5⟩:=N5
  dsimp only at n1 n3 n5 ⊢
  clear hw
  by_cases h2:w2=N8
  ·by_cases h4:w4=GL
   ·rw[if_neg (by simp[h2,h4,kf])]
    subst h2 h4
    dsimp only
    refine G4 Tryz.func87 62 fun E h0=>?_
    repeat'((first|(refine A2 (x:=w1) g1 (by omega) ?_)|(refine A2 (x:=N8) g2 (by omega) ?_)|(refine A2 (x:=w3) g3 (by omega) ?_)|(refine A2 (x:=GL) g4 (by omega) ?_)|(refine A2 (x:=w5) g5 (by omega) ?_)|refine A0 n1 ?_|refine A0 n3 ?_|refine A0 n5 ?_ |refine S2 ?_|(refine T6 ?_ ?_<;>intro h<;>try exact V1 h)|intro el ke kg|intro el ke|exact T4|refine T5 ?_ ?_|intro ex)<;>try conv=>whnf)
    all_goals first
     |(exfalso;omega)
     |(subst_vars;exact D9 (B2 h0))
     |contradiction
   ·rw[if_pos (.inr (.inr h4))]
    subst h2
    dsimp only
    refine G4 Tryz.func87 62 fun E h0=>?_
    repeat'((first|(refine A2 (x:=N8) g2 (by omega) ?_)|(refine A2 (x:=w4) g4 (by omega) ?_) |refine S2 ?_|(refine T6 ?_ ?_<;>intro h<;>try exact V1 h)|intro el ke kg|intro el ke|exact T4|refine T5 ?_ ?_|intro ex)<;>try conv=>whnf)
    all_goals first
     |(exfalso;omega)
     |exact D9 (B2 h0)
     |contradiction
  ·rw[if_pos (.inr (.inl h2))]
   dsimp only
   refine G4 Tryz.func87 62 fun E h0=>?_
   repeat'((first|(refine A2 (x:=w2) g2 (by omega) ?_) |refine S2 ?_|(refine T6 ?_ ?_<;>intro h<;>try exact V1 h)|intro el ke kg|intro el ke|exact T4|refine T5 ?_ ?_|intro ex)<;>try conv=>whnf)
   all_goals first
    |(exfalso;omega)
    |exact D9 (B2 h0)
    |contradiction
 ·rw[if_pos (.inl kf)]
  dsimp only
  refine G4 Tryz.func87 62 fun E h0=>?_
  repeat'((first|refine S2 ?_|(refine T6 ?_ ?_<;>intro h<;>try exact V1 h)|intro el ke kg|intro el ke|exact T4|refine T5 ?_ ?_|intro ex)<;>try conv=>whnf)
  all_goals first
   |(exfalso;omega)
   |exact D9 (B2 h0)
theorem Bq(c:UInt8)(t:List UInt8):0<(D3 [c] t).length:=List.length_pos_iff.2 (Np [c] t.length t)
theorem Ov{c:UInt8}(n0:Nat)(t0 w0:List UInt8)(h0:w0∈M0 [c] n0 t0):w0.length≤t0.length:=by
 have key:∀(n:Nat) (t:List UInt8),∀w∈M0 [c] n t,w.length≤t.length:=fun n=>by
  induction n with
  |zero=>intro t w hw;rw[M0,List.mem_singleton]at hw;subst hw;exact Nat.le_refl _
  |succ n ih =>
   intro t w hw
   rw[M0]at hw
   cases hc:BQ [c] t with
   |none=>rw[hc]at hw;dsimp only at hw;rw[List.mem_singleton]at hw;subst hw;exact Nat.le_refl _
   |some z =>
    obtain⟨x,y⟩:=z
    rw[hc]at hw
    dsimp only at hw
    have rr:=Hy hc
    have kf:t.length=x.length+1+y.length:=by rw[rr];simp only[List.length_append,List.length_singleton]
    rcases List.mem_cons.1 hw with rfl|hw
    ·omega
    ·have:=ih y w hw;omega
 exact key _ _ _ h0
theorem l9{c:UInt8}{t w:List UInt8}(h:w∈D3 [c] t):w.length≤t.length:=Ov _ _ _ h
theorem ap(s:A5)(d:G0)(t:List UInt8)(ht:t.length≤20000):A9 Tryz.prog 46 2 (w9 s d) [.ref 0 0,.i 1,.str t] 2 (w9 s (R5 s d 1 t).1) (.b (R5 s d 1 t).2):=by
 have h1:=P4 t [32] (by omega) (by simp)
 have kq:=Bq 32 t
 unfold R5
 rw[if_pos (by decide)]
 generalize D3 [32] t=ws at *
 have g0:=E4 (ws:=ws) (i:=0) kq
 generalize B1 ws 0=w0 at *
 by_cases hl:ws.length=2
 ·have g1:=E4 (ws:=ws) (i:=1) (by omega)
  have h2:=Az (B1 ws 1)
  generalize B1 ws 1=w1 at *
  by_cases hn:O4 w1=false
  ·rw[if_pos (.inr hn)]
   rw[hn]at h2
   dsimp only
   refine G4 Tryz.func46 79 fun E h0=>?_
   repeat'((first|(refine A2 (x:=w1) g1 (by omega) ?_)|refine A0 h1 ?_|refine A0 h2 ?_ |refine S2 ?_|(refine T6 ?_ ?_<;>intro h<;>try exact V1 h)|intro el ke kg|intro el ke|exact T4|refine T5 ?_ ?_|intro ex)<;>try conv=>whnf)
   all_goals first
    |(exfalso;omega)
    |exact D9 (B2 h0)
  ·have nq:O4 w1=true:=by simpa using hn
   rw[if_neg (by rintro (h|h);(exact h hl);exact hn h),if_pos rfl]
   rw[nq]at h2
   dsimp only
   refine G4 Tryz.func46 79 fun E h0=>?_
   repeat'((first|(refine A2 (x:=w1) g1 (by omega) ?_)|(refine A2 (x:=w0) g0 (by omega) ?_)|refine A0 h1 ?_|refine A0 h2 ?_ |refine S2 ?_|(refine T6 ?_ ?_<;>intro h<;>try exact V1 h)|intro el ke kg|intro el ke|exact T4|refine T5 ?_ ?_|intro ex)<;>try conv=>whnf)
   all_goals first
    |(exfalso;omega)
    |exact D9 (B2 h0)
 ·rw[if_pos (.inl hl)]
  dsimp only
  refine G4 Tryz.func46 79 fun E h0=>?_
  repeat'((first|refine A0 h1 ?_ |refine S2 ?_|(refine T6 ?_ ?_<;>intro h<;>try exact V1 h)|intro el ke kg|intro el ke|exact T4|refine T5 ?_ ?_|intro ex)<;>try conv=>whnf)
  all_goals first
   |(exfalso;omega)
   |exact D9 (B2 h0)
theorem aq(s:A5)(d:G0)(t:List UInt8)(ht:t.length≤20000):A9 Tryz.prog 46 2 (w9 s d) [.ref 0 0,.i 2,.str t] 2 (w9 s (R5 s d 2 t).1) (.b (R5 s d 2 t).2):=by
 have h1:=P4 t [32] (by omega) (by simp)
 have kq:=Bq 32 t
 unfold R5
 rw[if_pos (by decide)]
 generalize D3 [32] t=ws at *
 have g0:=E4 (ws:=ws) (i:=0) kq
 generalize B1 ws 0=w0 at *
 by_cases hl:ws.length=2
 ·have g1:=E4 (ws:=ws) (i:=1) (by omega)
  have h2:=Az (B1 ws 1)
  generalize B1 ws 1=w1 at *
  by_cases hn:O4 w1=false
  ·rw[if_pos (.inr hn)]
   rw[hn]at h2
   dsimp only
   refine G4 Tryz.func46 79 fun E h0=>?_
   repeat'((first|(refine A2 (x:=w1) g1 (by omega) ?_)|refine A0 h1 ?_|refine A0 h2 ?_ |refine S2 ?_|(refine T6 ?_ ?_<;>intro h<;>try exact V1 h)|intro el ke kg|intro el ke|exact T4|refine T5 ?_ ?_|intro ex)<;>try conv=>whnf)
   all_goals first
    |(exfalso;omega)
    |exact D9 (B2 h0)
  ·have nq:O4 w1=true:=by simpa using hn
   rw[if_neg (by rintro (h|h);(exact h hl);exact hn h),if_neg (by decide)]
   rw[nq]at h2
   dsimp only
   refine G4 Tryz.func46 79 fun E h0=>?_
   repeat'((first|(refine A2 (x:=w1) g1 (by omega) ?_)|(refine A2 (x:=w0) g0 (by omega) ?_)|refine A0 h1 ?_|refine A0 h2 ?_ |refine S2 ?_|(refine T6 ?_ ?_<;>intro h<;>try exact V1 h)|intro el ke kg|intro el ke|exact T4|refine T5 ?_ ?_|intro ex)<;>try conv=>whnf)
   all_goals first
    |(exfalso;omega)
    |exact D9 (B2 h0)
 ·rw[if_pos (.inl hl)]
  dsimp only
  refine G4 Tryz.func46 79 fun E h0=>?_
  repeat'((first|refine A0 h1 ?_ |refine S2 ?_|(refine T6 ?_ ?_<;>intro h<;>try exact V1 h)|intro el ke kg|intro el ke|exact T4|refine T5 ?_ ?_|intro ex)<;>try conv=>whnf)
  all_goals first
   |(exfalso;omega)
   |exact D9 (B2 h0)
theorem ar(s:A5)(d:G0)(t:List UInt8)(ht:t.length≤20000):A9 Tryz.prog 46 2 (w9 s d) [.ref 0 0,.i 3,.str t] 2 (w9 s (R5 s d 3 t).1) (.b (R5 s d 3 t).2):=by
 have h1:=P4 t [32] (by omega) (by simp)
 have h2:=Gx t Aw (by omega) (by decide)
 have ku:=K2 Aw t
 unfold R5
 rw[if_neg (by decide),if_pos rfl]
 generalize D3 [32] t=ws at *
 have h3:=AQ s d (A8 Aw t).1 (by omega)
 generalize A8 Aw t=C at *
 obtain⟨u,b⟩:=C
 dsimp only at h2 h3 ku ⊢
 cases b with
 |false =>
  rw[if_pos rfl]
  dsimp only
  refine G4 Tryz.func46 79 fun E h0=>?_
  repeat'((first|refine A0 h1 ?_|refine A0 h2 ?_ |refine S2 ?_|(refine T6 ?_ ?_<;>intro h<;>try exact V1 h)|intro el ke kg|intro el ke|exact T4|refine T5 ?_ ?_|intro ex)<;>try conv=>whnf)
  all_goals first
   |(exfalso;omega)
   |exact D9 (B2 h0)
 |true =>
  rw[if_neg (by simp)]
  generalize K5 s u=R at *
  obtain⟨c,e⟩:=R
  dsimp only at h3 ⊢
  refine G4 Tryz.func46 79 fun E h0=>?_
  repeat'((first|refine A0 h1 ?_|refine A0 h2 ?_ |refine S2 ?_|(refine T6 ?_ ?_<;>intro h<;>try exact V1 h)|intro el ke kg|intro el ke|exact T4|refine T5 ?_ ?_|intro ex|refine nc [0,1] [0,0] h3 rfl rfl rfl ⟨rfl,rfl,trivial⟩ ?_)<;>try conv=>whnf)
  all_goals first
   |(exfalso;omega)
   |exact D9 (B2 h0)
theorem au(s:A5)(d:G0)(t:List UInt8)(ht:t.length≤20000):A9 Tryz.prog 46 2 (w9 s d) [.ref 0 0,.i 4,.str t] 2 (w9 s (R5 s d 4 t).1) (.b (R5 s d 4 t).2):=by
 have h1:=P4 t [32] (by omega) (by simp)
 have kq:=Bq 32 t
 have h2:=SA s d (D3 [32] t) (fun w hw=>Nat.le_trans (l9 hw) ht)
 unfold R5
 rw[if_neg (by decide),if_neg (by decide)]
 generalize D3 [32] t=ws at *
 have g0:=E4 (ws:=ws) (i:=0) kq
 generalize B1 ws 0=w0 at *
 by_cases hw:w0=JX
 ·subst hw
  rw[if_pos rfl]
  generalize LX d ws=R at *
  obtain⟨d2,b⟩:=R
  dsimp only at h2 ⊢
  refine G4 Tryz.func46 79 fun E h0=>?_
  repeat'((first|(refine A2 (x:=JX) g0 (by omega) ?_)|refine A0 h1 ?_ |refine S2 ?_|(refine T6 ?_ ?_<;>intro h<;>try exact V1 h)|intro el ke kg|intro el ke|exact T4|refine T5 ?_ ?_|intro ex|refine nc [0,1] [0,0] h2 rfl rfl rfl ⟨rfl,rfl,trivial⟩ ?_)<;>try conv=>whnf)
  all_goals first
   |(exfalso;omega)
   |exact D9 (B2 h0)
   |contradiction
 ·rw[if_neg hw]
  dsimp only
  refine G4 Tryz.func46 79 fun E h0=>?_
  repeat'((first|(refine A2 (x:=w0) g0 (by omega) ?_)|refine A0 h1 ?_ |refine S2 ?_|(refine T6 ?_ ?_<;>intro h<;>try exact V1 h)|intro el ke kg|intro el ke|exact T4|refine T5 ?_ ?_|intro ex)<;>try conv=>whnf)
  all_goals first
   |(exfalso;omega)
   |contradiction
   |exact D9 (B2 h0)
theorem TQ(s:A5)(d:G0)(n:Nat)(hn:1≤n∧n≤4)(t:List UInt8)(ht:t.length≤20000):A9 Tryz.prog 46 2 (w9 s d) [.ref 0 0,.i n,.str t] 2 (w9 s (R5 s d n t).1) (.b (R5 s d n t).2):=by
 rcases(show n=1∨n=2∨n=3∨n=4 by omega)with rfl|rfl|rfl|rfl
 ·exact ap s d t ht
 ·exact aq s d t ht
 ·exact ar s d t ht
 ·exact au s d t ht
theorem Jc{s:A5}:∀{l:List (List UInt8)} {k:Nat} {w:List UInt8},Bo s (l.take k)=false→l[k]?=some w→¬F0 s w<0→l8 s (l.take (k+1))=l8 s (l.take k)++[F0 s w]∧Bo s (l.take (k+1))=false
 |[],k,w,_,h,_=>by simp at h
 |x::r,0,w,_,h,hw=>by
  simp at h
  subst h
  rw[List.take_succ_cons,List.take_zero,List.take_zero]
  exact⟨by simp[l8,hw],by simp[Bo,hw]⟩
 |x::r,k+1,w,hb,h,hw=>by
  rw[List.take_succ_cons]at hb
  unfold Bo at hb
  rw[List.any_cons,Bool.or_eq_false_iff]at hb
  obtain⟨i1,i2⟩:=Jc (s:=s) (l:=r) (k:=k) (w:=w) hb.2 (by simpa using h) hw
  have hx:¬F0 s x<0:=of_decide_eq_false hb.1
  rw[List.take_succ_cons,List.take_succ_cons,l8,if_neg hx,l8,if_neg hx,i1]
  refine⟨rfl,?_⟩
  unfold Bo at i2 ⊢
  rw[List.any_cons,i2,decide_eq_false hx];rfl
theorem Fm{s:A5}{l:List (List UInt8)}(h:Bo s l=false):(l8 s l).length=l.length:=by
 induction l with
 |nil=>rfl
 |cons x r ih =>
  unfold Bo at h
  rw[List.any_cons,Bool.or_eq_false_iff]at h
  rw[l8,if_neg (of_decide_eq_false h.1),List.length_cons,List.length_cons,ih h.2]
theorem SB{s:A5}{l:List (List UInt8)}{k:Nat}{w:List UInt8}(h:l[k]?=some w)(hw:F0 s w<0):Bo s l=true:=by
 unfold Bo
 rw[List.any_eq_true]
 exact⟨w,List.mem_of_getElem? h,decide_eq_true hw⟩
theorem Ca(s:A5)(hr:C8 s=0)(d:G0)(ws:List (List UInt8))(lX:ws.length≤30000):A9 Tryz.prog 124 2 (w9 s d) [.ref 0 0,.sl 1 (ws.map F6)] 2 (w9 s d) (.tup [.sl 1 ((G5 s ws).1.map wA),.b (G5 s ws).2]):=by
 generalize hC:G5 s ws=C
 obtain⟨C1,C2⟩:=C
 dsimp only
 unfold G5 at hC
 have hf:=fun w=>Ev s w
 refine G4 Tryz.func124 33 fun E h0=>?_
 repeat'((first|refine S2 ?_|(refine T6 ?_ ?_<;>intro h<;>try exact V1 h)|intro el ke kg|intro el ke|exact T4|refine T5 ?_ ?_|intro ex)<;>try conv=>whnf)
 refine D5 (ι:=Nat) (fun k=>⟨[(0,.ref 0 0),(6,.row 2 0 (l8 s (ws.take k)).length),(10,.sl 1 (ws.map F6)),(11,.i ws.length),(12,.i k)],3,[(0,some (.box (DW s d))),(1,some (.row D7 17 0 (d.qs.map C0))),(2,some (.row 3 1 0 ((l8 s (ws.take k)).map wA)))]⟩) (fun k=>k≤ws.length∧Bo s (ws.take k)=false) (fun k=>ws.length-k) 0 ⟨Nat.zero_le _,rfl⟩
  (B4 (Dq (d:=6) (e:=3) (sz:=1) rfl) (B0 h0 rfl ⟨rfl,rfl,rfl,rfl,rfl,trivial⟩ ⟨rfl,⟨_,rfl⟩,⟨0,rfl⟩,trivial⟩ rfl rfl rfl)) (fun k hI=>?_)
 obtain⟨hk,hI⟩:=hI
 have ku:=Fm hI
 rw[List.length_take]at ku
 by_cases kj:k<ws.length
 ·obtain⟨w,hw⟩:∃w,ws[k]?=some w:=⟨_,List.getElem?_eq_getElem kj⟩
  have h1:=hf w
  have li:=fun h=>Jc (s:=s) (l:=ws) (k:=k) (w:=w) hI hw h
  have nI:=fun h=>SB (s:=s) (l:=ws) hw h
  generalize F0 s w=c at *
  generalize l8 s (ws.take k)=A at *
  repeat'((first|(refine A2 (x:=w) hw (by omega) ?_)|refine A0 h1 ?_ |refine S2 ?_|(refine T6 ?_ ?_<;>intro h<;>try exact V1 h)|intro el ke kg|intro el ke|exact T4|refine T5 ?_ ?_|intro ex)<;>try conv=>whnf)
  all_goals first
   |(exfalso;omega)
   |(rw[if_pos (nI (by omega))]at hC;cases hC;exact C9 (rvs:=[.tmp 4,.tmp 5]) (vs:=[_,_]) trivial rfl rfl (B4 (H4 4 (.sl 1 []) rfl (.nil 1)) (B2 h0)) rfl)
   |(obtain⟨q1,q2⟩:=li (by omega);exact⟨k+1,⟨by omega,q2⟩,by omega,by rw[q1];exact B0 h0 rfl ⟨rfl,congrArg (fun z:Nat=>some (AV.row 2 0 z)) (by rw[List.length_append];rfl),rfl,rfl,congrArg (fun z:Int=>some (AV.i z)) (by omega),trivial⟩ ⟨rfl,⟨_,rfl⟩,⟨_,congrArg (G1.row 3 1 _) (by rw[List.map_append];rfl)⟩,trivial⟩ rfl rfl rfl⟩)
 ·obtain rfl:k=ws.length:=by omega
  rw[List.take_length]at hI ku ⊢
  rw[if_neg (by rw[hI];simp)]at hC
  cases hC
  rw[show decide (0<ws.length)=decide (0<((l8 s ws).length:Int)) by rw[decide_eq_decide];omega]
  generalize l8 s ws=A at *
  clear hf hI
  repeat'((first|refine S2 ?_|(refine T6 ?_ ?_<;>intro h<;>try exact V1 h)|intro el ke kg|intro el ke|exact T4|refine T5 ?_ ?_|intro ex)<;>try conv=>whnf)
  all_goals first
   |(exfalso;omega)
   |exact C9 (rvs:=[.tmp 4,.tmp 5]) (vs:=[_,_]) trivial rfl rfl (B2 h0) rfl
end Go.Proofs.YtkcekccdcpmekaaGreatDoor
