/- Chapter 8: the program's reader: tables, models, curves. -/
import Derived.Test.YtkcekccdcpmekaaGreatDoorQQr2
set_option linter.unusedVariables false
set_option linter.unnecessarySimpa false
set_option linter.unusedSimpArgs false
set_option maxHeartbeats 64000000
namespace Go.Proofs.YtkcekccdcpmekaaGreatDoor
open Go Go.Av
attribute [local irreducible] E8 B5 E5 E1 DQ E7 E9 St.le A4 A9
set_option maxRecDepth 100000
abbrev w6:Nat:=41
abbrev q0(nm:List UInt8)(f:A1):E3:=⟨nm,0,f,[],0,[],zX⟩
abbrev iQ(nm:List UInt8)(f:A1):List AV:=[.str nm,.i 0,.i f.op,.i f.col,.i f.code,.i f.lo,.i f.hi,.sl 6 (f.kids.map C3),A6,.i 0,A6,.i 0,.i 0,.i 0,.i 0,.i 0,A6]
abbrev YU(s:A5)(d:G0)(l:List AV):Hp:=[(0,some (.box (DW s d))),(1,some (.row D7 17 0 (d.qs.map C0))),(2,some (.box l))]
theorem IC{s:A5}:∀{l:List (List UInt8)} {k:Nat} {w:List UInt8},(l.take k).any (W9 s)=false→l[k]?=some w→W9 s w=false→j4 s (l.take (k+1))=j4 s (l.take k)++[JY s w]∧(l.take (k+1)).any (W9 s)=false
 |[],k,w,_,h,_=>by simp at h
 |x::r,0,w,_,h,hw=>by
  simp at h
  subst h
  rw[List.take_succ_cons,List.take_zero,List.take_zero]
  exact⟨by simp[j4,hw],by simp[hw]⟩
 |x::r,k+1,w,hb,h,hw=>by
  rw[List.take_succ_cons,List.any_cons,Bool.or_eq_false_iff]at hb
  obtain⟨i1,i2⟩:=IC (s:=s) (l:=r) (k:=k) (w:=w) hb.2 (by simpa using h) hw
  rw[List.take_succ_cons,List.take_succ_cons,j4,if_neg (by rw[hb.1];simp),j4,if_neg (by rw[hb.1];simp),i1]
  exact⟨rfl,by rw[List.any_cons,hb.1,i2];rfl⟩
theorem ID{s:A5}:∀{l:List (List UInt8)} {k:Nat} {w:List UInt8},(l.take k).any (W9 s)=false→l[k]?=some w→W9 s w=true→j4 s l=j4 s (l.take k)∧l.any (W9 s)=true
 |[],k,w,_,h,_=>by simp at h
 |x::r,0,w,_,h,hw=>by
  simp at h
  subst h
  rw[List.take_zero]
  exact⟨by simp[j4,hw],by simp[hw]⟩
 |x::r,k+1,w,hb,h,hw=>by
  rw[List.take_succ_cons,List.any_cons,Bool.or_eq_false_iff]at hb
  obtain⟨i1,i2⟩:=ID (s:=s) (l:=r) (k:=k) (w:=w) hb.2 (by simpa using h) hw
  rw[List.take_succ_cons,j4,if_neg (by rw[hb.1];simp),j4,if_neg (by rw[hb.1];simp),i1]
  exact⟨rfl,by rw[List.any_cons,hb.1,i2];rfl⟩
theorem KI{s:A5}:∀l:List (List UInt8),(j4 s l).length≤l.length
 |[]=>Nat.le_refl _
 |x::r=>by
  rw[j4]
  split
  ·simp
  ·have:=KI (s:=s) r
   rw[List.length_cons,List.length_cons];omega
theorem ci(w:List UInt8):Lib.cut w [47]=(w.takeWhile (B3 47),(w.dropWhile (B3 47)).drop 1,decide (w.dropWhile (B3 47)≠[])):=KE 47 w
abbrev kP(nm:List UInt8)(f:A1)(R:E3):List AV:=[.str nm,.i 1,.i f.op,.i f.col,.i f.code,.i f.lo,.i f.hi,.sl 6 (f.kids.map C3),.row 3 0 R.dims.length,.i R.mea,A6,.i 0,.i 0,.i 0,.i 0,.i 0,A6]
abbrev kQ(s:A5)(d:G0)(nm:List UInt8)(f:A1)(R:E3):Hp:=[(0,some (.box (DW s d))),(1,some (.row D7 17 0 (d.qs.map C0))),(2,some (.box (kP nm f R))),(3,some (.row w6 2 0 (R.dims.map N7)))]
theorem SC(s:A5)(hr:C8 s=0)(d:G0)(nm:List UInt8)(f:A1)(ws:List (List UInt8))(hw:∀w∈ws,w.length≤20000)(hl:ws.length≤20001):A9 Tryz.prog 83 3 (YU s d (iQ nm f)) [.ref 0 0,.sl 1 (ws.map F6),.ref 2 0] 4 (kQ s d nm f (Ax s ws (q0 nm f)).1) (.b (Ax s ws (q0 nm f)).2):=by
 generalize hR:Ax s ws (q0 nm f)=R
 obtain⟨R1,R2⟩:=R
 dsimp only
 unfold Ax at hR
 by_cases h3:ws.length<3
 ·rw[if_pos (.inl h3)]at hR
  cases hR
  refine G4 Tryz.func83 119 fun E h0=>?_
  repeat'((first|refine S2 ?_|(refine T6 ?_ ?_<;>intro h<;>try exact V1 h)|intro el ke kg|intro el ke|exact T4|refine T5 ?_ ?_|intro ex)<;>try conv=>whnf)
  all_goals first
   |(exfalso;omega)
   |exact D9 (B4 (U9 2 8 (e:=w6) (sz:=2) rfl rfl) (B2 h0))
 have g1:=E4 (ws:=ws) (i:=1) (by omega)
 generalize B1 ws 1=w1 at *
 by_cases ng:¬w1=AW
 ·rw[if_pos (.inr ng)]at hR
  cases hR
  refine G4 Tryz.func83 119 fun E h0=>?_
  repeat'((first|(refine A2 (x:=w1) g1 (by omega) ?_) |refine S2 ?_|(refine T6 ?_ ?_<;>intro h<;>try exact V1 h)|intro el ke kg|intro el ke|exact T4|refine T5 ?_ ?_|intro ex)<;>try conv=>whnf)
  all_goals first
   |(exfalso;omega)
   |contradiction
   |exact D9 (B4 (U9 2 8 (e:=w6) (sz:=2) rfl rfl) (B2 h0))
 rw[if_neg (by rintro (h|h);(exact h3 h);exact ng h)]at hR
 obtain rfl:w1=AW:=Decidable.of_not_not ng
 have lD:List.drop (2:Int).toNat (List.take (((ws.map F6).length:Nat):Int).toNat (ws.map F6))=(ws.drop 2).map F6:=by
  rw[Int.toNat_natCast,show (2:Int).toNat=2 from rfl,List.take_length,List.map_drop]
 have oF:∀w∈ws.drop 2,w.length≤20000:=fun w h=>hw w (List.mem_of_mem_drop h)
 have mK:(ws.drop 2).length=ws.length-2:=List.length_drop
 have hne:1≤(ws.drop 2).length:=by omega
 clear hw ng
 generalize hV:ws.drop 2=V at *
 by_cases pF:2≤V.length∧B1 V (V.length-2)=W7
 ·rw[if_pos pF]at hR
  obtain⟨oB,wr⟩:=pF
  have g2:=E4 (ws:=V) (i:=V.length-2) (by omega)
  rw[wr]at g2
  have vw:V[((V.length:Int)-2).toNat]?=some W7:=by rw[show ((V.length:Int)-2).toNat=V.length-2 by omega];exact g2
  have tE:List.drop ((V.length:Int)-1).toNat (List.take (((V.map F6).length:Nat):Int).toNat (V.map F6))=(V.drop (V.length-1)).map F6:=by
   rw[Int.toNat_natCast,show ((V.length:Int)-1).toNat=V.length-1 by omega,List.take_length,List.map_drop]
  have mR:List.drop ((0:Nat):Int).toNat (List.take ((V.length:Int)-2).toNat (V.map F6))=(V.take (V.length-2)).map F6:=by
   rw[show ((V.length:Int)-2).toNat=V.length-2 by omega,List.map_take];rfl
  have lz:=Ca s hr d (V.drop (V.length-1)) (by rw[List.length_drop];omega)
  rw[←tE]at lz
  have nH:(G5 s (V.drop (V.length-1))).2=true→∃c0,(G5 s (V.drop (V.length-1))).1[0]?=some c0∧(G5 s (V.drop (V.length-1))).1.getD 0 0=c0:=by
   intro hb
   unfold G5 at hb ⊢
   split at hb
   ·cases hb
   ·rename_i sn
    rw[if_neg sn]
    dsimp only at hb ⊢
    have oI:=Fm (s:=s) (l:=V.drop (V.length-1)) (by simpa using sn)
    have xY:0<(V.drop (V.length-1)).length:=of_decide_eq_true hb
    refine⟨_,List.getElem?_eq_getElem (by omega),?_⟩
    rw[List.getD_eq_getElem?_getD,List.getElem?_eq_getElem (by omega)];rfl
  have uF:∀w∈V.take (V.length-2),w.length≤20000:=fun w h=>oF w (List.mem_of_mem_take h)
  have mf:(V.take (V.length-2)).length≤V.length:=by rw[List.length_take];omega
  generalize G5 s (V.drop (V.length-1))=C at *
  obtain⟨C1,C2⟩:=C
  dsimp only at lz nH hR
  cases C2 with
  |false =>
   rw[if_pos rfl]at hR
   cases hR
   refine G4 Tryz.func83 119 fun E h0=>?_
   repeat'((first|(refine Dp (σ':=⟨[(0,.ref 0 0),(2,.ref 2 0),(7,.sl 1 (V.map F6))],3,[(0,some (.box (DW s d))),(1,some (.row D7 17 0 (d.qs.map C0))),(2,some (.box [.str nm,.i 1,.i f.op,.i f.col,.i f.code,.i f.lo,.i f.hi,.sl 6 (f.kids.map C3),A6,.i (-1),A6,.i 0,.i 0,.i 0,.i 0,.i 0,A6]))]⟩) (B0 h0 rfl ⟨rfl,rfl,congrArg (fun z=>some (AV.sl 1 z)) lD,trivial⟩ ⟨rfl,⟨_,rfl⟩,rfl,trivial⟩ rfl rfl rfl) ?_)|(refine A2 (x:=AW) g1 (by omega) ?_)|(refine A2 (x:=W7) vw (by omega) ?_) |refine S2 ?_|(refine T6 ?_ ?_<;>intro h<;>try exact V1 h)|intro el ke kg|intro el ke|exact T4|refine T5 ?_ ?_|intro ex|refine nc [0,1] [0,0] lz rfl rfl rfl ⟨rfl,rfl,trivial⟩ ?_)<;>try conv=>whnf)
   all_goals first
    |(exfalso;omega)
    |contradiction
    |exact D9 (B4 (U9 2 8 (e:=w6) (sz:=2) rfl rfl) (B2 h0))
  |true =>
   rw[if_neg (by simp)]at hR
   obtain⟨c0,gc,gd⟩:=nH rfl
   rw[gd]at hR
   refine G4 Tryz.func83 119 fun E h0=>?_
   repeat'((first|(refine Dp (σ':=⟨[(0,.ref 0 0),(2,.ref 2 0),(7,.sl 1 (V.map F6))],3,[(0,some (.box (DW s d))),(1,some (.row D7 17 0 (d.qs.map C0))),(2,some (.box [.str nm,.i 1,.i f.op,.i f.col,.i f.code,.i f.lo,.i f.hi,.sl 6 (f.kids.map C3),A6,.i (-1),A6,.i 0,.i 0,.i 0,.i 0,.i 0,A6]))]⟩) (B0 h0 rfl ⟨rfl,rfl,congrArg (fun z=>some (AV.sl 1 z)) lD,trivial⟩ ⟨rfl,⟨_,rfl⟩,rfl,trivial⟩ rfl rfl rfl) ?_)|(refine C5 (id:=10) ⟨[(0,.ref 0 0),(2,.ref 2 0),(7,.sl 1 ((V.take (V.length-2)).map F6))],3,[(0,some (.box (DW s d))),(1,some (.row D7 17 0 (d.qs.map C0))),(2,some (.box [.str nm,.i 1,.i f.op,.i f.col,.i f.code,.i f.lo,.i f.hi,.sl 6 (f.kids.map C3),A6,.i c0,A6,.i 0,.i 0,.i 0,.i 0,.i 0,A6]))]⟩ ?_ ?_)|(refine A2 (x:=AW) g1 (by omega) ?_)|(refine A2 (x:=W7) vw (by omega) ?_)|(refine A2 (x:=c0) gc (by omega) ?_) |refine S2 ?_|(refine T6 ?_ ?_<;>intro h<;>try exact V1 h)|intro el ke kg|intro el ke|exact T4|refine T5 ?_ ?_|intro ex|refine nc [0,1] [0,0] lz rfl rfl rfl ⟨rfl,rfl,trivial⟩ ?_)<;>try conv=>whnf)
   all_goals first
    |(exfalso;omega)
    |contradiction
    |exact B0 h0 rfl ⟨rfl,rfl,congrArg (fun z=>some (AV.sl 1 z)) mR,trivial⟩ ⟨rfl,⟨_,rfl⟩,rfl,trivial⟩ rfl rfl rfl
    |skip
   unfold Fj at hR
   dsimp only at hR
   refine D5 (ι:=Nat) (fun k=>⟨[(0,.ref 0 0),(2,.ref 2 0),(7,.sl 1 ((V.take (V.length-2)).map F6)),(69,.sl 1 ((V.take (V.length-2)).map F6)),(70,.i (V.take (V.length-2)).length),(71,.i k)],4,[(0,some (.box (DW s d))),(1,some (.row D7 17 0 (d.qs.map C0))),(2,some (.box [.str nm,.i 1,.i f.op,.i f.col,.i f.code,.i f.lo,.i f.hi,.sl 6 (f.kids.map C3),.row 3 0 (j4 s ((V.take (V.length-2)).take k)).length,.i (c0),A6,.i 0,.i 0,.i 0,.i 0,.i 0,A6])),(3,some (.row w6 2 0 ((j4 s ((V.take (V.length-2)).take k)).map N7)))]⟩) (fun k=>k≤(V.take (V.length-2)).length∧((V.take (V.length-2)).take k).any (W9 s)=false) (fun k=>(V.take (V.length-2)).length-k) 0 ⟨Nat.zero_le _,rfl⟩
    (by refine B4 (U9 2 8 (e:=w6) (sz:=2) rfl rfl) ?_;exact B0 h0 rfl ⟨rfl,rfl,rfl,rfl,rfl,rfl,trivial⟩ ⟨rfl,⟨_,rfl⟩,rfl,⟨0,rfl⟩,trivial⟩ rfl rfl rfl) (fun k hI=>?_)
   obtain⟨hk,hI⟩:=hI
   have mK:=KI (s:=s) ((V.take (V.length-2)).take k)
   have tH:((V.take (V.length-2)).take k).length≤(V.take (V.length-2)).length:=by rw[List.length_take];omega
   by_cases kj:k<(V.take (V.length-2)).length
   ·obtain⟨w,nN⟩:∃w,(V.take (V.length-2))[k]?=some w:=⟨_,List.getElem?_eq_getElem kj⟩
    have lX:=uF w (List.mem_of_getElem? nN)
    have c1:=Ay w [47] (by omega)
    rw[ci]at c1
    have ue:=P7 (B3 47) w
    have uL:=J7 (B3 47) w
    have h1:=Ev s (w.takeWhile (B3 47))
    have h2:=Bp ((w.dropWhile (B3 47)).drop 1) (by rw[List.length_drop];omega)
    have li:=IC (s:=s) hI nN
    have nR:=ID (s:=s) hI nN
    have tB:W9 s w=(decide (F0 s (w.takeWhile (B3 47))<0) || !(L3 ((w.dropWhile (B3 47)).drop 1)).2):=rfl
    have ov:JY s w=⟨F0 s (w.takeWhile (B3 47)),(L3 ((w.dropWhile (B3 47)).drop 1)).1⟩:=rfl
    rw[tB]at li nR
    rw[ov]at li
    clear tB ov
    generalize F0 s (w.takeWhile (B3 47))=c at *
    generalize L3 ((w.dropWhile (B3 47)).drop 1)=V at *
    obtain⟨v,b⟩:=V
    dsimp only at h2 li nR
    generalize w.takeWhile (B3 47)=u1 at *
    generalize (w.dropWhile (B3 47)).drop 1=u2 at *
    generalize decide (w.dropWhile (B3 47)≠[])=u3 at *
    generalize j4 s ((V.take (V.length-2)).take k)=A at *
    have rE:A.length≤20000:=by omega
    clear hr
    cases b with
    |true =>
     repeat'((first|(refine A2 (x:=w) nN (by omega) ?_)|refine A0 c1 ?_|refine A0 h1 ?_|refine A0 h2 ?_ |refine S2 ?_|(refine T6 ?_ ?_<;>intro h<;>try exact V1 h)|intro el ke kg|intro el ke|exact T4|refine T5 ?_ ?_|intro ex)<;>try conv=>whnf)
     all_goals first
      |(exfalso;omega)
      |(obtain⟨q1,q2⟩:=nR (by simp;omega);rw[q1]at hR;rw[q2,Bool.not_true,Bool.and_false]at hR;cases hR;exact D9 (B2 h0))
      |(obtain⟨q1,q2⟩:=li (by simp;omega);exact⟨k+1,⟨by omega,q2⟩,by omega,by rw[q1];exact B0 h0 rfl ⟨rfl,rfl,rfl,rfl,rfl,congrArg (fun z:Int=>some (AV.i z)) (by omega),trivial⟩ ⟨rfl,⟨_,rfl⟩,congrArg (fun z=>G1.box [.str nm,.i 1,.i f.op,.i f.col,.i f.code,.i f.lo,.i f.hi,.sl 6 (f.kids.map C3),.row 3 0 z,.i (c0),A6,.i 0,.i 0,.i 0,.i 0,.i 0,A6]) (by rw[List.length_append];rfl),⟨_,congrArg (G1.row w6 2 _) (by rw[List.map_append];rfl)⟩,trivial⟩ rfl rfl rfl⟩)
    |false =>
     repeat'((first|(refine A2 (x:=w) nN (by omega) ?_)|refine A0 c1 ?_|refine A0 h1 ?_|refine A0 h2 ?_ |refine S2 ?_|(refine T6 ?_ ?_<;>intro h<;>try exact V1 h)|intro el ke kg|intro el ke|exact T4|refine T5 ?_ ?_|intro ex)<;>try conv=>whnf)
     all_goals first
      |(exfalso;omega)
      |(obtain⟨q1,q2⟩:=nR (by simp);rw[q1]at hR;rw[q2,Bool.not_true,Bool.and_false]at hR;cases hR;exact D9 (B2 h0))
   ·obtain rfl:k=(V.take (V.length-2)).length:=by omega
    rw[List.take_length]at hI mK ⊢
    rw[hI]at hR
    generalize j4 s (V.take (V.length-2))=A at *
    clear hr hI
    repeat'((first|refine S2 ?_|(refine T6 ?_ ?_<;>intro h<;>try exact V1 h)|intro el ke kg|intro el ke|exact T4|refine T5 ?_ ?_|intro ex)<;>try conv=>whnf)
    all_goals first
     |(exfalso;omega)
     |(rw[Bool.not_false,Bool.and_true]at hR;cases hR;exact D9 (B0 h0 rfl ⟨congrArg (fun z:Bool=>some (AV.b z)) (by rw[eq_comm,decide_eq_false_iff_not];omega),trivial⟩ ⟨rfl,⟨_,rfl⟩,rfl,⟨_,rfl⟩,trivial⟩ rfl rfl rfl))
     |(rw[Bool.not_false,Bool.and_true]at hR;cases hR;exact D9 (B0 h0 rfl ⟨congrArg (fun z:Bool=>some (AV.b z)) (by rw[decide_eq_decide];omega),trivial⟩ ⟨rfl,⟨_,rfl⟩,rfl,⟨_,rfl⟩,trivial⟩ rfl rfl rfl))
 ·rw[if_neg pF]at hR
  have g2:2≤V.length→V[((V.length:Int)-2).toNat]?=some (B1 V (V.length-2)):=fun h=>by rw[show ((V.length:Int)-2).toNat=V.length-2 by omega];exact E4 (by omega)
  generalize B1 V (V.length-2)=w2 at *
  refine G4 Tryz.func83 119 fun E h0=>?_
  repeat'((first|(refine Dp (σ':=⟨[(0,.ref 0 0),(2,.ref 2 0),(7,.sl 1 (V.map F6))],3,[(0,some (.box (DW s d))),(1,some (.row D7 17 0 (d.qs.map C0))),(2,some (.box [.str nm,.i 1,.i f.op,.i f.col,.i f.code,.i f.lo,.i f.hi,.sl 6 (f.kids.map C3),A6,.i (-1),A6,.i 0,.i 0,.i 0,.i 0,.i 0,A6]))]⟩) (B0 h0 rfl ⟨rfl,rfl,congrArg (fun z=>some (AV.sl 1 z)) lD,trivial⟩ ⟨rfl,⟨_,rfl⟩,rfl,trivial⟩ rfl rfl rfl) ?_)|(refine A2 (x:=AW) g1 (by omega) ?_)|(refine A2 (x:=w2) (g2 (by omega)) (by omega) ?_) |refine S2 ?_|(refine T6 ?_ ?_<;>intro h<;>try exact V1 h)|intro el ke kg|intro el ke|exact T4|refine T5 ?_ ?_|intro ex)<;>try conv=>whnf)
  all_goals first
   |(exfalso;omega)
   |(exfalso;exact pF ⟨by omega,by assumption⟩)
   |contradiction
   |skip
  all_goals
   unfold Fj at hR
   dsimp only at hR
   refine D5 (ι:=Nat) (fun k=>⟨[(0,.ref 0 0),(2,.ref 2 0),(7,.sl 1 (V.map F6)),(69,.sl 1 (V.map F6)),(70,.i V.length),(71,.i k)],4,[(0,some (.box (DW s d))),(1,some (.row D7 17 0 (d.qs.map C0))),(2,some (.box [.str nm,.i 1,.i f.op,.i f.col,.i f.code,.i f.lo,.i f.hi,.sl 6 (f.kids.map C3),.row 3 0 (j4 s (V.take k)).length,.i (-1),A6,.i 0,.i 0,.i 0,.i 0,.i 0,A6])),(3,some (.row w6 2 0 ((j4 s (V.take k)).map N7)))]⟩) (fun k=>k≤V.length∧(V.take k).any (W9 s)=false) (fun k=>V.length-k) 0 ⟨Nat.zero_le _,rfl⟩
    (by refine B4 (U9 2 8 (e:=w6) (sz:=2) rfl rfl) ?_;exact B0 h0 rfl ⟨rfl,rfl,rfl,rfl,rfl,rfl,trivial⟩ ⟨rfl,⟨_,rfl⟩,rfl,⟨0,rfl⟩,trivial⟩ rfl rfl rfl) (fun k hI=>?_)
   obtain⟨hk,hI⟩:=hI
   have mK:=KI (s:=s) (V.take k)
   have tH:(V.take k).length≤V.length:=by rw[List.length_take];omega
   by_cases kj:k<V.length
   ·obtain⟨w,nN⟩:∃w,V[k]?=some w:=⟨_,List.getElem?_eq_getElem kj⟩
    have lX:=oF w (List.mem_of_getElem? nN)
    have c1:=Ay w [47] (by omega)
    rw[ci]at c1
    have ue:=P7 (B3 47) w
    have uL:=J7 (B3 47) w
    have h1:=Ev s (w.takeWhile (B3 47))
    have h2:=Bp ((w.dropWhile (B3 47)).drop 1) (by rw[List.length_drop];omega)
    have li:=IC (s:=s) hI nN
    have nR:=ID (s:=s) hI nN
    have tB:W9 s w=(decide (F0 s (w.takeWhile (B3 47))<0) || !(L3 ((w.dropWhile (B3 47)).drop 1)).2):=rfl
    have ov:JY s w=⟨F0 s (w.takeWhile (B3 47)),(L3 ((w.dropWhile (B3 47)).drop 1)).1⟩:=rfl
    rw[tB]at li nR
    rw[ov]at li
    clear tB ov
    generalize F0 s (w.takeWhile (B3 47))=c at *
    generalize L3 ((w.dropWhile (B3 47)).drop 1)=V at *
    obtain⟨v,b⟩:=V
    dsimp only at h2 li nR
    generalize w.takeWhile (B3 47)=u1 at *
    generalize (w.dropWhile (B3 47)).drop 1=u2 at *
    generalize decide (w.dropWhile (B3 47)≠[])=u3 at *
    generalize j4 s (V.take k)=A at *
    have rE:A.length≤20000:=by omega
    clear hr
    cases b with
    |true =>
     repeat'((first|(refine A2 (x:=w) nN (by omega) ?_)|refine A0 c1 ?_|refine A0 h1 ?_|refine A0 h2 ?_ |refine S2 ?_|(refine T6 ?_ ?_<;>intro h<;>try exact V1 h)|intro el ke kg|intro el ke|exact T4|refine T5 ?_ ?_|intro ex)<;>try conv=>whnf)
     all_goals first
      |(exfalso;omega)
      |(obtain⟨q1,q2⟩:=nR (by simp;omega);rw[q1]at hR;rw[q2,Bool.not_true,Bool.and_false]at hR;cases hR;exact D9 (B2 h0))
      |(obtain⟨q1,q2⟩:=li (by simp;omega);exact⟨k+1,⟨by omega,q2⟩,by omega,by rw[q1];exact B0 h0 rfl ⟨rfl,rfl,rfl,rfl,rfl,congrArg (fun z:Int=>some (AV.i z)) (by omega),trivial⟩ ⟨rfl,⟨_,rfl⟩,congrArg (fun z=>G1.box [.str nm,.i 1,.i f.op,.i f.col,.i f.code,.i f.lo,.i f.hi,.sl 6 (f.kids.map C3),.row 3 0 z,.i (-1),A6,.i 0,.i 0,.i 0,.i 0,.i 0,A6]) (by rw[List.length_append];rfl),⟨_,congrArg (G1.row w6 2 _) (by rw[List.map_append];rfl)⟩,trivial⟩ rfl rfl rfl⟩)
    |false =>
     repeat'((first|(refine A2 (x:=w) nN (by omega) ?_)|refine A0 c1 ?_|refine A0 h1 ?_|refine A0 h2 ?_ |refine S2 ?_|(refine T6 ?_ ?_<;>intro h<;>try exact V1 h)|intro el ke kg|intro el ke|exact T4|refine T5 ?_ ?_|intro ex)<;>try conv=>whnf)
     all_goals first
      |(exfalso;omega)
      |(obtain⟨q1,q2⟩:=nR (by simp);rw[q1]at hR;rw[q2,Bool.not_true,Bool.and_false]at hR;cases hR;exact D9 (B2 h0))
   ·obtain rfl:k=V.length:=by omega
    rw[List.take_length]at hI mK ⊢
    rw[hI]at hR
    generalize j4 s V=A at *
    clear hr hI
    repeat'((first|refine S2 ?_|(refine T6 ?_ ?_<;>intro h<;>try exact V1 h)|intro el ke kg|intro el ke|exact T4|refine T5 ?_ ?_|intro ex)<;>try conv=>whnf)
    all_goals first
     |(exfalso;omega)
     |(rw[Bool.not_false,Bool.and_true]at hR;cases hR;exact D9 (B0 h0 rfl ⟨congrArg (fun z:Bool=>some (AV.b z)) (by rw[eq_comm,decide_eq_false_iff_not];omega),trivial⟩ ⟨rfl,⟨_,rfl⟩,rfl,⟨_,rfl⟩,trivial⟩ rfl rfl rfl))
     |(rw[Bool.not_false,Bool.and_true]at hR;cases hR;exact D9 (B0 h0 rfl ⟨congrArg (fun z:Bool=>some (AV.b z)) (by rw[decide_eq_decide];omega),trivial⟩ ⟨rfl,⟨_,rfl⟩,rfl,⟨_,rfl⟩,trivial⟩ rfl rfl rfl))
end Go.Proofs.YtkcekccdcpmekaaGreatDoor
