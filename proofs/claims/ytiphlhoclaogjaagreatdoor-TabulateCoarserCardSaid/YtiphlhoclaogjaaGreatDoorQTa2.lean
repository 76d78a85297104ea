/- Chapter 2: the reference's rows, names, coarse values. Chapter 2: the reference's leaves, blocks, and values that can be. -/
import Derived.Test.YtiphlhoclaogjaaGreatDoorQB9
import Derived.Test.YtiphlhoclaogjaaGreatDoorQCd1
set_option linter.unusedVariables false
set_option linter.unnecessarySimpa false
set_option linter.unusedSimpArgs false
set_option maxHeartbeats 64000000
namespace Go.Proofs.YtiphlhoclaogjaaGreatDoor
open Go Go.Av
attribute [local irreducible] C7 B1 D1 C8 DQ D0 C6 St.le A3 B8
set_option maxRecDepth 100000
theorem QX(s:A4)(row:List Int):A3 Tryz.prog 144 [sA s,.sl 1 (row.map wA)] (.i (s8 s row)):=by
 refine C1 Tryz.func144 32 fun nd E h0=>?_
 have nZ:row.length≤9223372036854775807:=by have:=(nd (.sl 1 (row.map wA)) (by simp)).sl;simpa using this
 clear nd
 repeat'((first|refine A1 (S7 s) ?_ |refine S2 ?_|(refine T6 ?_ ?_<;>intro h<;>try exact V1 h)|intro el nX nY|intro el nX|exact T4|refine T5 ?_ ?_|intro ex)<;>try conv=>whnf)
 all_goals first
  |exact A0 rfl (congrArg AV.i (by rw[s8,if_neg (by assumption)]))
  |exact A0 rfl (congrArg AV.i (by rw[s8,if_pos (Classical.byContradiction (by assumption)),if_neg];unfold KM;rw[decide_eq_false (by omega)];exact Bool.false_ne_true))
  |skip
 have hr:C5 s=0:=Classical.byContradiction (by assumption)
 have hz:(s.cols.zip row).length=row.length:=by rw[List.length_zip];omega
 have uR:s8 s row=if (!((s.cols.zip row).any (KL s)))=true then 0 else 9:=by rw[s8,if_pos hr,KM,decide_eq_true (by omega),Bool.true_and]
 rw[uR]
 refine B2 (ι:=Nat) (fun k=>⟨[(1,.sl 1 (row.map wA)),(2,.ref 0 0),(6,.i k)],1,[(0,some (.box (sL s)))]⟩) (fun k=>Q1 (KL s) (s.cols.zip row) k) (fun k=>row.length-k) 0 (Q1.zero _ _) (A6 h0) (fun k hI=>?_)
 have hk:=hI.1
 have nu:=fun (v:Int) (hk:(k:Int)<row.length)=>LI s k v hr (c:=s.cols[k]'(by omega)) (by omega) (by rw[Int.toNat_natCast];exact List.getElem?_eq_getElem (by omega))
 repeat'((first|refine A1 (nu _ (by assumption)) ?_|(refine B5 ?_ ?_;kernel_rfl) |refine S2 ?_|(refine T6 ?_ ?_<;>intro h<;>try exact V1 h)|intro el nX nY|intro el nX|exact T4|refine T5 ?_ ?_|intro ex)<;>try conv=>whnf)
 all_goals first
  |(refine A0 rfl (congrArg AV.i ?_)
    rw[←hI.hit (WU (List.getElem?_eq_getElem (by omega)) nX) (by simp only[KL, *];rfl)];rfl)
  |exact⟨k+1,hI.step (WU (List.getElem?_eq_getElem (by omega)) nX) (by simp only[KL, *];rfl),by omega,A6 h0⟩
  |(refine A0 rfl (congrArg AV.i ?_)
    rw[←hI.done (by omega)];rfl)
theorem X6(s:A4)(column:Int):A3 Tryz.prog 32 [sA s,.i column] (.i (A8 s column)):=by
 refine C1 Tryz.func32 39 fun nd E h0=>?_
 obtain⟨pH,oM,pT⟩:=Z7 (s:=s) (nd _ (by simp))
 have uO:=fun (l:CL) (hl:s.lists[(B4 s column).lst.toNat]?=some l)=>m5 (nm:=l.1) (pT l (List.mem_of_getElem? hl))
 clear nd
 repeat'((first|refine A1 (S7 s) ?_ |refine S2 ?_|(refine T6 ?_ ?_<;>intro h<;>try exact V1 h)|intro el nX nY|intro el nX|exact T4|refine T5 ?_ ?_|intro ex)<;>try conv=>whnf)
 all_goals first
  |exact A0 rfl (congrArg AV.i (by rw[A8,if_neg (by assumption)]))
  |exact A0 rfl (congrArg AV.i (by rw[A8,if_pos (Classical.byContradiction (by assumption)),F2,if_pos (by omega)]))
  |skip
 all_goals
  have hr:C5 s=0:=Classical.byContradiction (by assumption)
  rw[A8,if_pos hr]
 repeat'((first|(refine A1 (FL _ _ (pT _ (List.mem_of_getElem? (by assumption)))) ?_)|(refine m9 ?_ ?_ (fun lx ov=>?_);(have:=AP.lst hr (List.mem_of_getElem? nX) (by assumption);omega);(have:=AP.lst hr (List.mem_of_getElem? nX) (by assumption);omega))|(refine J0 ?_ ?_;(have:=uO lx (by rw[C0 nX];exact ov);omega)) |refine S2 ?_|(refine T6 ?_ ?_<;>intro h<;>try exact V1 h)|intro el nX nY|intro el nX|exact T4|refine T5 ?_ ?_|intro ex)<;>try conv=>whnf)
 all_goals first
  |(refine A0 rfl (congrArg AV.i ?_);rw[F2,if_neg (by omega),C0 nX,N0,if_pos (by assumption),I3 ov];done)
  |(refine A0 rfl (congrArg AV.i ?_);rw[F2,if_neg (by omega),C0 nX,N0,if_neg (by assumption)];done)
theorem Yg(a:Int){b:Int}(h:1≤b):(a.tmod b<0∧a / b=a.tdiv b-1)∨(0≤a.tmod b∧a / b=a.tdiv b):=by
 have h1:=Int.mul_tdiv_add_tmod a b
 have h2:=Int.mul_ediv_add_emod a b
 rcases Bz a h with ⟨h3,h4⟩|⟨h3,h4⟩
 ·left
  refine⟨h3,?_⟩
  have h5:b*(a / b)=b*(a.tdiv b-1):=by rw[Int.mul_sub];omega
  exact Int.eq_of_mul_eq_mul_left (by omega) h5
 ·right
  refine⟨h3,?_⟩
  have h5:b*(a / b)=b*a.tdiv b:=by omega
  exact Int.eq_of_mul_eq_mul_left (by omega) h5
theorem eu(a b:Int){B:Int}(h:-B≤a∧a≤B)(hb:1≤b):-B≤a.tdiv b∧a.tdiv b≤B:=by
 have h2:(a.tdiv b).natAbs≤a.natAbs:=by rw[Int.natAbs_tdiv];exact Nat.div_le_self _ _
 omega
theorem Nm(a b:Int)(hb:1≤b)(ha:-4000000000000≤a∧a≤4000000000000):A3 Tryz.prog 152 [.i a,.i b] (.i (a / b)):=by
 have h1:=Yg a hb
 have h2:=eu a b ha hb
 refine C1 Tryz.func152 16 fun nd E h0=>?_
 clear nd
 repeat'((first|refine S2 ?_|(refine T6 ?_ ?_<;>intro h<;>try exact V1 h)|intro el nX nY|intro el nX|exact T4|refine T5 ?_ ?_|intro ex)<;>try conv=>whnf)
 all_goals exact A0 rfl (congrArg AV.i (by omega))
theorem BK(c:D6)(level:Int)(h1:1≤level)(h2:level≤c.widths.length):A3 Tryz.prog 151 [T7 c,.i level] (.i (A9 c level)):=by
 refine C1 Tryz.func151 14 fun nd E h0=>?_
 have nZ:c.widths.length≤9223372036854775807:=by
  have:=((nd (T7 c) (by simp)).agg (.sl 1 (c.widths.map wA)) (by simp)).sl
  simpa using this
 clear nd
 repeat'((first|refine S2 ?_|(refine T6 ?_ ?_<;>intro h<;>try exact V1 h)|intro el nX nY|intro el nX|exact T4|refine T5 ?_ ?_|intro ex)<;>try conv=>whnf)
 all_goals exact A0 rfl (congrArg AV.i (D2 nX).symm)
theorem bc(v w:Int):v / w*w=C9 v w:=by
 unfold C9
 have:=Int.ediv_mul_add_emod v w
 omega
theorem Cj(s:A4)(column level v:Int):A3 Tryz.prog 97 [sA s,.i column,.i level,.i v] (.i (F9 s column level v)):=by
 have oB:=X6 s column
 have ox:=d8 level 0 (A8 s column)
 have rZ:=d8 v (-1000000) 1000000
 refine C1 Tryz.func97 59 fun nd E h0=>?_
 obtain⟨pH,oM,pT⟩:=Z7 (s:=s) (nd _ (by simp))
 clear nd
 repeat'((first|refine A1 oB ?_|refine A1 ox ?_ |refine S2 ?_|(refine T6 ?_ ?_<;>intro h<;>try exact V1 h)|intro el nX nY|intro el nX|exact T4|refine T5 ?_ ?_|intro ex)<;>try conv=>whnf)
 all_goals first
  |(refine A0 rfl (congrArg AV.i ?_);rw[F9,if_pos (by omega)];done)
  |skip
 obtain⟨hr,h1,h2,h4⟩:=EX (s:=s) (column:=column) (level:=level) (by omega) (by omega)
 rw[F9,if_neg (by omega)]
 clear oB ox
 obtain⟨c,hc⟩:∃c,s.cols[column.toNat]?=some c:=⟨_,List.getElem?_eq_getElem (by omega)⟩
 have nt:=C0 hc
 have pQ:=AQ hr h1 hc
 rw[F2,if_neg (by omega),nt]at h4
 rw[nt]
 have nu:=LI s column v hr (by omega) hc
 have rm:=fun (l:CL) (hl:s.lists[c.lst.toNat]?=some l)=>TM l.1 l.2 v level (pT _ (List.mem_of_getElem? hl))
 have sF:¬c.kind=2→¬level=0→(1≤A9 c level∧A9 c level≤1000000)∧A3 Tryz.prog 151 [T7 c,.i level] (.i (A9 c level)):=by
  intro h5 h7
  have h9:N0 s c=c.widths.length:=by unfold N0;rw[if_neg h5]
  rcases pQ with pQ|pQ
  ·omega
  exact⟨c9 pQ.2.2.2.2.2.2 (by omega) (by omega),BK c level (by omega) (by omega)⟩
 have pR:¬c.kind=2→¬level=0→-1000000≤v∧v≤1000000→A3 Tryz.prog 152 [.i v,.i (A9 c level)] (.i (v / A9 c level)):=fun h5 h6 h7=>Nm _ _ (sF h5 h6).1.1 (by omega)
 have sx:¬c.kind=2→¬level=0→v / A9 c level*A9 c level=C9 v (A9 c level)∧v-A9 c level<C9 v (A9 c level)∧C9 v (A9 c level)≤v:=fun h5 h6=>⟨bc _ _,V3 v (sF h5 h6).1.1⟩
 unfold P8
 generalize A9 c level=w at *
 repeat'((first|(refine A2 (x:=c) hc (by omega) ?_)|refine A1 nu ?_|refine A1 (rm _ (by assumption)) ?_|refine A1 rZ ?_|refine A1 (sF (by assumption) (by assumption)).2 ?_|refine A1 (pR (by assumption) (by assumption) (by assumption)) ?_|(refine B5 ?_ ?_;kernel_rfl)|(refine J0 ?_ ?_;(have h6:=sx (by assumption) (by assumption);have h8:=(sF (by assumption) (by assumption)).1;rw[h6.1];omega)) |refine S2 ?_|(refine T6 ?_ ?_<;>intro h<;>try exact V1 h)|intro el nX nY|intro el nX|exact T4|refine T5 ?_ ?_|intro ex)<;>try conv=>whnf)
 all_goals refine A0 rfl (congrArg AV.i ?_)
 all_goals first
  |(rw[if_pos (by assumption:c.kind=2),if_neg (by rw[h];exact Bool.false_ne_true)];done)
  |(rw[if_pos (by assumption:c.kind=2),if_pos (by assumption),I3 nX];done)
  |(rw[if_neg (by assumption:¬c.kind=2),if_pos (by omega)];done)
  |(rw[if_neg (by assumption:¬c.kind=2),if_neg (by omega),if_pos (by omega)];done)
  |(rw[if_neg (by assumption:¬c.kind=2),if_neg (by omega),if_neg (by omega),if_pos (by omega)];done)
  |(rw[if_neg (by assumption:¬c.kind=2),if_neg (by omega),if_neg (by omega),if_pos (by omega)];omega)
  |(rw[if_neg (by assumption:¬c.kind=2),if_neg (by omega),if_neg (by omega),if_neg (by omega),(sx (by assumption) (by assumption)).1];done)
def f6(c:D6)(level v:Int):Int×Int×Bool :=
 if level=0 then (c.low,c.high,decide (v=0))else if v=(-1099511627776)∨¬(-2000000≤v∧v≤2000000)∨v.tmod (A9 c level)≠0 then (0,0,false)else (max c.low v,min c.high (v+A9 c level-1),decide (max c.low v≤min c.high (v+A9 c level-1)))
theorem Yh(c:D6)(level v:Int)(hc:meaE c=0)(h1:0≤level)(h2:level≤c.widths.length):A3 Tryz.prog 139 [T7 c,.i level,.i v] (eH (f6 c level v)):=by
 have hp:=W5 hc
 have qJ:¬level=0→1≤A9 c level∧A9 c level≤1000000:=fun h=>c9 hp.2.2.2.2.2 (by omega) h2
 have sF:¬level=0→A3 Tryz.prog 151 [T7 c,.i level] (.i (A9 c level)):=fun h=>BK c level (by omega) h2
 have ox:=d8 v (-2000000) 2000000
 unfold f6
 generalize A9 c level=w at *
 refine C1 Tryz.func139 52 fun nd E h0=>?_
 clear nd
 repeat'((first|refine A1 (sF (by assumption)) ?_|refine A1 ox ?_|(refine J0 ?_ ?_;(have:=qJ (by assumption);omega))|(refine B5 ?_ ?_;kernel_rfl) |refine S2 ?_|(refine T6 ?_ ?_<;>intro h<;>try exact V1 h)|intro el nX nY|intro el nX|exact T4|refine T5 ?_ ?_|intro ex)<;>try conv=>whnf)
 all_goals refine Ez (a:=.i _) (b:=.i _) (c:=.b _) rfl rfl rfl ?_
 all_goals first
  |(rw[if_pos (by assumption)];done)
  |(rw[if_neg (by assumption),if_pos (by first|omega|exact .inr (.inr (by assumption)))];done)
  |(rw[if_neg (by assumption),if_neg (fun hx=>by rcases hx with hx|hx|hx<;>first|omega|exact absurd hx (by assumption))];done)
theorem Hq{s:A4}{column level:Int}{c:D6}(hr:C5 s=0)(h1:1≤column)(hc:s.cols[column.toNat]?=some c)(hk:c.kind=2)(h3:0≤level)(h4:level≤A8 s column){x:Nat}(hx:x∈H4 s column):
  F9 s column level x=N3 (B9 s c).1 (B9 s c).2 x level∧0≤N3 (B9 s c).1 (B9 s c).2 x level:=by
 have nt:=C0 hc
 rw[H4,nt]at hx
 obtain⟨om,wD,hd⟩:=On hx
 have hxh:hasB (B9 s c).1 (B9 s c).2 x=true:=DP.2 ⟨by omega,by omega,om⟩
 have xb:Ai s c x=true:=by
  have e1:S5 (B9 s c).1 (B9 s c).2 x=C4 (B9 s c).1 (B9 s c).2-1:=by
   rw[←hd];exact(EZ (code:=(x:Int)) ⟨by omega,by omega,om⟩).symm
  rw[Ai,if_neg (by omega),if_pos hk,(Hc om wD).1 e1,decide_eq_true (by omega)]
  rfl
 have oB:A8 s column=C4 (B9 s c).1 (B9 s c).2-1:=by
  have:=D4 hc
  rw[A8,if_pos hr,F2,if_neg (by omega),nt,N0,if_pos hk]
 refine⟨by rw[F9,if_neg (by omega),nt,P8,if_pos hk,if_pos xb],?_⟩
 rw[N3,if_pos ⟨hxh,h3,by rw[Int.toNat_natCast];omega⟩]
 omega
def PB(s:A4)(column level v:Int):Bool :=
 if 0≤level∧level≤A8 s column then (if (B4 s column).kind=2 then (H4 s column).any (fun x=>decide (F9 s column level x=v))else if 0<level∧v=(-1099511627776)then (B4 s column).opt else (f6 (B4 s column) level v).2.2)else false
theorem ew(s:A4)(column level v:Int):A3 Tryz.prog 83 [sA s,.i column,.i level,.i v] (.b (PB s column level v)):=by
 have oB:=X6 s column
 have ox:=d8 level 0 (A8 s column)
 refine C1 Tryz.func83 65 fun nd E h0=>?_
 clear nd
 repeat'((first|refine A1 oB ?_|refine A1 ox ?_ |refine S2 ?_|(refine T6 ?_ ?_<;>intro h<;>try exact V1 h)|intro el nX nY|intro el nX|exact T4|refine T5 ?_ ?_|intro ex)<;>try conv=>whnf)
 all_goals first
  |exact A0 rfl (congrArg AV.b (by rw[PB,if_neg (by assumption)]))
  |skip
 obtain⟨hr,h1,h2,h4⟩:=EX (s:=s) (column:=column) (level:=level) (by omega) (by omega)
 rw[PB,if_pos (by assumption)]
 clear oB ox
 obtain⟨c,hc⟩:∃c,s.cols[column.toNat]?=some c:=⟨_,List.getElem?_eq_getElem (by omega)⟩
 have nt:=C0 hc
 have pQ:=AQ hr h1 hc
 rw[F2,if_neg (by omega),nt]at h4
 rw[nt]
 have qd:c.kind=2→A3 Tryz.prog 138 [sA s,.i column] (.sl 1 ((H4 s column).map iA)):=fun h5=>De s column (by omega) hc (by omega)
 have nZ:c.kind=2→(H4 s column).length≤60:=fun h5=>by
  have:=Aj (B9 s c).1 (B9 s c).2 (C4 (B9 s c).1 (B9 s c).2-1)
  obtain⟨l,ov⟩:∃l,s.lists[c.lst.toNat]?=some l:=⟨_,List.getElem?_eq_getElem (by omega)⟩
  have yk:=(I2 ((E9 hr).2.2.1 l (List.mem_of_getElem? ov))).2.2
  rw[H4,nt]
  rw[I3 ov]at this ⊢
  omega
 have uD:¬c.kind=2→A3 Tryz.prog 139 [T7 c,.i level,.i v] (eH (f6 c level v)):=fun h5=>by
  have h9:N0 s c=c.widths.length:=by unfold N0;rw[if_neg h5]
  have hk:=(v4 ((E9 hr).2.2.2.1 _ c hc)).2.2.1
  exact Yh c level v (CA hk (by omega)) (by omega) (by omega)
 have rn:=fun x:Int=>Cj s column level x
 clear pQ h4
 generalize H4 s column=L at *
 generalize f6 c level v=bl at *
 repeat'((first|(refine A2 (x:=c) hc (by omega) ?_)|refine A1 (qd (by assumption)) ?_|refine A1 (uD (by assumption)) ?_ |refine S2 ?_|(refine T6 ?_ ?_<;>intro h<;>try exact V1 h)|intro el nX nY|intro el nX|exact T4|refine T5 ?_ ?_|intro ex)<;>try conv=>whnf)
 all_goals first
  |exact A0 rfl (congrArg AV.b (by rw[if_neg (by assumption),if_pos (by omega)]))
  |exact A0 rfl (congrArg AV.b (by rw[if_neg (by assumption),if_neg (by omega)]))
  |skip
 rw[if_pos (by assumption)]
 have nZ:=nZ (by assumption)
 refine B2 (ι:=Nat) (fun k=>⟨[(1,.i column),(2,.i level),(3,.i v),(4,.ref 0 0),(10,.sl 1 (L.map iA)),(11,.i k)],1,[(0,some (.box (sL s)))]⟩) (fun k=>Q1 (fun x:Nat=>decide (F9 s column level x=v)) L k) (fun k=>L.length-k) 0 (Q1.zero _ _) (A6 h0) (fun k hI=>?_)
 have hk:=hI.1
 repeat'((first|refine A1 (rn _) ?_|(refine B5 ?_ ?_;kernel_rfl) |refine S2 ?_|(refine T6 ?_ ?_<;>intro h<;>try exact V1 h)|intro el nX nY|intro el nX|exact T4|refine T5 ?_ ?_|intro ex)<;>try conv=>whnf)
 all_goals first
  |exact⟨k+1,hI.step nX (decide_eq_false (by assumption)),by omega,A6 h0⟩
  |exact A0 rfl (congrArg AV.b (hI.hit nX (decide_eq_true (by assumption))))
  |exact A0 rfl (congrArg AV.b (hI.done (by assumption)))
theorem Nn(s:A4)(p:Pk):A3 Tryz.prog 136 [sA s,QG p] (.i (I4 s p)):=by
 have oB:=X6 s p.col
 have ox:=d8 p.lev 0 (A8 s p.col)
 refine C1 Tryz.func136 30 fun nd E h0=>?_
 obtain⟨pH,oM,pT⟩:=Z7 (s:=s) (nd _ (by simp))
 clear nd
 repeat'((first|refine A1 (S7 s) ?_|refine A1 oB ?_|refine A1 ox ?_|(refine B5 ?_ ?_;kernel_rfl) |refine S2 ?_|(refine T6 ?_ ?_<;>intro h<;>try exact V1 h)|intro el nX nY|intro el nX|exact T4|refine T5 ?_ ?_|intro ex)<;>try conv=>whnf)
 all_goals first
  |exact A0 rfl (congrArg AV.i (by rw[I4,if_neg (by assumption)]))
  |skip
 all_goals
  have hr:C5 s=0:=Classical.byContradiction (by assumption)
  rw[I4,if_pos hr,j3]
  have e:A8 s p.col=F2 s p.col:=by rw[A8,if_pos hr]
  refine A0 rfl (congrArg AV.i ?_)
 all_goals first
  |(rw[if_pos (by unfold F2;rw[if_pos (by omega)];decide)];done)
  |(have hnn:0≤F2 s p.col:=by
     have:=Oo hr (column:=p.col) (by omega) (by omega)
     exact this
    first
     |(rw[if_neg (by omega),if_pos (by omega)];done)
     |(rw[if_neg (by omega),if_neg (by omega)];done))
theorem GN(s:A4)(l:List Pk):A3 Tryz.prog 82 [sA s,.sl 2 (l.map B6)] (.i (J7 s l)):=by
 have qh:=fun p=>Nn s p
 refine C1 Tryz.func82 44 fun nd E h0=>?_
 have nZ:l.length≤9223372036854775807:=by have:=(nd (.sl 2 (l.map B6)) (by simp)).sl;simpa using this
 clear nd
 repeat'((first|refine A1 (S7 s) ?_ |refine S2 ?_|(refine T6 ?_ ?_<;>intro h<;>try exact V1 h)|intro el nX nY|intro el nX|exact T4|refine T5 ?_ ?_|intro ex)<;>try conv=>whnf)
 all_goals first
  |(refine A0 rfl (congrArg AV.i ?_);rw[J7,if_neg (by assumption)];done)
  |skip
 have hr:C5 s=0:=Classical.byContradiction (by assumption)
 have qM:∀p,I4 s p=j3 s p:=fun p=>by rw[I4,if_pos hr]
 rw[J7,if_pos hr]
 refine B2 (ι:=Nat) (fun k=>⟨[(1,.sl 2 (l.map B6)),(2,.ref 0 0),(6,.i k)],1,[(0,some (.box (sL s)))]⟩) (fun k=>E8 (Cd s l) l k) (fun k=>l.length-k) 0 (E8.zero _ _) (A6 h0) (fun k hI=>?_)
 have hk:=hI.1
 simp only[qM]at qh
 repeat'((first|refine A1 (qh _) ?_|(refine B5 ?_ ?_;kernel_rfl) |refine S2 ?_|(refine T6 ?_ ?_<;>intro h<;>try exact V1 h)|intro el nX nY|intro el nX|exact T4|refine T5 ?_ ?_|intro ex)<;>try conv=>whnf)
 all_goals first
  |exact A0 rfl (congrArg AV.i (by rw[←hI.hit nX (by rw[Ra h];exact h),Ra h]))
  |exact A0 rfl (congrArg AV.i (by have e:=WV (by assumption) (by assumption) nX h;rw[←hI.hit (by assumption) (by rw[e];decide),e]))
  |exact⟨k+1,hI.step (by assumption) (az (by assumption) (by assumption) nX h),by omega,A6 h0⟩
  |exact⟨k+1,hI.step nX (gO (by assumption) (by assumption)),by omega,A6 h0⟩
  |exact A0 rfl (congrArg AV.i (hI.done (by assumption)).symm)
theorem Yi{c:D6}{level v:Int}(hc:meaE c=0)(h1:0≤level)(h2:level≤c.widths.length)(hm:¬(0<level∧v=(-1099511627776))):
  (M1 c level v).2.2=(f6 c level v).2.2∧((f6 c level v).2.2=true→(M1 c level v).1=(f6 c level v).1∧(M1 c level v).2.1=(f6 c level v).2.1∧c.low≤(f6 c level v).1∧(f6 c level v).1≤(f6 c level v).2.1∧(f6 c level v).2.1≤c.high):=by
 have hp:=W5 hc
 unfold M1 f6
 by_cases h0:level=0
 ·rw[if_pos h0,if_pos h0]
  exact⟨rfl,fun _=>⟨rfl,rfl,by dsimp only;omega,by dsimp only;omega,by dsimp only;omega⟩⟩
 ·rw[if_neg h0,if_neg h0]
  have qJ:=c9 hp.2.2.2.2.2 (level:=level) (by omega) h2
  have ht:=JP (v:=v) qJ.1
  generalize A9 c level=w at *
  by_cases h3:v < -2000000∨1000000<v
  ·rw[if_pos h3]
   by_cases h4:v=(-1099511627776)∨¬(-2000000≤v∧v≤2000000)∨v.tmod w≠0
   ·rw[if_pos h4];exact⟨rfl,fun h=>by cases h⟩
   ·rw[if_neg h4]
    have:¬max c.low v≤min c.high (v+w-1):=by omega
    rw[decide_eq_false this]
    exact⟨rfl,fun h=>by cases h⟩
  ·rw[if_neg h3]
   by_cases h4:C9 v w=v
   ·rw[if_neg (by have:=ht.2 h4;omega),decide_eq_true h4]
    have e1:max v c.low=max c.low v:=by omega
    have e2:min (v+w-1) c.high=min c.high (v+w-1):=by omega
    rw[e1,e2]
    dsimp only
    rw[Bool.true_and]
    refine⟨by first|rfl|trivial,fun h=>?_⟩
    have h:=of_decide_eq_true h
    (repeat' constructor)<;>first|rfl|omega
   ·rw[if_pos (.inr (.inr (fun h=>h4 (ht.1 h)))),decide_eq_false h4]
    exact⟨rfl,fun h=>by cases h⟩
theorem Yj(p:Pk)(column:Int):A3 Tryz.prog 111 [QG p,.iptr [.i column]] (.b (decide (p.col=column))):=by
 refine C1 Tryz.func111 8 fun nd E h0=>?_
 clear nd
 repeat'((first|(refine B5 ?_ ?_;kernel_rfl) |refine S2 ?_|(refine T6 ?_ ?_<;>intro h<;>try exact V1 h)|intro el nX nY|intro el nX|exact T4|refine T5 ?_ ?_|intro ex)<;>try conv=>whnf)
 all_goals first
  |exact A0 rfl rfl
theorem Wj{s:A4}{column level:Int}:∀{pv:List (Pk×Int)} {picks:List Pk} {k:Int},pv.map (·.1)=picks→F3 (fun p:Pk=>decide (p.col=column)) picks k<0→0≤k→V6 s column level pv=d7 s column 0 0 level
 |[],_,_,_,_,_=>rfl
 |(p,v)::r,_,k,h,hi,hk=>by
  subst h
  rw[List.map_cons,F3]at hi
  by_cases hp:p.col=column
  ·rw[if_pos (by simpa using hp)]at hi;omega
  ·rw[if_neg (by simpa using hp)]at hi
   rw[V6,if_neg hp]
   exact Wj rfl hi (by omega)
theorem Wk{s:A4}{column level:Int}:∀{pv:List (Pk×Int)} {picks:List Pk} {k j:Int},pv.map (·.1)=picks→F3 (fun p:Pk=>decide (p.col=column)) picks k=j→0≤k→0≤j→∃p v,k≤j∧pv[(j-k).toNat]?=some (p,v)∧V6 s column level pv=d7 s column p.lev v level
 |[],_,k,j,h,hi,hk,hj=>by subst h;simp[F3]at hi;omega
 |(p,v)::r,_,k,j,h,hi,hk,hj=>by
  subst h
  rw[List.map_cons,F3]at hi
  by_cases hp:p.col=column
  ·rw[if_pos (by simpa using hp)]at hi
   refine⟨p,v,by omega,by rw[show (j-k).toNat=0 by omega];rfl,by rw[V6,if_pos hp]⟩
  ·rw[if_neg (by simpa using hp)]at hi
   obtain⟨p2,v2,h1,h2,h3⟩:=Wk (s:=s) (column:=column) (level:=level) (pv:=r) rfl hi (by omega) hj
   exact⟨p2,v2,by omega,by rw[show (j-k).toNat=(j-(k+1)).toNat+1 by omega];exact h2,by rw[V6,if_neg hp];exact h3⟩
theorem ir{picks:List Pk}{row:List Int}(h:row.length=picks.length+1):(picks.zip row.tail).map (·.1)=picks:=by
 rw[List.map_fst_zip]
 rw[List.length_tail];omega
theorem Tl{picks:List Pk}{row:List Int}{k:Nat}{p:Pk}{v:Int}(h:(picks.zip row.tail)[k]?=some (p,v)):picks[k]?=some p∧row[k+1]?=some v:=by
 rw[List.getElem?_zip_eq_some]at h
 refine⟨h.1,?_⟩
 cases row with
 |nil=>simp at h
 |cons a r=>simpa using h.2
theorem Ck(s:A4)(hr:C5 s=0)(x:H6)(k:Nat)(r:List Int)(hk:x.rows[k]?=some r)(hl:r.length=x.picks.length+1)(qI:x.picks.length≤1000)(column level:Int):A3 Tryz.prog 50 [sA s,f4 x,.i k,.i column,.i level] (TB (V6 s column level (x.picks.zip r.tail))):=by
 have ol:=bB x.picks 111 [.iptr [.i column]] (fun p=>decide (p.col=column)) (fun p _=>Yj p column)
 have yP:=ir hl
 have qL:=KF (fun p:Pk=>decide (p.col=column)) x.picks 0
 obtain⟨pr,ver,picks,rows⟩:=x
 dsimp only at *
 generalize hj:F3 (fun p:Pk=>decide (p.col=column)) picks 0=j at *
 by_cases sr:j<0
 ·have hT:=LB s column 0 0 level hr
  rw[←Wj (s:=s) (level:=level) yP (by rw[hj];exact sr) (Int.le_refl _)]at hT
  refine C1 Tryz.func50 46 fun nd E h0=>?_
  clear nd
  repeat'((first|refine A1 ol ?_|refine A1 hT ?_|refine J9 2 ?_ |refine S2 ?_|(refine T6 ?_ ?_<;>intro h<;>try exact V1 h)|intro el nX nY|intro el nX|exact T4|refine T5 ?_ ?_|intro ex)<;>try conv=>whnf)
  all_goals first
   |(exfalso;omega)
   |exact V2 rfl rfl rfl
 ·obtain⟨p,v,_,h2,h3⟩:=Wk (s:=s) (level:=level) yP hj (Int.le_refl _) (by omega)
  rw[Int.sub_zero]at h2
  obtain⟨hp,hv⟩:=Tl h2
  have hT:=LB s column p.lev v level hr
  rw[←h3]at hT
  have rP:r[(j+1).toNat]?=some v:=by rw[show (j+1).toNat=j.toNat+1 by omega];exact hv
  have nf:=D4 hp
  have nr:rows[((k:Int)).toNat]?=some r:=hk
  have no:=D4 hk
  refine C1 Tryz.func50 46 fun nd E h0=>?_
  clear nd
  repeat'((first|(refine A2 (x:=p) hp (by omega) ?_)|(refine A2 (x:=v) rP (by omega) ?_)|(refine A2 (x:=r) nr (by omega) ?_)|refine A1 ol ?_|refine A1 hT ?_|refine J9 2 ?_|(refine B5 ?_ ?_;kernel_rfl) |refine S2 ?_|(refine T6 ?_ ?_<;>intro h<;>try exact V1 h)|intro el nX nY|intro el nX|exact T4|refine T5 ?_ ?_|intro ex)<;>try conv=>whnf)
  all_goals first
   |(exfalso;omega)
   |exact V2 rfl rfl rfl
end Go.Proofs.YtiphlhoclaogjaaGreatDoor
