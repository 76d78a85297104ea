/- Chapter 2: what a row can have, by the reference. Chapter 2: the reference's turned values are the program's. -/
import Derived.Test.YtiphlhoclaogjaaGreatDoorJB10
import Derived.Test.YtiphlhoclaogjaaGreatDoorJTa1
import Derived.Test.YtiphlhoclaogjaaGreatDoorJE3
set_option linter.unusedVariables false
set_option linter.unnecessarySimpa false
set_option linter.unusedSimpArgs false
set_option maxHeartbeats 64000000
namespace Go.Proofs.YtiphlhoclaogjaaGreatDoor
open Go Go.Av
attribute [local irreducible] C9 B3 C8 D1 DQ D0 C7 St.le A3 B8
set_option maxRecDepth 100000
theorem GE{s:A4}{column level:Int}{c:D3}(hr:C3 s=0)(h1:1≤column)(hc:s.cols[column.toNat]?=some c)(hk:c.kind=2)(h3:0≤level)(h4:level≤B4 s column){x:Nat}(hx:x∈F9 s column):
  G1 s column level x=L3 (C2 s c).1 (C2 s c).2 x level∧0≤L3 (C2 s c).1 (C2 s c).2 x level:=by
 have nY:=B9 hc
 rw[F9,nY]at hx
 obtain⟨oO,wW,hd⟩:=Ph hx
 have hxh:hasB (C2 s c).1 (C2 s c).2 x=true:=EG.2 ⟨by omega,by omega,oO⟩
 have wu:Bx s c x=true:=by
  have e1:T9 (C2 s c).1 (C2 s c).2 x=C5 (C2 s c).1 (C2 s c).2-1:=by
   rw[←hd];exact(FQ (code:=(x:Int)) ⟨by omega,by omega,oO⟩).symm
  rw[Bx,if_neg (by omega),if_pos hk,(IY oO wW).1 e1,decide_eq_true (by omega)]
  rfl
 have ng:B4 s column=C5 (C2 s c).1 (C2 s c).2-1:=by
  have:=E9 hc
  rw[B4,if_pos hr,E6,if_neg (by omega),nY,M1,if_pos hk]
 refine⟨by rw[G1,if_neg (by omega),nY,Q1,if_pos hk,if_pos wu],?_⟩
 rw[L3,if_pos ⟨hxh,h3,by rw[Int.toNat_natCast];omega⟩]
 omega
def AO(s:A4)(column level v:Int):Bool :=
 if 0≤level∧level≤B4 s column then (if (B6 s column).kind=2 then (F9 s column).any (fun x=>decide (G1 s column level x=v))else if 0<level∧v=(-1099511627776)then (B6 s column).opt else (N2 (B6 s column) level v).2.2)else false
theorem Mk(s:A4)(column level v:Int):A3 Tryz.prog 83 [sA s,.i column,.i level,.i v] (.b (AO s column level v)):=by
 have ng:=N0 s column
 have oc:=Z0 level 0 (B4 s column)
 refine B5 Tryz.func83 65 fun nL E h0=>?_
 clear nL
 repeat'((first|refine A0 ng ?_|refine A0 oc ?_ |refine S2 ?_|(refine T6 ?_ ?_<;>intro h<;>try exact V1 h)|intro el nJ nK|intro el nJ|exact T4|refine T5 ?_ ?_|intro ex)<;>try conv=>whnf)
 all_goals first
  |exact A1 rfl (congrArg AV.b (by rw[AO,if_neg (by assumption)]))
  |skip
 obtain⟨hr,h1,h2,h4⟩:=Bz (s:=s) (column:=column) (level:=level) (by omega) (by omega)
 rw[AO,if_pos (by assumption)]
 clear ng oc
 obtain⟨c,hc⟩:∃c,s.cols[column.toNat]?=some c:=⟨_,List.getElem?_eq_getElem (by omega)⟩
 have nY:=B9 hc
 have ov:=u5 hr h1 hc
 rw[E6,if_neg (by omega),nY]at h4
 rw[nY]
 have pX:c.kind=2→A3 Tryz.prog 138 [sA s,.i column] (.sl 1 ((F9 s column).map iA)):=fun h5=>BB s column (by omega) hc (by omega)
 have nM:c.kind=2→(F9 s column).length≤60:=fun h5=>by
  have:=Ah (C2 s c).1 (C2 s c).2 (C5 (C2 s c).1 (C2 s c).2-1)
  obtain⟨l,oD⟩:∃l,s.lists[c.lst.toNat]?=some l:=⟨_,List.getElem?_eq_getElem (by omega)⟩
  have yU:=(G9 ((D2 hr).2.2.1 l (List.mem_of_getElem? oD))).2.2
  rw[F9,nY]
  rw[H5 oD]at this ⊢
  omega
 have sJ:¬c.kind=2→A3 Tryz.prog 139 [U0 c,.i level,.i v] (YO (N2 c level v)):=fun h5=>by
  have h9:M1 s c=c.widths.length:=by unfold M1;rw[if_neg h5]
  have hk:=(j5 ((D2 hr).2.2.2.1 _ c hc)).2.2.1
  exact Ij c level v (AZ hk (by omega)) (by omega) (by omega)
 have qk:=fun x:Int=>AN s column level x
 clear ov h4
 generalize F9 s column=L at *
 generalize N2 c level v=bl at *
 repeat'((first|(refine A2 (x:=c) hc (by omega) ?_)|refine A0 (pX (by assumption)) ?_|refine A0 (sJ (by assumption)) ?_ |refine S2 ?_|(refine T6 ?_ ?_<;>intro h<;>try exact V1 h)|intro el nJ nK|intro el nJ|exact T4|refine T5 ?_ ?_|intro ex)<;>try conv=>whnf)
 all_goals first
  |exact A1 rfl (congrArg AV.b (by rw[if_neg (by assumption),if_pos (by omega)]))
  |exact A1 rfl (congrArg AV.b (by rw[if_neg (by assumption),if_neg (by omega)]))
  |skip
 rw[if_pos (by assumption)]
 have nM:=nM (by assumption)
 refine B0 (ι:=Nat) (fun k=>⟨[(1,.i column),(2,.i level),(3,.i v),(4,.ref 0 0),(10,.sl 1 (L.map iA)),(11,.i k)],1,[(0,some (.box (sL s)))]⟩) (fun k=>P6 (fun x:Nat=>decide (G1 s column level x=v)) L k) (fun k=>L.length-k) 0 (P6.zero _ _) (A6 h0) (fun k hI=>?_)
 have hk:=hI.1
 repeat'((first|refine A0 (qk _) ?_|(refine A9 ?_ ?_;kernel_rfl) |refine S2 ?_|(refine T6 ?_ ?_<;>intro h<;>try exact V1 h)|intro el nJ nK|intro el nJ|exact T4|refine T5 ?_ ?_|intro ex)<;>try conv=>whnf)
 all_goals first
  |exact⟨k+1,hI.step nJ (decide_eq_false (by assumption)),by omega,A6 h0⟩
  |exact A1 rfl (congrArg AV.b (hI.hit nJ (decide_eq_true (by assumption))))
  |exact A1 rfl (congrArg AV.b (hI.done (by assumption)))
theorem Oa(s:A4)(p:Pk):A3 Tryz.prog 136 [sA s,Qs p] (.i (N5 s p)):=by
 have ng:=N0 s p.col
 have oc:=Z0 p.lev 0 (B4 s p.col)
 refine B5 Tryz.func136 30 fun nL E h0=>?_
 obtain⟨pL,nv,pU⟩:=Z9 (s:=s) (nL _ (by simp))
 clear nL
 repeat'((first|refine A0 (Q6 s) ?_|refine A0 ng ?_|refine A0 oc ?_|(refine A9 ?_ ?_;kernel_rfl) |refine S2 ?_|(refine T6 ?_ ?_<;>intro h<;>try exact V1 h)|intro el nJ nK|intro el nJ|exact T4|refine T5 ?_ ?_|intro ex)<;>try conv=>whnf)
 all_goals first
  |exact A1 rfl (congrArg AV.i (by rw[N5,if_neg (by assumption)]))
  |skip
 all_goals
  have hr:C3 s=0:=Classical.byContradiction (by assumption)
  rw[N5,if_pos hr,CV]
  have e:B4 s p.col=E6 s p.col:=by rw[B4,if_pos hr]
  refine A1 rfl (congrArg AV.i ?_)
 all_goals first
  |(rw[if_pos (by unfold E6;rw[if_pos (by omega)];decide)];done)
  |(have hnn:0≤E6 s p.col:=by
     have:=Pi hr (column:=p.col) (by omega) (by omega)
     exact this
    first
     |(rw[if_neg (by omega),if_pos (by omega)];done)
     |(rw[if_neg (by omega),if_neg (by omega)];done))
theorem EW(s:A4)(l:List Pk):A3 Tryz.prog 82 [sA s,.sl 2 (l.map A8)] (.i (I7 s l)):=by
 have qE:=fun p=>Oa s p
 refine B5 Tryz.func82 44 fun nL E h0=>?_
 have nM:l.length≤9223372036854775807:=by have:=(nL (.sl 2 (l.map A8)) (by simp)).sl;simpa using this
 clear nL
 repeat'((first|refine A0 (Q6 s) ?_ |refine S2 ?_|(refine T6 ?_ ?_<;>intro h<;>try exact V1 h)|intro el nJ nK|intro el nJ|exact T4|refine T5 ?_ ?_|intro ex)<;>try conv=>whnf)
 all_goals first
  |(refine A1 rfl (congrArg AV.i ?_);rw[I7,if_neg (by assumption)];done)
  |skip
 have hr:C3 s=0:=Classical.byContradiction (by assumption)
 have qM:∀p,N5 s p=CV s p:=fun p=>by rw[N5,if_pos hr]
 rw[I7,if_pos hr]
 refine B0 (ι:=Nat) (fun k=>⟨[(1,.sl 2 (l.map A8)),(2,.ref 0 0),(6,.i k)],1,[(0,some (.box (sL s)))]⟩) (fun k=>F2 (ED s l) l k) (fun k=>l.length-k) 0 (F2.zero _ _) (A6 h0) (fun k hI=>?_)
 have hk:=hI.1
 simp only[qM]at qE
 repeat'((first|refine A0 (qE _) ?_|(refine A9 ?_ ?_;kernel_rfl) |refine S2 ?_|(refine T6 ?_ ?_<;>intro h<;>try exact V1 h)|intro el nJ nK|intro el nJ|exact T4|refine T5 ?_ ?_|intro ex)<;>try conv=>whnf)
 all_goals first
  |exact A1 rfl (congrArg AV.i (by rw[←hI.hit nJ (by rw[SG h];exact h),SG h]))
  |exact A1 rfl (congrArg AV.i (by have e:=Wp (by assumption) (by assumption) nJ h;rw[←hI.hit (by assumption) (by rw[e];decide),e]))
  |exact⟨k+1,hI.step (by assumption) (aw (by assumption) (by assumption) nJ h),by omega,A6 h0⟩
  |exact⟨k+1,hI.step nJ (gK (by assumption) (by assumption)),by omega,A6 h0⟩
  |exact A1 rfl (congrArg AV.i (hI.done (by assumption)).symm)
def rK(s:A4)(column fr v to:Int):List Nat→Int→Int×Bool
 |[],out=>(out,true)
 |x::r,out=>if G1 s column fr x=v then (if 0≤out∧G1 s column to x≠out then (0,false)else rK s column fr v to r (G1 s column to x))else rK s column fr v to r out
def Ob(s:A4)(column fr v to:Int):Int×Bool :=
 if AO s column fr v=false∨to<0∨B4 s column<to then (0,false)else
  if (B6 s column).kind=2 then rK s column fr v to (F9 s column) (-1)else if to=0 then (0,true)else if 0<fr∧v=(-1099511627776)then ((-1099511627776),true)else if fr=0∧(B6 s column).opt=true then (0,false)else
   if G1 s column to (N2 (B6 s column) fr v).1=G1 s column to (N2 (B6 s column) fr v).2.1 then (G1 s column to (N2 (B6 s column) fr v).1,true)else (0,false)
theorem io{s:A4}{column level v:Int}(h:AO s column level v=true):0≤level∧level≤B4 s column:=by
 unfold AO at h
 split at h
 ·assumption
 ·cases h
theorem Yn(s:A4)(column fr v to:Int):A3 Tryz.prog 122 [sA s,.i column,.i fr,.i v,.i to] (Jr (Ob s column fr v to)):=by
 have pb:=Mk s column fr v
 have ng:=N0 s column
 have oc:=Z0 to 0 (B4 s column)
 have vo:=io (s:=s) (column:=column) (level:=fr) (v:=v)
 unfold Ob
 generalize AO s column fr v=cb at *
 refine B5 Tryz.func122 116 fun nL E h0=>?_
 clear nL
 repeat'((first|refine A0 pb ?_|refine A0 ng ?_|refine A0 oc ?_ |refine S2 ?_|(refine T6 ?_ ?_<;>intro h<;>try exact V1 h)|intro el nJ nK|intro el nJ|exact T4|refine T5 ?_ ?_|intro ex)<;>try conv=>whnf)
 all_goals first
  |exact I5 (a:=.i _) (b:=.b _) rfl rfl (by rw[if_pos (.inl (by assumption))])
  |exact I5 (a:=.i _) (b:=.b _) rfl rfl (by rw[if_pos (.inr (by omega))])
  |skip
 have xK:cb=true:=by assumption
 obtain⟨xd,xP⟩:=vo xK
 obtain⟨hr,h1,h2,h4⟩:=Bz (s:=s) (column:=column) (level:=fr) (by omega) (by omega)
 rw[if_neg (fun hx=>by rcases hx with hx|hx<;>first|omega|(rw[xK]at hx;cases hx))]
 have hto:0≤to∧to≤B4 s column:=by omega
 clear pb ng oc vo
 obtain⟨c,hc⟩:∃c,s.cols[column.toNat]?=some c:=⟨_,List.getElem?_eq_getElem (by omega)⟩
 have nY:=B9 hc
 have ov:=u5 hr h1 hc
 rw[E6,if_neg (by omega),nY]at h4
 rw[nY]
 have pX:c.kind=2→A3 Tryz.prog 138 [sA s,.i column] (.sl 1 ((F9 s column).map iA)):=fun h5=>BB s column (by omega) hc (by omega)
 have nM:c.kind=2→(F9 s column).length≤60:=fun h5=>by
  have:=Ah (C2 s c).1 (C2 s c).2 (C5 (C2 s c).1 (C2 s c).2-1)
  obtain⟨l,oD⟩:∃l,s.lists[c.lst.toNat]?=some l:=⟨_,List.getElem?_eq_getElem (by omega)⟩
  have yU:=(G9 ((D2 hr).2.2.1 l (List.mem_of_getElem? oD))).2.2
  rw[F9,nY]
  rw[H5 oD]at this ⊢
  omega
 have sJ:¬c.kind=2→A3 Tryz.prog 139 [U0 c,.i fr,.i v] (YO (N2 c fr v)):=fun h5=>by
  have h9:M1 s c=c.widths.length:=by unfold M1;rw[if_neg h5]
  have hk:=(j5 ((D2 hr).2.2.2.1 _ c hc)).2.2.1
  exact Ij c fr v (AZ hk (by omega)) (by omega) (by omega)
 have qk:=fun lv x:Int=>AN s column lv x
 clear ov h4
 generalize F9 s column=L at *
 generalize N2 c fr v=bl at *
 repeat'((first|(refine A2 (x:=c) hc (by omega) ?_)|refine A0 (pX (by assumption)) ?_|refine A0 (sJ (by assumption)) ?_|refine A0 (qk _ _) ?_|(refine A9 ?_ ?_;kernel_rfl) |refine S2 ?_|(refine T6 ?_ ?_<;>intro h<;>try exact V1 h)|intro el nJ nK|intro el nJ|exact T4|refine T5 ?_ ?_|intro ex)<;>try conv=>whnf)
 all_goals first
  |exact I5 (a:=.i _) (b:=.b _) rfl rfl (by rw[if_neg (by assumption),if_pos (by assumption)])
  |exact I5 (a:=.i _) (b:=.b _) rfl rfl (by rw[if_neg (by assumption),if_neg (by assumption),if_pos (by omega)])
  |exact I5 (a:=.i _) (b:=.b _) rfl rfl (by rw[if_neg (by assumption),if_neg (by assumption),if_neg (by omega),if_pos ⟨by assumption,by assumption⟩])
  |exact I5 (a:=.i _) (b:=.b _) rfl rfl (by rw[if_neg (by assumption),if_neg (by assumption),if_neg (by omega),if_neg (fun hx=>by first|exact absurd hx.1 (by assumption)|(have h9:=hx.2;simp[*]at h9)),if_neg (by assumption)])
  |exact I5 (a:=.i _) (b:=.b _) rfl rfl (by rw[if_neg (by assumption),if_neg (by assumption),if_neg (by omega),if_neg (fun hx=>by first|exact absurd hx.1 (by assumption)|(have h9:=hx.2;simp[*]at h9)),if_pos (Classical.byContradiction (by assumption))])
  |skip
 rw[if_pos (by assumption)]
 have nM:=nM (by assumption)
 refine B0 (ι:=Nat×Int) (fun x=>⟨[(1,.i column),(2,.i fr),(3,.i v),(4,.i to),(5,.ref 0 0),(13,.sl 1 (L.map iA)),(14,.i x.2),(15,.i x.1)],1,[(0,some (.box (sL s)))]⟩) (fun x=>x.1≤L.length∧rK s column fr v to L (-1)=rK s column fr v to (L.drop x.1) x.2) (fun x=>L.length-x.1) (0,-1) ⟨Nat.zero_le _,rfl⟩ (A6 h0) (fun x hI=>?_)
 obtain⟨k,out⟩:=x
 obtain⟨hk,hI⟩:=hI
 dsimp only at hk hI ⊢
 repeat'((first|refine A0 (qk _ _) ?_|(refine A9 ?_ ?_;kernel_rfl) |refine S2 ?_|(refine T6 ?_ ?_<;>intro h<;>try exact V1 h)|intro el nJ nK|intro el nJ|exact T4|refine T5 ?_ ?_|intro ex)<;>try conv=>whnf)
 all_goals first
  |exact⟨(k+1,out),⟨by dsimp only;omega,by rw[hI,F7 nJ,rK,if_neg (by assumption)]⟩,by dsimp only;omega,A6 h0⟩
  |exact⟨(k+1,G1 s column to el),⟨by dsimp only;omega,by rw[hI,F7 nJ,rK,if_pos (Classical.byContradiction (by assumption)),if_neg (fun hx=>by first|exact absurd hx.2 (by assumption)|omega)]⟩,by dsimp only;omega,A6 h0⟩
  |exact I5 (a:=.i _) (b:=.b _) rfl rfl (by rw[hI,F7 nJ,rK,if_pos (Classical.byContradiction (by assumption)),if_pos ⟨by assumption,by assumption⟩])
  |exact I5 (a:=.i _) (b:=.b _) rfl rfl (by rw[hI,T8 (by assumption)];rfl)
def mO(p:Int×Bool):Int×Bool:=if p.2=true then (p.1,true)else (0,false)
theorem Ik{s:A4}{column fr v to:Int}{nm:List UInt8}{cs:List Code}:∀(L:List Nat) (out sZ:Int) (sm:Bool),(∀x∈L,G1 s column fr x=L3 nm cs x fr∧G1 s column to x=L3 nm cs x to∧0≤L3 nm cs x to) →
  ((sm=true∧0≤out∧sZ=out)∨(sm=false∧sZ=-1∧L.any (fun x=>decide (G1 s column fr x=v))=true))→rK s column fr v to L sZ=mO (Ag nm cs fr v to L out sm)
 |[],out,sZ,sm,_,h=>by
  rcases h with ⟨rfl,h1,rfl⟩|⟨_,_,h⟩
  ·rfl
  ·cases h
 |x::r,out,sZ,sm,np,h=>by
  obtain⟨e1,e2,e3⟩:=np x (by simp)
  have th:=fun y (hy:y∈r)=>np y (by simp[hy])
  unfold rK Ag
  rw[e1,e2]
  by_cases hx:L3 nm cs x fr=v
  ·rw[if_pos hx,if_pos hx]
   rcases h with ⟨rfl,h1,rfl⟩|⟨rfl,rfl,_⟩
   ·by_cases hne:L3 nm cs x to≠sZ
    ·rw[if_pos ⟨h1,hne⟩,if_pos ⟨rfl,hne⟩];rfl
    ·rw[if_neg (fun h=>hne h.2),if_neg (fun h=>hne h.2)]
     exact Ik r _ _ true th (.inl ⟨rfl,e3,rfl⟩)
   ·rw[if_neg (by omega),if_neg (by simp)]
    exact Ik r _ _ true th (.inl ⟨rfl,e3,rfl⟩)
  ·rw[if_neg hx,if_neg hx]
   refine Ik r out sZ sm th ?_
   rcases h with h|⟨h1,h2,h3⟩
   ·exact .inl h
   ·refine .inr ⟨h1,h2,?_⟩
    rw[List.any_cons,e1,decide_eq_false hx,Bool.false_or]at h3
    exact h3
theorem Oc{s:A4}{column fr v to:Int}{nm:List UInt8}{cs:List Code}:∀(L:List Nat) (out:Int),(∀x∈L,G1 s column fr x=L3 nm cs x fr)→L.any (fun x=>decide (G1 s column fr x=v))=false→Ag nm cs fr v to L out false=(out,false)
 |[],out,_,_=>rfl
 |x::r,out,np,h=>by
  rw[List.any_cons,Bool.or_eq_false_iff,np x (by simp),decide_eq_false_iff_not]at h
  unfold Ag
  rw[if_neg h.1]
  exact Oc r out (fun y hy=>np y (by simp[hy])) h.2
theorem Od{c:D3}{level v:Int}(hc:meaE c=0)(h1:0≤level)(h2:level≤c.widths.length)(hm:¬(0<level∧v=(-1099511627776))):
  (M2 c level v).2.2=(N2 c level v).2.2∧((N2 c level v).2.2=true→(M2 c level v).1=(N2 c level v).1∧(M2 c level v).2.1=(N2 c level v).2.1∧c.low≤(N2 c level v).1∧(N2 c level v).1≤(N2 c level v).2.1∧(N2 c level v).2.1≤c.high):=by
 have hp:=U1 hc
 unfold M2 N2
 by_cases h0:level=0
 ·rw[if_pos h0,if_pos h0]
  exact⟨rfl,fun _=>⟨rfl,rfl,by dsimp only;omega,by dsimp only;omega,by dsimp only;omega⟩⟩
 ·rw[if_neg h0,if_neg h0]
  have qH:=k7 hp.2.2.2.2.2 (level:=level) (by omega) h2
  have ht:=Jv (v:=v) qH.1
  generalize B1 c level=w at *
  by_cases h3:v < -2000000∨1000000<v
  ·rw[if_pos h3]
   by_cases h4:v=(-1099511627776)∨¬(-2000000≤v∧v≤2000000)∨v.tmod w≠0
   ·rw[if_pos h4];exact⟨rfl,fun h=>by cases h⟩
   ·rw[if_neg h4]
    have:¬max c.low v≤min c.high (v+w-1):=by omega
    rw[decide_eq_false this]
    exact⟨rfl,fun h=>by cases h⟩
  ·rw[if_neg h3]
   by_cases h4:C6 v w=v
   ·rw[if_neg (by have:=ht.2 h4;omega),decide_eq_true h4]
    have e1:max v c.low=max c.low v:=by omega
    have e2:min (v+w-1) c.high=min c.high (v+w-1):=by omega
    rw[e1,e2]
    dsimp only
    rw[Bool.true_and]
    refine⟨by first|rfl|trivial,fun h=>?_⟩
    have h:=of_decide_eq_true h
    (repeat' constructor)<;>first|rfl|omega
   ·rw[if_pos (.inr (.inr (fun h=>h4 (ht.1 h)))),decide_eq_false h4]
    exact⟨rfl,fun h=>by cases h⟩
theorem eT(s:A4)(column fr v to:Int):Ob s column fr v to=OM s column fr v to:=by
 unfold Ob OM
 by_cases hr:C3 s=0
 ·have vH:B4 s column=E6 s column:=by rw[B4,if_pos hr]
  rw[if_pos hr]
  unfold U2
  by_cases hb:fr<0∨E6 s column<fr∨to<0∨E6 s column<to
  ·rw[if_pos hb]
   have:AO s column fr v=false∨to<0∨B4 s column<to:=by
    rw[vH]
    by_cases h1:to<0∨E6 s column<to
    ·exact .inr h1
    ·left
     rw[AO,if_neg (by omega)]
   rw[if_pos this]
  ·rw[if_neg hb]
   obtain⟨_,h1,h2,h4⟩:=Bz (s:=s) (column:=column) (level:=fr) (by omega) (by omega)
   obtain⟨c,hc⟩:∃c,s.cols[column.toNat]?=some c:=⟨_,List.getElem?_eq_getElem (by omega)⟩
   have nY:=B9 hc
   have ov:=u5 hr h1 hc
   have pb:AO s column fr v=if c.kind=2 then (F9 s column).any (fun x=>decide (G1 s column fr x=v))else if 0<fr∧v=(-1099511627776)then c.opt else (N2 c fr v).2.2:=by
    rw[AO,if_pos (by omega),nY]
   rw[nY]
   by_cases hk:c.kind=2
   ·rw[if_pos hk]at pb
    rw[if_pos hk,if_pos hk]
    have np:∀x∈F9 s column,G1 s column fr x=L3 (C2 s c).1 (C2 s c).2 x fr∧G1 s column to x=L3 (C2 s c).1 (C2 s c).2 x to∧0≤L3 (C2 s c).1 (C2 s c).2 x to:=fun x hx =>
     ⟨(GE hr h1 hc hk (by omega) (by omega) hx).1,GE hr h1 hc hk (by omega) (by omega) hx⟩
    have pX:F9 s column=H1 (C2 s c).1 (C2 s c).2 (C5 (C2 s c).1 (C2 s c).2-1):=by rw[F9,nY]
    unfold EV
    rw[←pX]
    cases xK:AO s column fr v with
    |false =>
     rw[if_pos (.inl rfl),Oc (s:=s) (column:=column) _ _ (fun x hx=>(np x hx).1) (pb▸xK)]
     rfl
    |true =>
     rw[if_neg (fun hx=>by rcases hx with hx|hx;cases hx;omega)]
     exact Ik _ 0 (-1) false np (.inr ⟨rfl,rfl,pb▸xK⟩)
   ·rw[if_neg hk]at pb
    have hm:meaE c=0:=AZ (j5 ((D2 hr).2.2.2.1 _ c hc)).2.2.1 (by omega)
    have hp:=U1 hm
    have h9:E6 s column=c.widths.length:=by rw[E6,if_neg (by omega),nY,M1,if_neg hk]
    rw[if_neg hk,if_neg hk]
    unfold CA
    by_cases hx:0<fr∧v=(-1099511627776)
    ·rw[if_pos hx]at pb ⊢
     rw[if_pos hx]
     cases ho:c.opt with
     |false =>
      rw[pb,ho,if_pos (.inl rfl)]
      split<;>rfl
     |true =>
      rw[pb,ho,if_neg (fun hx=>by rcases hx with hx|hx;cases hx;omega)]
      by_cases ht:to=0
      ·rw[if_pos ht,if_pos ht];rfl
      ·rw[if_neg ht,if_neg ht,hx.2];rfl
    ·rw[if_neg hx]at pb ⊢
     rw[if_neg hx]
     obtain⟨e1,e2⟩:=Od (v:=v) hm (level:=fr) (by omega) (by omega) hx
     cases hb:(N2 c fr v).2.2 with
     |false =>
      rw[pb,hb,if_pos (.inl rfl),e1,hb,if_pos rfl];rfl
     |true =>
      obtain⟨e3,e4,e5,e6,e7⟩:=e2 hb
      rw[pb,hb,if_neg (fun hx=>by rcases hx with hx|hx;cases hx;omega),e1,hb,if_neg (show ¬(true=false) by decide)]
      by_cases ht:to=0
      ·rw[if_pos ht,if_pos ht];rfl
      ·rw[if_neg ht,if_neg ht]
       by_cases hf:fr=0∧c.opt=true
       ·rw[if_pos hf,if_pos hf];rfl
       ·rw[if_neg hf,if_neg hf,e3,e4]
        have qk:∀x,c.low≤x→x≤c.high→G1 s column to x=C6 x (B1 c to):=fun x h5 h6=>by
         rw[G1,if_neg (by omega),nY,Q1,if_neg hk,if_neg (by omega),if_neg ht,if_neg (by omega)]
        rw[qk _ e5 (by omega),qk _ (by omega) e7]
        by_cases hd:C6 (N2 c fr v).1 (B1 c to)=C6 (N2 c fr v).2.1 (B1 c to)
        ·rw[if_pos hd,decide_eq_true hd];rfl
        ·rw[if_neg hd,decide_eq_false hd];rfl
 ·rw[if_neg hr,if_pos]
  left
  have:B4 s column=-1:=by rw[B4,if_neg hr]
  rw[AO,if_neg (by omega)]
theorem Yo(p:Pk)(column:Int):A3 Tryz.prog 111 [Qs p,.iptr [.i column]] (.b (decide (p.col=column))):=by
 refine B5 Tryz.func111 8 fun nL E h0=>?_
 clear nL
 repeat'((first|(refine A9 ?_ ?_;kernel_rfl) |refine S2 ?_|(refine T6 ?_ ?_<;>intro h<;>try exact V1 h)|intro el nJ nK|intro el nJ|exact T4|refine T5 ?_ ?_|intro ex)<;>try conv=>whnf)
 all_goals first
  |exact A1 rfl rfl
theorem XB{s:A4}{column level:Int}:∀{pv:List (Pk×Int)} {picks:List Pk} {k:Int},pv.map (·.1)=picks→D9 (fun p:Pk=>decide (p.col=column)) picks k<0→0≤k→N8 s column level pv=U2 s column 0 0 level
 |[],_,_,_,_,_=>rfl
 |(p,v)::r,_,k,h,hi,hk=>by
  subst h
  rw[List.map_cons,D9]at hi
  by_cases hp:p.col=column
  ·rw[if_pos (by simpa using hp)]at hi;omega
  ·rw[if_neg (by simpa using hp)]at hi
   rw[N8,if_neg hp]
   exact XB rfl hi (by omega)
theorem XC{s:A4}{column level:Int}:∀{pv:List (Pk×Int)} {picks:List Pk} {k j:Int},pv.map (·.1)=picks→D9 (fun p:Pk=>decide (p.col=column)) picks k=j→0≤k→0≤j→∃p v,k≤j∧pv[(j-k).toNat]?=some (p,v)∧N8 s column level pv=U2 s column p.lev v level
 |[],_,k,j,h,hi,hk,hj=>by subst h;simp[D9]at hi;omega
 |(p,v)::r,_,k,j,h,hi,hk,hj=>by
  subst h
  rw[List.map_cons,D9]at hi
  by_cases hp:p.col=column
  ·rw[if_pos (by simpa using hp)]at hi
   refine⟨p,v,by omega,by rw[show (j-k).toNat=0 by omega];rfl,by rw[N8,if_pos hp]⟩
  ·rw[if_neg (by simpa using hp)]at hi
   obtain⟨p2,v2,h1,h2,h3⟩:=XC (s:=s) (column:=column) (level:=level) (pv:=r) rfl hi (by omega) hj
   exact⟨p2,v2,by omega,by rw[show (j-k).toNat=(j-(k+1)).toNat+1 by omega];exact h2,by rw[N8,if_neg hp];exact h3⟩
theorem iq{picks:List Pk}{row:List Int}(h:row.length=picks.length+1):(picks.zip row.tail).map (·.1)=picks:=by
 rw[List.map_fst_zip]
 rw[List.length_tail];omega
theorem UO{picks:List Pk}{row:List Int}{k:Nat}{p:Pk}{v:Int}(h:(picks.zip row.tail)[k]?=some (p,v)):picks[k]?=some p∧row[k+1]?=some v:=by
 rw[List.getElem?_zip_eq_some]at h
 refine⟨h.1,?_⟩
 cases row with
 |nil=>simp at h
 |cons a r=>simpa using h.2
theorem Dh(s:A4)(hr:C3 s=0)(x:J9)(k:Nat)(r:List Int)(hk:x.rows[k]?=some r)(hl:r.length=x.picks.length+1)(pk:x.picks.length≤1000)(column level:Int):A3 Tryz.prog 50 [sA s,X9 x,.i k,.i column,.i level] (Jr (N8 s column level (x.picks.zip r.tail))):=by
 have oZ:=az x.picks 111 [.iptr [.i column]] (fun p=>decide (p.col=column)) (fun p _=>Yo p column)
 have yJ:=iq hl
 have qN:=Kq (fun p:Pk=>decide (p.col=column)) x.picks 0
 obtain⟨pr,ver,picks,rows⟩:=x
 dsimp only at *
 generalize hj:D9 (fun p:Pk=>decide (p.col=column)) picks 0=j at *
 by_cases tD:j<0
 ·have hT:=Lj s column 0 0 level hr
  rw[←XB (s:=s) (level:=level) yJ (by rw[hj];exact tD) (Int.le_refl _)]at hT
  refine B5 Tryz.func50 46 fun nL E h0=>?_
  clear nL
  repeat'((first|refine A0 oZ ?_|refine A0 hT ?_|refine I6 2 ?_ |refine S2 ?_|(refine T6 ?_ ?_<;>intro h<;>try exact V1 h)|intro el nJ nK|intro el nJ|exact T4|refine T5 ?_ ?_|intro ex)<;>try conv=>whnf)
  all_goals first
   |(exfalso;omega)
   |exact I5 rfl rfl rfl
 ·obtain⟨p,v,_,h2,h3⟩:=XC (s:=s) (level:=level) yJ hj (Int.le_refl _) (by omega)
  rw[Int.sub_zero]at h2
  obtain⟨hp,hv⟩:=UO h2
  have hT:=Lj s column p.lev v level hr
  rw[←h3]at hT
  have qq:r[(j+1).toNat]?=some v:=by rw[show (j+1).toNat=j.toNat+1 by omega];exact hv
  have nN:=E9 hp
  have nX:rows[((k:Int)).toNat]?=some r:=hk
  have nU:=E9 hk
  refine B5 Tryz.func50 46 fun nL E h0=>?_
  clear nL
  repeat'((first|(refine A2 (x:=p) hp (by omega) ?_)|(refine A2 (x:=v) qq (by omega) ?_)|(refine A2 (x:=r) nX (by omega) ?_)|refine A0 oZ ?_|refine A0 hT ?_|refine I6 2 ?_|(refine A9 ?_ ?_;kernel_rfl) |refine S2 ?_|(refine T6 ?_ ?_<;>intro h<;>try exact V1 h)|intro el nJ nK|intro el nJ|exact T4|refine T5 ?_ ?_|intro ex)<;>try conv=>whnf)
  all_goals first
   |(exfalso;omega)
   |exact I5 rfl rfl rfl
end Go.Proofs.YtiphlhoclaogjaaGreatDoor
namespace Go.Av
open Go Go.RowKit
section
variable {P:Program} {E:Env} {n:Nat} {ops:Array Oper} {rest:List Oper} {σ:St} {K:St→Prop} {ty:TypeId} {pos:String} {after:Array Edge} {x y:Operand}
theorem ir{nO:Nat}{l:List Bool}{σ':St}(h:St.le E n σ σ')(k:C8 P E n ops nO l σ' K):C8 P E n ops nO l σ K:=fun a w hs=>k a w (h a w hs)
theorem eU{nO:Nat}{l:List Bool}{i ver len:Nat}(t:Nat)(ht:look σ.sl t=some (.row i ver len))(k:C8 P E n ops nO l (σ.frz i) K):C8 P E n ops nO l σ K:=ir (Fq i) k
end
end Go.Av
