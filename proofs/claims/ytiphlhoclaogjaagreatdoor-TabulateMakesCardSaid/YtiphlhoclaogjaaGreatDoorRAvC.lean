/- Chapter 2: what a row can have, by the reference. Chapter 2: the reference's turned values are the program's. -/
import Derived.Test.YtiphlhoclaogjaaGreatDoorRB10
import Derived.Test.YtiphlhoclaogjaaGreatDoorRTa1
import Derived.Test.YtiphlhoclaogjaaGreatDoorRE3
set_option linter.unusedVariables false
set_option linter.unnecessarySimpa false
set_option linter.unusedSimpArgs false
set_option maxHeartbeats 64000000
namespace Go.Proofs.YtiphlhoclaogjaaGreatDoor
open Go Go.Av
attribute [local irreducible] C9 B3 C7 D1 DQ D0 C6 St.le A3 B7
set_option maxRecDepth 100000
theorem FL{s:A4}{column level:Int}{c:D4}(hr:C3 s=0)(h1:1≤column)(hc:s.cols[column.toNat]?=some c)(hk:c.kind=2)(h3:0≤level)(h4:level≤B4 s column){x:Nat}(hx:x∈F9 s column):
  G2 s column level x=L1 (C2 s c).1 (C2 s c).2 x level∧0≤L1 (C2 s c).1 (C2 s c).2 x level:=by
 have mX:=C1 hc
 rw[F9,mX]at hx
 obtain⟨nM,vN,hd⟩:=Oe hx
 have hxh:hasB (C2 s c).1 (C2 s c).2 x=true:=DO.2 ⟨by omega,by omega,nM⟩
 have vu:BD s c x=true:=by
  have e1:T1 (C2 s c).1 (C2 s c).2 x=C5 (C2 s c).1 (C2 s c).2-1:=by
   rw[←hd];exact(EU (code:=(x:Int)) ⟨by omega,by omega,nM⟩).symm
  rw[BD,if_neg (by omega),if_pos hk,(HZ nM vN).1 e1,decide_eq_true (by omega)]
  rfl
 have md:B4 s column=C5 (C2 s c).1 (C2 s c).2-1:=by
  have:=F0 hc
  rw[B4,if_pos hr,E5,if_neg (by omega),mX,M0,if_pos hk]
 refine⟨by rw[G2,if_neg (by omega),mX,P8,if_pos hk,if_pos vu],?_⟩
 rw[L1,if_pos ⟨hxh,h3,by rw[Int.toNat_natCast];omega⟩]
 omega
def u7(s:A4)(column level v:Int):Bool :=
 if 0≤level∧level≤B4 s column then (if (B8 s column).kind=2 then (F9 s column).any (fun x=>decide (G2 s column level x=v))else if 0<level∧v=(-1099511627776)then (B8 s column).opt else (M9 (B8 s column) level v).2.2)else false
theorem Lm(s:A4)(column level v:Int):A3 Tryz.prog 83 [sA s,.i column,.i level,.i v] (.b (u7 s column level v)):=by
 have md:=L5 s column
 have nf:=Y9 level 0 (B4 s column)
 refine B5 Tryz.func83 65 fun mK E h0=>?_
 clear mK
 repeat'((first|refine A0 md ?_|refine A0 nf ?_ |refine S2 ?_|(refine T6 ?_ ?_<;>intro h<;>try exact V1 h)|intro el mI mJ|intro el mI|exact T4|refine T5 ?_ ?_|intro ex)<;>try conv=>whnf)
 all_goals first
  |exact A1 rfl (congrArg AV.b (by rw[u7,if_neg (by assumption)]))
  |skip
 obtain⟨hr,h1,h2,h4⟩:=BE (s:=s) (column:=column) (level:=level) (by omega) (by omega)
 rw[u7,if_pos (by assumption)]
 clear md nf
 obtain⟨c,hc⟩:∃c,s.cols[column.toNat]?=some c:=⟨_,List.getElem?_eq_getElem (by omega)⟩
 have mX:=C1 hc
 have nr:=n9 hr h1 hc
 rw[E5,if_neg (by omega),mX]at h4
 rw[mX]
 have oV:c.kind=2→A3 Tryz.prog 138 [sA s,.i column] (.sl 1 ((F9 s column).map iA)):=fun h5=>AF s column (by omega) hc (by omega)
 have mL:c.kind=2→(F9 s column).length≤60:=fun h5=>by
  have:=x9 (C2 s c).1 (C2 s c).2 (C5 (C2 s c).1 (C2 s c).2-1)
  obtain⟨l,nA⟩:∃l,s.lists[c.lst.toNat]?=some l:=⟨_,List.getElem?_eq_getElem (by omega)⟩
  have vz:=(G9 ((D3 hr).2.2.1 l (List.mem_of_getElem? nA))).2.2
  rw[F9,mX]
  rw[H6 nA]at this ⊢
  omega
 have rC:¬c.kind=2→A3 Tryz.prog 139 [T3 c,.i level,.i v] (XV (M9 c level v)):=fun h5=>by
  have h9:M0 s c=c.widths.length:=by unfold M0;rw[if_neg h5]
  have hk:=(d6 ((D3 hr).2.2.2.1 _ c hc)).2.2.1
  exact Hj c level v (v9 hk (by omega)) (by omega) (by omega)
 have pk:=fun x:Int=>u6 s column level x
 clear nr h4
 generalize F9 s column=L at *
 generalize M9 c level v=bl at *
 repeat'((first|(refine A2 (x:=c) hc (by omega) ?_)|refine A0 (oV (by assumption)) ?_|refine A0 (rC (by assumption)) ?_ |refine S2 ?_|(refine T6 ?_ ?_<;>intro h<;>try exact V1 h)|intro el mI mJ|intro el mI|exact T4|refine T5 ?_ ?_|intro ex)<;>try conv=>whnf)
 all_goals first
  |exact A1 rfl (congrArg AV.b (by rw[if_neg (by assumption),if_pos (by omega)]))
  |exact A1 rfl (congrArg AV.b (by rw[if_neg (by assumption),if_neg (by omega)]))
  |skip
 rw[if_pos (by assumption)]
 have mL:=mL (by assumption)
 refine A9 (ι:=Nat) (fun k=>⟨[(1,.i column),(2,.i level),(3,.i v),(4,.ref 0 0),(10,.sl 1 (L.map iA)),(11,.i k)],1,[(0,some (.box (sL s)))]⟩) (fun k=>P4 (fun x:Nat=>decide (G2 s column level x=v)) L k) (fun k=>L.length-k) 0 (P4.zero _ _) (A6 h0) (fun k hI=>?_)
 have hk:=hI.1
 repeat'((first|refine A0 (pk _) ?_|(refine B0 ?_ ?_;kernel_rfl) |refine S2 ?_|(refine T6 ?_ ?_<;>intro h<;>try exact V1 h)|intro el mI mJ|intro el mI|exact T4|refine T5 ?_ ?_|intro ex)<;>try conv=>whnf)
 all_goals first
  |exact⟨k+1,hI.step mI (decide_eq_false (by assumption)),by omega,A6 h0⟩
  |exact A1 rfl (congrArg AV.b (hI.hit mI (decide_eq_true (by assumption))))
  |exact A1 rfl (congrArg AV.b (hI.done (by assumption)))
theorem Na(s:A4)(p:Pk):A3 Tryz.prog 136 [sA s,Pv p] (.i (N3 s p)):=by
 have md:=L5 s p.col
 have nf:=Y9 p.lev 0 (B4 s p.col)
 refine B5 Tryz.func136 30 fun mK E h0=>?_
 obtain⟨oH,mt,oc⟩:=Z8 (s:=s) (mK _ (by simp))
 clear mK
 repeat'((first|refine A0 (Q4 s) ?_|refine A0 md ?_|refine A0 nf ?_|(refine B0 ?_ ?_;kernel_rfl) |refine S2 ?_|(refine T6 ?_ ?_<;>intro h<;>try exact V1 h)|intro el mI mJ|intro el mI|exact T4|refine T5 ?_ ?_|intro ex)<;>try conv=>whnf)
 all_goals first
  |exact A1 rfl (congrArg AV.i (by rw[N3,if_neg (by assumption)]))
  |skip
 all_goals
  have hr:C3 s=0:=Classical.byContradiction (by assumption)
  rw[N3,if_pos hr,BZ]
  have e:B4 s p.col=E5 s p.col:=by rw[B4,if_pos hr]
  refine A1 rfl (congrArg AV.i ?_)
 all_goals first
  |(rw[if_pos (by unfold E5;rw[if_pos (by omega)];decide)];done)
  |(have hnn:0≤E5 s p.col:=by
     have:=Of hr (column:=p.col) (by omega) (by omega)
     exact this
    first
     |(rw[if_neg (by omega),if_pos (by omega)];done)
     |(rw[if_neg (by omega),if_neg (by omega)];done))
theorem Df(s:A4)(l:List Pk):A3 Tryz.prog 82 [sA s,.sl 2 (l.map A8)] (.i (I7 s l)):=by
 have oY:=fun p=>Na s p
 refine B5 Tryz.func82 44 fun mK E h0=>?_
 have mL:l.length≤9223372036854775807:=by have:=(mK (.sl 2 (l.map A8)) (by simp)).sl;simpa using this
 clear mK
 repeat'((first|refine A0 (Q4 s) ?_ |refine S2 ?_|(refine T6 ?_ ?_<;>intro h<;>try exact V1 h)|intro el mI mJ|intro el mI|exact T4|refine T5 ?_ ?_|intro ex)<;>try conv=>whnf)
 all_goals first
  |(refine A1 rfl (congrArg AV.i ?_);rw[I7,if_neg (by assumption)];done)
  |skip
 have hr:C3 s=0:=Classical.byContradiction (by assumption)
 have pN:∀p,N3 s p=BZ s p:=fun p=>by rw[N3,if_pos hr]
 rw[I7,if_pos hr]
 refine A9 (ι:=Nat) (fun k=>⟨[(1,.sl 2 (l.map A8)),(2,.ref 0 0),(6,.i k)],1,[(0,some (.box (sL s)))]⟩) (fun k=>F2 (DL s l) l k) (fun k=>l.length-k) 0 (F2.zero _ _) (A6 h0) (fun k hI=>?_)
 have hk:=hI.1
 simp only[pN]at oY
 repeat'((first|refine A0 (oY _) ?_|(refine B0 ?_ ?_;kernel_rfl) |refine S2 ?_|(refine T6 ?_ ?_<;>intro h<;>try exact V1 h)|intro el mI mJ|intro el mI|exact T4|refine T5 ?_ ?_|intro ex)<;>try conv=>whnf)
 all_goals first
  |exact A1 rfl (congrArg AV.i (by rw[←hI.hit mI (by rw[RJ h];exact h),RJ h]))
  |exact A1 rfl (congrArg AV.i (by have e:=Vx (by assumption) (by assumption) mI h;rw[←hI.hit (by assumption) (by rw[e];decide),e]))
  |exact⟨k+1,hI.step (by assumption) (Zy (by assumption) (by assumption) mI h),by omega,A6 h0⟩
  |exact⟨k+1,hI.step mI (fE (by assumption) (by assumption)),by omega,A6 h0⟩
  |exact A1 rfl (congrArg AV.i (hI.done (by assumption)).symm)
def rK(s:A4)(column fr v to:Int):List Nat→Int→Int×Bool
 |[],out=>(out,true)
 |x::r,out=>if G2 s column fr x=v then (if 0≤out∧G2 s column to x≠out then (0,false)else rK s column fr v to r (G2 s column to x))else rK s column fr v to r out
def Nb(s:A4)(column fr v to:Int):Int×Bool :=
 if u7 s column fr v=false∨to<0∨B4 s column<to then (0,false)else
  if (B8 s column).kind=2 then rK s column fr v to (F9 s column) (-1)else if to=0 then (0,true)else if 0<fr∧v=(-1099511627776)then ((-1099511627776),true)else if fr=0∧(B8 s column).opt=true then (0,false)else
   if G2 s column to (M9 (B8 s column) fr v).1=G2 s column to (M9 (B8 s column) fr v).2.1 then (G2 s column to (M9 (B8 s column) fr v).1,true)else (0,false)
theorem gb{s:A4}{column level v:Int}(h:u7 s column level v=true):0≤level∧level≤B4 s column:=by
 unfold u7 at h
 split at h
 ·assumption
 ·cases h
theorem Xv(s:A4)(column fr v to:Int):A3 Tryz.prog 122 [sA s,.i column,.i fr,.i v,.i to] (JA (Nb s column fr v to)):=by
 have oT:=Lm s column fr v
 have md:=L5 s column
 have nf:=Y9 to 0 (B4 s column)
 have uv:=gb (s:=s) (column:=column) (level:=fr) (v:=v)
 unfold Nb
 generalize u7 s column fr v=cb at *
 refine B5 Tryz.func122 116 fun mK E h0=>?_
 clear mK
 repeat'((first|refine A0 oT ?_|refine A0 md ?_|refine A0 nf ?_ |refine S2 ?_|(refine T6 ?_ ?_<;>intro h<;>try exact V1 h)|intro el mI mJ|intro el mI|exact T4|refine T5 ?_ ?_|intro ex)<;>try conv=>whnf)
 all_goals first
  |exact I3 (a:=.i _) (b:=.b _) rfl rfl (by rw[if_pos (.inl (by assumption))])
  |exact I3 (a:=.i _) (b:=.b _) rfl rfl (by rw[if_pos (.inr (by omega))])
  |skip
 have wD:cb=true:=by assumption
 obtain⟨hf1,hf2⟩:=uv wD
 obtain⟨hr,h1,h2,h4⟩:=BE (s:=s) (column:=column) (level:=fr) (by omega) (by omega)
 rw[if_neg (fun hx=>by rcases hx with hx|hx<;>first|omega|(rw[wD]at hx;cases hx))]
 have hto:0≤to∧to≤B4 s column:=by omega
 clear oT md nf uv
 obtain⟨c,hc⟩:∃c,s.cols[column.toNat]?=some c:=⟨_,List.getElem?_eq_getElem (by omega)⟩
 have mX:=C1 hc
 have nr:=n9 hr h1 hc
 rw[E5,if_neg (by omega),mX]at h4
 rw[mX]
 have oV:c.kind=2→A3 Tryz.prog 138 [sA s,.i column] (.sl 1 ((F9 s column).map iA)):=fun h5=>AF s column (by omega) hc (by omega)
 have mL:c.kind=2→(F9 s column).length≤60:=fun h5=>by
  have:=x9 (C2 s c).1 (C2 s c).2 (C5 (C2 s c).1 (C2 s c).2-1)
  obtain⟨l,nA⟩:∃l,s.lists[c.lst.toNat]?=some l:=⟨_,List.getElem?_eq_getElem (by omega)⟩
  have vz:=(G9 ((D3 hr).2.2.1 l (List.mem_of_getElem? nA))).2.2
  rw[F9,mX]
  rw[H6 nA]at this ⊢
  omega
 have rC:¬c.kind=2→A3 Tryz.prog 139 [T3 c,.i fr,.i v] (XV (M9 c fr v)):=fun h5=>by
  have h9:M0 s c=c.widths.length:=by unfold M0;rw[if_neg h5]
  have hk:=(d6 ((D3 hr).2.2.2.1 _ c hc)).2.2.1
  exact Hj c fr v (v9 hk (by omega)) (by omega) (by omega)
 have pk:=fun lv x:Int=>u6 s column lv x
 clear nr h4
 generalize F9 s column=L at *
 generalize M9 c fr v=bl at *
 repeat'((first|(refine A2 (x:=c) hc (by omega) ?_)|refine A0 (oV (by assumption)) ?_|refine A0 (rC (by assumption)) ?_|refine A0 (pk _ _) ?_|(refine B0 ?_ ?_;kernel_rfl) |refine S2 ?_|(refine T6 ?_ ?_<;>intro h<;>try exact V1 h)|intro el mI mJ|intro el mI|exact T4|refine T5 ?_ ?_|intro ex)<;>try conv=>whnf)
 all_goals first
  |exact I3 (a:=.i _) (b:=.b _) rfl rfl (by rw[if_neg (by assumption),if_pos (by assumption)])
  |exact I3 (a:=.i _) (b:=.b _) rfl rfl (by rw[if_neg (by assumption),if_neg (by assumption),if_pos (by omega)])
  |exact I3 (a:=.i _) (b:=.b _) rfl rfl (by rw[if_neg (by assumption),if_neg (by assumption),if_neg (by omega),if_pos ⟨by assumption,by assumption⟩])
  |exact I3 (a:=.i _) (b:=.b _) rfl rfl (by rw[if_neg (by assumption),if_neg (by assumption),if_neg (by omega),if_neg (fun hx=>by first|exact absurd hx.1 (by assumption)|(have h9:=hx.2;simp[*]at h9)),if_neg (by assumption)])
  |exact I3 (a:=.i _) (b:=.b _) rfl rfl (by rw[if_neg (by assumption),if_neg (by assumption),if_neg (by omega),if_neg (fun hx=>by first|exact absurd hx.1 (by assumption)|(have h9:=hx.2;simp[*]at h9)),if_pos (Classical.byContradiction (by assumption))])
  |skip
 rw[if_pos (by assumption)]
 have mL:=mL (by assumption)
 refine A9 (ι:=Nat×Int) (fun x=>⟨[(1,.i column),(2,.i fr),(3,.i v),(4,.i to),(5,.ref 0 0),(13,.sl 1 (L.map iA)),(14,.i x.2),(15,.i x.1)],1,[(0,some (.box (sL s)))]⟩) (fun x=>x.1≤L.length∧rK s column fr v to L (-1)=rK s column fr v to (L.drop x.1) x.2) (fun x=>L.length-x.1) (0,-1) ⟨Nat.zero_le _,rfl⟩ (A6 h0) (fun x hI=>?_)
 obtain⟨k,out⟩:=x
 obtain⟨hk,hI⟩:=hI
 dsimp only at hk hI ⊢
 repeat'((first|refine A0 (pk _ _) ?_|(refine B0 ?_ ?_;kernel_rfl) |refine S2 ?_|(refine T6 ?_ ?_<;>intro h<;>try exact V1 h)|intro el mI mJ|intro el mI|exact T4|refine T5 ?_ ?_|intro ex)<;>try conv=>whnf)
 all_goals first
  |exact⟨(k+1,out),⟨by dsimp only;omega,by rw[hI,G1 mI,rK,if_neg (by assumption)]⟩,by dsimp only;omega,A6 h0⟩
  |exact⟨(k+1,G2 s column to el),⟨by dsimp only;omega,by rw[hI,G1 mI,rK,if_pos (Classical.byContradiction (by assumption)),if_neg (fun hx=>by first|exact absurd hx.2 (by assumption)|omega)]⟩,by dsimp only;omega,A6 h0⟩
  |exact I3 (a:=.i _) (b:=.b _) rfl rfl (by rw[hI,G1 mI,rK,if_pos (Classical.byContradiction (by assumption)),if_pos ⟨by assumption,by assumption⟩])
  |exact I3 (a:=.i _) (b:=.b _) rfl rfl (by rw[hI,T0 (by assumption)];rfl)
def lM(p:Int×Bool):Int×Bool:=if p.2=true then (p.1,true)else (0,false)
theorem Hk{s:A4}{column fr v to:Int}{nm:List UInt8}{cs:List Code}:∀(L:List Nat) (out rB:Int) (sm:Bool),(∀x∈L,G2 s column fr x=L1 nm cs x fr∧G2 s column to x=L1 nm cs x to∧0≤L1 nm cs x to) →
  ((sm=true∧0≤out∧rB=out)∨(sm=false∧rB=-1∧L.any (fun x=>decide (G2 s column fr x=v))=true))→rK s column fr v to L rB=lM (x8 nm cs fr v to L out sm)
 |[],out,rB,sm,_,h=>by
  rcases h with ⟨rfl,h1,rfl⟩|⟨_,_,h⟩
  ·rfl
  ·cases h
 |x::r,out,rB,sm,mh,h=>by
  obtain⟨e1,e2,e3⟩:=mh x (by simp)
  have sR:=fun y (hy:y∈r)=>mh y (by simp[hy])
  unfold rK x8
  rw[e1,e2]
  by_cases hx:L1 nm cs x fr=v
  ·rw[if_pos hx,if_pos hx]
   rcases h with ⟨rfl,h1,rfl⟩|⟨rfl,rfl,_⟩
   ·by_cases hne:L1 nm cs x to≠rB
    ·rw[if_pos ⟨h1,hne⟩,if_pos ⟨rfl,hne⟩];rfl
    ·rw[if_neg (fun h=>hne h.2),if_neg (fun h=>hne h.2)]
     exact Hk r _ _ true sR (.inl ⟨rfl,e3,rfl⟩)
   ·rw[if_neg (by omega),if_neg (by simp)]
    exact Hk r _ _ true sR (.inl ⟨rfl,e3,rfl⟩)
  ·rw[if_neg hx,if_neg hx]
   refine Hk r out rB sm sR ?_
   rcases h with h|⟨h1,h2,h3⟩
   ·exact .inl h
   ·refine .inr ⟨h1,h2,?_⟩
    rw[List.any_cons,e1,decide_eq_false hx,Bool.false_or]at h3
    exact h3
theorem Nc{s:A4}{column fr v to:Int}{nm:List UInt8}{cs:List Code}:∀(L:List Nat) (out:Int),(∀x∈L,G2 s column fr x=L1 nm cs x fr)→L.any (fun x=>decide (G2 s column fr x=v))=false→x8 nm cs fr v to L out false=(out,false)
 |[],out,_,_=>rfl
 |x::r,out,mh,h=>by
  rw[List.any_cons,Bool.or_eq_false_iff,mh x (by simp),decide_eq_false_iff_not]at h
  unfold x8
  rw[if_neg h.1]
  exact Nc r out (fun y hy=>mh y (by simp[hy])) h.2
theorem Nd{c:D4}{level v:Int}(hc:meaE c=0)(h1:0≤level)(h2:level≤c.widths.length)(hm:¬(0<level∧v=(-1099511627776))):
  (M1 c level v).2.2=(M9 c level v).2.2∧((M9 c level v).2.2=true→(M1 c level v).1=(M9 c level v).1∧(M1 c level v).2.1=(M9 c level v).2.1∧c.low≤(M9 c level v).1∧(M9 c level v).1≤(M9 c level v).2.1∧(M9 c level v).2.1≤c.high):=by
 have hp:=T7 hc
 unfold M1 M9
 by_cases h0:level=0
 ·rw[if_pos h0,if_pos h0]
  exact⟨rfl,fun _=>⟨rfl,rfl,by dsimp only;omega,by dsimp only;omega,by dsimp only;omega⟩⟩
 ·rw[if_neg h0,if_neg h0]
  have pI:=f6 hp.2.2.2.2.2 (level:=level) (by omega) h2
  have ht:=JE (v:=v) pI.1
  generalize B1 c level=w at *
  by_cases h3:v < -2000000∨1000000<v
  ·rw[if_pos h3]
   by_cases h4:v=(-1099511627776)∨¬(-2000000≤v∧v≤2000000)∨v.tmod w≠0
   ·rw[if_pos h4];exact⟨rfl,fun h=>by cases h⟩
   ·rw[if_neg h4]
    have:¬max c.low v≤min c.high (v+w-1):=by omega
    rw[decide_eq_false this]
    exact⟨rfl,fun h=>by cases h⟩
  ·rw[if_neg h3]
   by_cases h4:C8 v w=v
   ·rw[if_neg (by have:=ht.2 h4;omega),decide_eq_true h4]
    have e1:max v c.low=max c.low v:=by omega
    have e2:min (v+w-1) c.high=min c.high (v+w-1):=by omega
    rw[e1,e2]
    dsimp only
    rw[Bool.true_and]
    refine⟨by first|rfl|trivial,fun h=>?_⟩
    have h:=of_decide_eq_true h
    (repeat' constructor)<;>first|rfl|omega
   ·rw[if_pos (.inr (.inr (fun h=>h4 (ht.1 h)))),decide_eq_false h4]
    exact⟨rfl,fun h=>by cases h⟩
theorem dS(s:A4)(column fr v to:Int):Nb s column fr v to=NN s column fr v to:=by
 unfold Nb NN
 by_cases hr:C3 s=0
 ·have uR:B4 s column=E5 s column:=by rw[B4,if_pos hr]
  rw[if_pos hr]
  unfold T9
  by_cases hb:fr<0∨E5 s column<fr∨to<0∨E5 s column<to
  ·rw[if_pos hb]
   have:u7 s column fr v=false∨to<0∨B4 s column<to:=by
    rw[uR]
    by_cases h1:to<0∨E5 s column<to
    ·exact .inr h1
    ·left
     rw[u7,if_neg (by omega)]
   rw[if_pos this]
  ·rw[if_neg hb]
   obtain⟨_,h1,h2,h4⟩:=BE (s:=s) (column:=column) (level:=fr) (by omega) (by omega)
   obtain⟨c,hc⟩:∃c,s.cols[column.toNat]?=some c:=⟨_,List.getElem?_eq_getElem (by omega)⟩
   have mX:=C1 hc
   have nr:=n9 hr h1 hc
   have oT:u7 s column fr v=if c.kind=2 then (F9 s column).any (fun x=>decide (G2 s column fr x=v))else if 0<fr∧v=(-1099511627776)then c.opt else (M9 c fr v).2.2:=by
    rw[u7,if_pos (by omega),mX]
   rw[mX]
   by_cases hk:c.kind=2
   ·rw[if_pos hk]at oT
    rw[if_pos hk,if_pos hk]
    have mh:∀x∈F9 s column,G2 s column fr x=L1 (C2 s c).1 (C2 s c).2 x fr∧G2 s column to x=L1 (C2 s c).1 (C2 s c).2 x to∧0≤L1 (C2 s c).1 (C2 s c).2 x to:=fun x hx =>
     ⟨(FL hr h1 hc hk (by omega) (by omega) hx).1,FL hr h1 hc hk (by omega) (by omega) hx⟩
    have oV:F9 s column=H1 (C2 s c).1 (C2 s c).2 (C5 (C2 s c).1 (C2 s c).2-1):=by rw[F9,mX]
    unfold De
    rw[←oV]
    cases wD:u7 s column fr v with
    |false =>
     rw[if_pos (.inl rfl),Nc (s:=s) (column:=column) _ _ (fun x hx=>(mh x hx).1) (oT▸wD)]
     rfl
    |true =>
     rw[if_neg (fun hx=>by rcases hx with hx|hx;cases hx;omega)]
     exact Hk _ 0 (-1) false mh (.inr ⟨rfl,rfl,oT▸wD⟩)
   ·rw[if_neg hk]at oT
    have hm:meaE c=0:=v9 (d6 ((D3 hr).2.2.2.1 _ c hc)).2.2.1 (by omega)
    have hp:=T7 hm
    have h9:E5 s column=c.widths.length:=by rw[E5,if_neg (by omega),mX,M0,if_neg hk]
    rw[if_neg hk,if_neg hk]
    unfold BF
    by_cases hx:0<fr∧v=(-1099511627776)
    ·rw[if_pos hx]at oT ⊢
     rw[if_pos hx]
     cases ho:c.opt with
     |false =>
      rw[oT,ho,if_pos (.inl rfl)]
      split<;>rfl
     |true =>
      rw[oT,ho,if_neg (fun hx=>by rcases hx with hx|hx;cases hx;omega)]
      by_cases ht:to=0
      ·rw[if_pos ht,if_pos ht];rfl
      ·rw[if_neg ht,if_neg ht,hx.2];rfl
    ·rw[if_neg hx]at oT ⊢
     rw[if_neg hx]
     obtain⟨e1,e2⟩:=Nd (v:=v) hm (level:=fr) (by omega) (by omega) hx
     cases hb:(M9 c fr v).2.2 with
     |false =>
      rw[oT,hb,if_pos (.inl rfl),e1,hb,if_pos rfl];rfl
     |true =>
      obtain⟨e3,e4,e5,e6,e7⟩:=e2 hb
      rw[oT,hb,if_neg (fun hx=>by rcases hx with hx|hx;cases hx;omega),e1,hb,if_neg (show ¬(true=false) by decide)]
      by_cases ht:to=0
      ·rw[if_pos ht,if_pos ht];rfl
      ·rw[if_neg ht,if_neg ht]
       by_cases hf:fr=0∧c.opt=true
       ·rw[if_pos hf,if_pos hf];rfl
       ·rw[if_neg hf,if_neg hf,e3,e4]
        have pk:∀x,c.low≤x→x≤c.high→G2 s column to x=C8 x (B1 c to):=fun x h5 h6=>by
         rw[G2,if_neg (by omega),mX,P8,if_neg hk,if_neg (by omega),if_neg ht,if_neg (by omega)]
        rw[pk _ e5 (by omega),pk _ (by omega) e7]
        by_cases hd:C8 (M9 c fr v).1 (B1 c to)=C8 (M9 c fr v).2.1 (B1 c to)
        ·rw[if_pos hd,decide_eq_true hd];rfl
        ·rw[if_neg hd,decide_eq_false hd];rfl
 ·rw[if_neg hr,if_pos]
  left
  have:B4 s column=-1:=by rw[B4,if_neg hr]
  rw[u7,if_neg (by omega)]
theorem Xw(p:Pk)(column:Int):A3 Tryz.prog 111 [Pv p,.iptr [.i column]] (.b (decide (p.col=column))):=by
 refine B5 Tryz.func111 8 fun mK E h0=>?_
 clear mK
 repeat'((first|(refine B0 ?_ ?_;kernel_rfl) |refine S2 ?_|(refine T6 ?_ ?_<;>intro h<;>try exact V1 h)|intro el mI mJ|intro el mI|exact T4|refine T5 ?_ ?_|intro ex)<;>try conv=>whnf)
 all_goals first
  |exact A1 rfl rfl
theorem WJ{s:A4}{column level:Int}:∀{pv:List (Pk×Int)} {picks:List Pk} {k:Int},pv.map (·.1)=picks→E8 (fun p:Pk=>decide (p.col=column)) picks k<0→0≤k→N6 s column level pv=T9 s column 0 0 level
 |[],_,_,_,_,_=>rfl
 |(p,v)::r,_,k,h,hi,hk=>by
  subst h
  rw[List.map_cons,E8]at hi
  by_cases hp:p.col=column
  ·rw[if_pos (by simpa using hp)]at hi;omega
  ·rw[if_neg (by simpa using hp)]at hi
   rw[N6,if_neg hp]
   exact WJ rfl hi (by omega)
theorem WK{s:A4}{column level:Int}:∀{pv:List (Pk×Int)} {picks:List Pk} {k j:Int},pv.map (·.1)=picks→E8 (fun p:Pk=>decide (p.col=column)) picks k=j→0≤k→0≤j→∃p v,k≤j∧pv[(j-k).toNat]?=some (p,v)∧N6 s column level pv=T9 s column p.lev v level
 |[],_,k,j,h,hi,hk,hj=>by subst h;simp[E8]at hi;omega
 |(p,v)::r,_,k,j,h,hi,hk,hj=>by
  subst h
  rw[List.map_cons,E8]at hi
  by_cases hp:p.col=column
  ·rw[if_pos (by simpa using hp)]at hi
   refine⟨p,v,by omega,by rw[show (j-k).toNat=0 by omega];rfl,by rw[N6,if_pos hp]⟩
  ·rw[if_neg (by simpa using hp)]at hi
   obtain⟨p2,v2,h1,h2,h3⟩:=WK (s:=s) (column:=column) (level:=level) (pv:=r) rfl hi (by omega) hj
   exact⟨p2,v2,by omega,by rw[show (j-k).toNat=(j-(k+1)).toNat+1 by omega];exact h2,by rw[N6,if_neg hp];exact h3⟩
theorem gc{picks:List Pk}{row:List Int}(h:row.length=picks.length+1):(picks.zip row.tail).map (·.1)=picks:=by
 rw[List.map_fst_zip]
 rw[List.length_tail];omega
theorem TS{picks:List Pk}{row:List Int}{k:Nat}{p:Pk}{v:Int}(h:(picks.zip row.tail)[k]?=some (p,v)):picks[k]?=some p∧row[k+1]?=some v:=by
 rw[List.getElem?_zip_eq_some]at h
 refine⟨h.1,?_⟩
 cases row with
 |nil=>simp at h
 |cons a r=>simpa using h.2
theorem Co(s:A4)(hr:C3 s=0)(x:J7)(k:Nat)(r:List Int)(hk:x.rows[k]?=some r)(hl:r.length=x.picks.length+1)(ob:x.picks.length≤1000)(column level:Int):A3 Tryz.prog 50 [sA s,T8 x,.i k,.i column,.i level] (JA (N6 s column level (x.picks.zip r.tail))):=by
 have nX:=Zz x.picks 111 [.iptr [.i column]] (fun p=>decide (p.col=column)) (fun p _=>Xw p column)
 have wl:=gc hl
 have pK:=Jw (fun p:Pk=>decide (p.col=column)) x.picks 0
 obtain⟨pr,ver,picks,rows⟩:=x
 dsimp only at *
 generalize hj:E8 (fun p:Pk=>decide (p.col=column)) picks 0=j at *
 by_cases re:j<0
 ·have hT:=Km s column 0 0 level hr
  rw[←WJ (s:=s) (level:=level) wl (by rw[hj];exact re) (Int.le_refl _)]at hT
  refine B5 Tryz.func50 46 fun mK E h0=>?_
  clear mK
  repeat'((first|refine A0 nX ?_|refine A0 hT ?_|refine I4 2 ?_ |refine S2 ?_|(refine T6 ?_ ?_<;>intro h<;>try exact V1 h)|intro el mI mJ|intro el mI|exact T4|refine T5 ?_ ?_|intro ex)<;>try conv=>whnf)
  all_goals first
   |(exfalso;omega)
   |exact I3 rfl rfl rfl
 ·obtain⟨p,v,_,h2,h3⟩:=WK (s:=s) (level:=level) wl hj (Int.le_refl _) (by omega)
  rw[Int.sub_zero]at h2
  obtain⟨hp,hv⟩:=TS h2
  have hT:=Km s column p.lev v level hr
  rw[←h3]at hT
  have pu:r[(j+1).toNat]?=some v:=by rw[show (j+1).toNat=j.toNat+1 by omega];exact hv
  have mM:=F0 hp
  have mW:rows[((k:Int)).toNat]?=some r:=hk
  have mT:=F0 hk
  refine B5 Tryz.func50 46 fun mK E h0=>?_
  clear mK
  repeat'((first|(refine A2 (x:=p) hp (by omega) ?_)|(refine A2 (x:=v) pu (by omega) ?_)|(refine A2 (x:=r) mW (by omega) ?_)|refine A0 nX ?_|refine A0 hT ?_|refine I4 2 ?_|(refine B0 ?_ ?_;kernel_rfl) |refine S2 ?_|(refine T6 ?_ ?_<;>intro h<;>try exact V1 h)|intro el mI mJ|intro el mI|exact T4|refine T5 ?_ ?_|intro ex)<;>try conv=>whnf)
  all_goals first
   |(exfalso;omega)
   |exact I3 rfl rfl rfl
end Go.Proofs.YtiphlhoclaogjaaGreatDoor
namespace Go.Av
open Go Go.RowKit
section
variable {P:Program} {E:Env} {n:Nat} {ops:Array Oper} {rest:List Oper} {σ:St} {K:St→Prop} {ty:TypeId} {pos:String} {after:Array Edge} {x y:Operand}
theorem gf{mN:Nat}{l:List Bool}{σ':St}(h:St.le E n σ σ')(k:C7 P E n ops mN l σ' K):C7 P E n ops mN l σ K:=fun a w hs=>k a w (h a w hs)
theorem dT{mN:Nat}{l:List Bool}{i ver len:Nat}(t:Nat)(ht:look σ.sl t=some (.row i ver len))(k:C7 P E n ops mN l (σ.frz i) K):C7 P E n ops mN l σ K:=gf (Et i) k
end
end Go.Av
