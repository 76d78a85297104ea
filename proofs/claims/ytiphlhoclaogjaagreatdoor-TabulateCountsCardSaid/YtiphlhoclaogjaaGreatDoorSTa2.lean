/- Chapter 2: what a row can have, by the reference. Chapter 2: the reference's turned values are the program's. -/
import Derived.Test.YtiphlhoclaogjaaGreatDoorSB10
import Derived.Test.YtiphlhoclaogjaaGreatDoorSB9
set_option linter.unusedVariables false
set_option linter.unnecessarySimpa false
set_option linter.unusedSimpArgs false
set_option maxHeartbeats 64000000
namespace Go.Proofs.YtiphlhoclaogjaaGreatDoor
open Go Go.Av
attribute [local irreducible] C7 B2 D3 C9 DQ D0 C8 St.le A3 B9
set_option maxRecDepth 100000
theorem FM{s:A4}{column level:Int}{c:D4}(hr:C3 s=0)(h1:1≤column)(hc:s.cols[column.toNat]?=some c)(hk:c.kind=2)(h3:0≤level)(h4:level≤B7 s column){x:Nat}(hx:x∈F9 s column):
  G2 s column level x=L2 (C2 s c).1 (C2 s c).2 x level∧0≤L2 (C2 s c).1 (C2 s c).2 x level:=by
 have lm:=C1 hc
 rw[F9,lm]at hx
 obtain⟨mT,uL,hd⟩:=On hx
 have zw:hasB (C2 s c).1 (C2 s c).2 x=true:=De.2 ⟨by omega,by omega,mT⟩
 have ui:BX s c x=true:=by
  have e1:S7 (C2 s c).1 (C2 s c).2 x=C4 (C2 s c).1 (C2 s c).2-1:=by
   rw[←hd];exact(Eb (code:=(x:Int)) ⟨by omega,by omega,mT⟩).symm
  rw[BX,if_neg (by omega),if_pos hk,(He mT uL).1 e1,decide_eq_true (by omega)]
  rfl
 have lr:B7 s column=C4 (C2 s c).1 (C2 s c).2-1:=by
  have:=F5 hc
  rw[B7,if_pos hr,E5,if_neg (by omega),lm,M7,if_pos hk]
 refine⟨by rw[G2,if_neg (by omega),lm,O9,if_pos hk,if_pos ui],?_⟩
 rw[L2,if_pos ⟨zw,h3,by rw[Int.toNat_natCast];omega⟩]
 omega
def w9(s:A4)(column level v:Int):Bool :=
 if 0≤level∧level≤B7 s column then (if (C0 s column).kind=2 then (F9 s column).any (fun x=>decide (G2 s column level x=v))else if 0<level∧v=(-1099511627776)then (C0 s column).opt else (M9 (C0 s column) level v).2.2)else false
theorem Lv(s:A4)(column level v:Int):A3 Tryz.prog 83 [sA s,.i column,.i level,.i v] (.b (w9 s column level v)):=by
 have lr:=T7 s column
 have mm:=W7 level 0 (B7 s column)
 refine B6 Tryz.func83 65 fun lW E h0=>?_
 clear lW
 repeat'((first|refine A1 lr ?_|refine A1 mm ?_ |refine S2 ?_|(refine T6 ?_ ?_<;>intro h<;>try exact V1 h)|intro el lU lV|intro el lU|exact T4|refine T5 ?_ ?_|intro ex)<;>try conv=>whnf)
 all_goals first
  |exact A0 rfl (congrArg AV.b (by rw[w9,if_neg (by assumption)]))
  |skip
 obtain⟨hr,h1,h2,h4⟩:=BZ (s:=s) (column:=column) (level:=level) (by omega) (by omega)
 rw[w9,if_pos (by assumption)]
 clear lr mm
 obtain⟨c,hc⟩:∃c,s.cols[column.toNat]?=some c:=⟨_,List.getElem?_eq_getElem (by omega)⟩
 have lm:=C1 hc
 have nA:=o0 hr h1 hc
 rw[E5,if_neg (by omega),lm]at h4
 rw[lm]
 have nz:c.kind=2→A3 Tryz.prog 138 [sA s,.i column] (.sl 1 ((F9 s column).map iA)):=fun h5=>Af s column (by omega) hc (by omega)
 have lX:c.kind=2→(F9 s column).length≤60:=fun h5=>by
  have:=AH (C2 s c).1 (C2 s c).2 (C4 (C2 s c).1 (C2 s c).2-1)
  obtain⟨l,mZ⟩:∃l,s.lists[c.lst.toNat]?=some l:=⟨_,List.getElem?_eq_getElem (by omega)⟩
  have vw:=(I1 ((D5 hr).2.2.1 l (List.mem_of_getElem? mZ))).2.2
  rw[F9,lm]
  rw[H8 mZ]at this ⊢
  omega
 have qK:¬c.kind=2→A3 Tryz.prog 139 [S9 c,.i level,.i v] (XX (M9 c level v)):=fun h5=>by
  have h9:M7 s c=c.widths.length:=by unfold M7;rw[if_neg h5]
  have hk:=(Y8 ((D5 hr).2.2.2.1 _ c hc)).2.2.1
  exact Ho c level v (z6 hk (by omega)) (by omega) (by omega)
 have oe:=fun x:Int=>w8 s column level x
 clear nA h4
 generalize F9 s column=L at *
 generalize M9 c level v=bl at *
 repeat'((first|(refine A2 (x:=c) hc (by omega) ?_)|refine A1 (nz (by assumption)) ?_|refine A1 (qK (by assumption)) ?_ |refine S2 ?_|(refine T6 ?_ ?_<;>intro h<;>try exact V1 h)|intro el lU lV|intro el lU|exact T4|refine T5 ?_ ?_|intro ex)<;>try conv=>whnf)
 all_goals first
  |exact A0 rfl (congrArg AV.b (by rw[if_neg (by assumption),if_pos (by omega)]))
  |exact A0 rfl (congrArg AV.b (by rw[if_neg (by assumption),if_neg (by omega)]))
  |skip
 rw[if_pos (by assumption)]
 have lX:=lX (by assumption)
 refine B0 (ι:=Nat) (fun k=>⟨[(1,.i column),(2,.i level),(3,.i v),(4,.ref 0 0),(10,.sl 1 (L.map iA)),(11,.i k)],1,[(0,some (.box (sL s)))]⟩) (fun k=>P7 (fun x:Nat=>decide (G2 s column level x=v)) L k) (fun k=>L.length-k) 0 (P7.zero _ _) (A6 h0) (fun k hI=>?_)
 have hk:=hI.1
 repeat'((first|refine A1 (oe _) ?_|(refine B3 ?_ ?_;kernel_rfl) |refine S2 ?_|(refine T6 ?_ ?_<;>intro h<;>try exact V1 h)|intro el lU lV|intro el lU|exact T4|refine T5 ?_ ?_|intro ex)<;>try conv=>whnf)
 all_goals first
  |exact⟨k+1,hI.step lU (decide_eq_false (by assumption)),by omega,A6 h0⟩
  |exact A0 rfl (congrArg AV.b (hI.hit lU (decide_eq_true (by assumption))))
  |exact A0 rfl (congrArg AV.b (hI.done (by assumption)))
theorem Nn(s:A4)(p:Pk):A3 Tryz.prog 136 [sA s,QB p] (.i (P4 s p)):=by
 have lr:=T7 s p.col
 have mm:=W7 p.lev 0 (B7 s p.col)
 refine B6 Tryz.func136 30 fun lW E h0=>?_
 obtain⟨nL,mO,nk⟩:=X3 (s:=s) (lW _ (by simp))
 clear lW
 repeat'((first|refine A1 (T3 s) ?_|refine A1 lr ?_|refine A1 mm ?_|(refine B3 ?_ ?_;kernel_rfl) |refine S2 ?_|(refine T6 ?_ ?_<;>intro h<;>try exact V1 h)|intro el lU lV|intro el lU|exact T4|refine T5 ?_ ?_|intro ex)<;>try conv=>whnf)
 all_goals first
  |exact A0 rfl (congrArg AV.i (by rw[P4,if_neg (by assumption)]))
  |skip
 all_goals
  have hr:C3 s=0:=Classical.byContradiction (by assumption)
  rw[P4,if_pos hr,Cc]
  have e:B7 s p.col=E5 s p.col:=by rw[B7,if_pos hr]
  refine A0 rfl (congrArg AV.i ?_)
 all_goals first
  |(rw[if_pos (by unfold E5;rw[if_pos (by omega)];decide)];done)
  |(have hnn:0≤E5 s p.col:=by
     have:=Oo hr (column:=p.col) (by omega) (by omega)
     exact this
    first
     |(rw[if_neg (by omega),if_pos (by omega)];done)
     |(rw[if_neg (by omega),if_neg (by omega)];done))
theorem Dw(s:A4)(l:List Pk):A3 Tryz.prog 82 [sA s,.sl 2 (l.map B4)] (.i (I5 s l)):=by
 have oI:=fun p=>Nn s p
 refine B6 Tryz.func82 44 fun lW E h0=>?_
 have lX:l.length≤9223372036854775807:=by have:=(lW (.sl 2 (l.map B4)) (by simp)).sl;simpa using this
 clear lW
 repeat'((first|refine A1 (T3 s) ?_ |refine S2 ?_|(refine T6 ?_ ?_<;>intro h<;>try exact V1 h)|intro el lU lV|intro el lU|exact T4|refine T5 ?_ ?_|intro ex)<;>try conv=>whnf)
 all_goals first
  |(refine A0 rfl (congrArg AV.i ?_);rw[I5,if_neg (by assumption)];done)
  |skip
 have hr:C3 s=0:=Classical.byContradiction (by assumption)
 have oL:∀p,P4 s p=Cc s p:=fun p=>by rw[P4,if_pos hr]
 rw[I5,if_pos hr]
 refine B0 (ι:=Nat) (fun k=>⟨[(1,.sl 2 (l.map B4)),(2,.ref 0 0),(6,.i k)],1,[(0,some (.box (sL s)))]⟩) (fun k=>E9 (Db s l) l k) (fun k=>l.length-k) 0 (E9.zero _ _) (A6 h0) (fun k hI=>?_)
 have hk:=hI.1
 simp only[oL]at oI
 repeat'((first|refine A1 (oI _) ?_|(refine B3 ?_ ?_;kernel_rfl) |refine S2 ?_|(refine T6 ?_ ?_<;>intro h<;>try exact V1 h)|intro el lU lV|intro el lU|exact T4|refine T5 ?_ ?_|intro ex)<;>try conv=>whnf)
 all_goals first
  |exact A0 rfl (congrArg AV.i (by rw[←hI.hit lU (by rw[RM h];exact h),RM h]))
  |exact A0 rfl (congrArg AV.i (by have e:=Vz (by assumption) (by assumption) lU h;rw[←hI.hit (by assumption) (by rw[e];decide),e]))
  |exact⟨k+1,hI.step (by assumption) (Zy (by assumption) (by assumption) lU h),by omega,A6 h0⟩
  |exact⟨k+1,hI.step lU (ee (by assumption) (by assumption)),by omega,A6 h0⟩
  |exact A0 rfl (congrArg AV.i (hI.done (by assumption)).symm)
def rK(s:A4)(column fr v to:Int):List Nat→Int→Int×Bool
 |[],out=>(out,true)
 |x::r,out=>if G2 s column fr x=v then (if 0≤out∧G2 s column to x≠out then (0,false)else rK s column fr v to r (G2 s column to x))else rK s column fr v to r out
def Np(s:A4)(column fr v to:Int):Int×Bool :=
 if w9 s column fr v=false∨to<0∨B7 s column<to then (0,false)else
  if (C0 s column).kind=2 then rK s column fr v to (F9 s column) (-1)else if to=0 then (0,true)else if 0<fr∧v=(-1099511627776)then ((-1099511627776),true)else if fr=0∧(C0 s column).opt=true then (0,false)else
   if G2 s column to (M9 (C0 s column) fr v).1=G2 s column to (M9 (C0 s column) fr v).2.1 then (G2 s column to (M9 (C0 s column) fr v).1,true)else (0,false)
theorem gN{s:A4}{column level v:Int}(h:w9 s column level v=true):0≤level∧level≤B7 s column:=by
 unfold w9 at h
 split at h
 ·assumption
 ·cases h
theorem Xx(s:A4)(column fr v to:Int):A3 Tryz.prog 122 [sA s,.i column,.i fr,.i v,.i to] (JL (Np s column fr v to)):=by
 have ni:=Lv s column fr v
 have lr:=T7 s column
 have mm:=W7 to 0 (B7 s column)
 have yd:=gN (s:=s) (column:=column) (level:=fr) (v:=v)
 unfold Np
 generalize w9 s column fr v=cb at *
 refine B6 Tryz.func122 116 fun lW E h0=>?_
 clear lW
 repeat'((first|refine A1 ni ?_|refine A1 lr ?_|refine A1 mm ?_ |refine S2 ?_|(refine T6 ?_ ?_<;>intro h<;>try exact V1 h)|intro el lU lV|intro el lU|exact T4|refine T5 ?_ ?_|intro ex)<;>try conv=>whnf)
 all_goals first
  |exact I0 (a:=.i _) (b:=.b _) rfl rfl (by rw[if_pos (.inl (by assumption))])
  |exact I0 (a:=.i _) (b:=.b _) rfl rfl (by rw[if_pos (.inr (by omega))])
  |skip
 have uy:cb=true:=by assumption
 obtain⟨hf1,hf2⟩:=yd uy
 obtain⟨hr,h1,h2,h4⟩:=BZ (s:=s) (column:=column) (level:=fr) (by omega) (by omega)
 rw[if_neg (fun hx=>by rcases hx with hx|hx<;>first|omega|(rw[uy]at hx;cases hx))]
 have hto:0≤to∧to≤B7 s column:=by omega
 clear ni lr mm yd
 obtain⟨c,hc⟩:∃c,s.cols[column.toNat]?=some c:=⟨_,List.getElem?_eq_getElem (by omega)⟩
 have lm:=C1 hc
 have nA:=o0 hr h1 hc
 rw[E5,if_neg (by omega),lm]at h4
 rw[lm]
 have nz:c.kind=2→A3 Tryz.prog 138 [sA s,.i column] (.sl 1 ((F9 s column).map iA)):=fun h5=>Af s column (by omega) hc (by omega)
 have lX:c.kind=2→(F9 s column).length≤60:=fun h5=>by
  have:=AH (C2 s c).1 (C2 s c).2 (C4 (C2 s c).1 (C2 s c).2-1)
  obtain⟨l,mZ⟩:∃l,s.lists[c.lst.toNat]?=some l:=⟨_,List.getElem?_eq_getElem (by omega)⟩
  have vw:=(I1 ((D5 hr).2.2.1 l (List.mem_of_getElem? mZ))).2.2
  rw[F9,lm]
  rw[H8 mZ]at this ⊢
  omega
 have qK:¬c.kind=2→A3 Tryz.prog 139 [S9 c,.i fr,.i v] (XX (M9 c fr v)):=fun h5=>by
  have h9:M7 s c=c.widths.length:=by unfold M7;rw[if_neg h5]
  have hk:=(Y8 ((D5 hr).2.2.2.1 _ c hc)).2.2.1
  exact Ho c fr v (z6 hk (by omega)) (by omega) (by omega)
 have oe:=fun lv x:Int=>w8 s column lv x
 clear nA h4
 generalize F9 s column=L at *
 generalize M9 c fr v=bl at *
 repeat'((first|(refine A2 (x:=c) hc (by omega) ?_)|refine A1 (nz (by assumption)) ?_|refine A1 (qK (by assumption)) ?_|refine A1 (oe _ _) ?_|(refine B3 ?_ ?_;kernel_rfl) |refine S2 ?_|(refine T6 ?_ ?_<;>intro h<;>try exact V1 h)|intro el lU lV|intro el lU|exact T4|refine T5 ?_ ?_|intro ex)<;>try conv=>whnf)
 all_goals first
  |exact I0 (a:=.i _) (b:=.b _) rfl rfl (by rw[if_neg (by assumption),if_pos (by assumption)])
  |exact I0 (a:=.i _) (b:=.b _) rfl rfl (by rw[if_neg (by assumption),if_neg (by assumption),if_pos (by omega)])
  |exact I0 (a:=.i _) (b:=.b _) rfl rfl (by rw[if_neg (by assumption),if_neg (by assumption),if_neg (by omega),if_pos ⟨by assumption,by assumption⟩])
  |exact I0 (a:=.i _) (b:=.b _) rfl rfl (by rw[if_neg (by assumption),if_neg (by assumption),if_neg (by omega),if_neg (fun hx=>by first|exact absurd hx.1 (by assumption)|(have h9:=hx.2;simp[*]at h9)),if_neg (by assumption)])
  |exact I0 (a:=.i _) (b:=.b _) rfl rfl (by rw[if_neg (by assumption),if_neg (by assumption),if_neg (by omega),if_neg (fun hx=>by first|exact absurd hx.1 (by assumption)|(have h9:=hx.2;simp[*]at h9)),if_pos (Classical.byContradiction (by assumption))])
  |skip
 rw[if_pos (by assumption)]
 have lX:=lX (by assumption)
 refine B0 (ι:=Nat×Int) (fun x=>⟨[(1,.i column),(2,.i fr),(3,.i v),(4,.i to),(5,.ref 0 0),(13,.sl 1 (L.map iA)),(14,.i x.2),(15,.i x.1)],1,[(0,some (.box (sL s)))]⟩) (fun x=>x.1≤L.length∧rK s column fr v to L (-1)=rK s column fr v to (L.drop x.1) x.2) (fun x=>L.length-x.1) (0,-1) ⟨Nat.zero_le _,rfl⟩ (A6 h0) (fun x hI=>?_)
 obtain⟨k,out⟩:=x
 obtain⟨hk,hI⟩:=hI
 dsimp only at hk hI ⊢
 repeat'((first|refine A1 (oe _ _) ?_|(refine B3 ?_ ?_;kernel_rfl) |refine S2 ?_|(refine T6 ?_ ?_<;>intro h<;>try exact V1 h)|intro el lU lV|intro el lU|exact T4|refine T5 ?_ ?_|intro ex)<;>try conv=>whnf)
 all_goals first
  |exact⟨(k+1,out),⟨by dsimp only;omega,by rw[hI,G3 lU,rK,if_neg (by assumption)]⟩,by dsimp only;omega,A6 h0⟩
  |exact⟨(k+1,G2 s column to el),⟨by dsimp only;omega,by rw[hI,G3 lU,rK,if_pos (Classical.byContradiction (by assumption)),if_neg (fun hx=>by first|exact absurd hx.2 (by assumption)|omega)]⟩,by dsimp only;omega,A6 h0⟩
  |exact I0 (a:=.i _) (b:=.b _) rfl rfl (by rw[hI,G3 lU,rK,if_pos (Classical.byContradiction (by assumption)),if_pos ⟨by assumption,by assumption⟩])
  |exact I0 (a:=.i _) (b:=.b _) rfl rfl (by rw[hI,S6 (by assumption)];rfl)
def kT(p:Int×Bool):Int×Bool:=if p.2=true then (p.1,true)else (0,false)
theorem Hq{s:A4}{column fr v to:Int}{nm:List UInt8}{cs:List Code}:∀(L:List Nat) (out qJ:Int) (sm:Bool),(∀x∈L,G2 s column fr x=L2 nm cs x fr∧G2 s column to x=L2 nm cs x to∧0≤L2 nm cs x to) →
  ((sm=true∧0≤out∧qJ=out)∨(sm=false∧qJ=-1∧L.any (fun x=>decide (G2 s column fr x=v))=true))→rK s column fr v to L qJ=kT (AG nm cs fr v to L out sm)
 |[],out,qJ,sm,_,h=>by
  rcases h with ⟨rfl,h1,rfl⟩|⟨_,_,h⟩
  ·rfl
  ·cases h
 |x::r,out,qJ,sm,mA,h=>by
  obtain⟨e1,e2,e3⟩:=mA x (by simp)
  have rO:=fun y (hy:y∈r)=>mA y (by simp[hy])
  unfold rK AG
  rw[e1,e2]
  by_cases hx:L2 nm cs x fr=v
  ·rw[if_pos hx,if_pos hx]
   rcases h with ⟨rfl,h1,rfl⟩|⟨rfl,rfl,_⟩
   ·by_cases hne:L2 nm cs x to≠qJ
    ·rw[if_pos ⟨h1,hne⟩,if_pos ⟨rfl,hne⟩];rfl
    ·rw[if_neg (fun h=>hne h.2),if_neg (fun h=>hne h.2)]
     exact Hq r _ _ true rO (.inl ⟨rfl,e3,rfl⟩)
   ·rw[if_neg (by omega),if_neg (by simp)]
    exact Hq r _ _ true rO (.inl ⟨rfl,e3,rfl⟩)
  ·rw[if_neg hx,if_neg hx]
   refine Hq r out qJ sm rO ?_
   rcases h with h|⟨h1,h2,h3⟩
   ·exact .inl h
   ·refine .inr ⟨h1,h2,?_⟩
    rw[List.any_cons,e1,decide_eq_false hx,Bool.false_or]at h3
    exact h3
theorem Nq{s:A4}{column fr v to:Int}{nm:List UInt8}{cs:List Code}:∀(L:List Nat) (out:Int),(∀x∈L,G2 s column fr x=L2 nm cs x fr)→L.any (fun x=>decide (G2 s column fr x=v))=false→AG nm cs fr v to L out false=(out,false)
 |[],out,_,_=>rfl
 |x::r,out,mA,h=>by
  rw[List.any_cons,Bool.or_eq_false_iff,mA x (by simp),decide_eq_false_iff_not]at h
  unfold AG
  rw[if_neg h.1]
  exact Nq r out (fun y hy=>mA y (by simp[hy])) h.2
theorem Nr{c:D4}{level v:Int}(hc:meaE c=0)(h1:0≤level)(h2:level≤c.widths.length)(hm:¬(0<level∧v=(-1099511627776))):
  (M0 c level v).2.2=(M9 c level v).2.2∧((M9 c level v).2.2=true→(M0 c level v).1=(M9 c level v).1∧(M0 c level v).2.1=(M9 c level v).2.1∧c.low≤(M9 c level v).1∧(M9 c level v).1≤(M9 c level v).2.1∧(M9 c level v).2.1≤c.high):=by
 have hp:=T0 hc
 unfold M0 M9
 by_cases h0:level=0
 ·rw[if_pos h0,if_pos h0]
  exact⟨rfl,fun _=>⟨rfl,rfl,by dsimp only;omega,by dsimp only;omega,by dsimp only;omega⟩⟩
 ·rw[if_neg h0,if_neg h0]
  have oK:=a7 hp.2.2.2.2.2 (level:=level) (by omega) h2
  have ht:=JP (v:=v) oK.1
  generalize A7 c level=w at *
  by_cases h3:v < -2000000∨1000000<v
  ·rw[if_pos h3]
   by_cases h4:v=(-1099511627776)∨¬(-2000000≤v∧v≤2000000)∨v.tmod w≠0
   ·rw[if_pos h4];exact⟨rfl,fun h=>by cases h⟩
   ·rw[if_neg h4]
    have:¬max c.low v≤min c.high (v+w-1):=by omega
    rw[decide_eq_false this]
    exact⟨rfl,fun h=>by cases h⟩
  ·rw[if_neg h3]
   by_cases h4:C5 v w=v
   ·rw[if_neg (by have:=ht.2 h4;omega),decide_eq_true h4]
    have e1:max v c.low=max c.low v:=by omega
    have e2:min (v+w-1) c.high=min c.high (v+w-1):=by omega
    rw[e1,e2]
    dsimp only
    rw[Bool.true_and]
    refine⟨by first|rfl|trivial,fun h=>?_⟩
    have h:=of_decide_eq_true h
    (repeat' constructor)<;>first|rfl|omega
   ·rw[if_pos (.inr (.inr (fun h=>h4 (ht.1 h)))),decide_eq_false h4]
    exact⟨rfl,fun h=>by cases h⟩
theorem dM(s:A4)(column fr v to:Int):Np s column fr v to=NY s column fr v to:=by
 unfold Np NY
 by_cases hr:C3 s=0
 ·have so:B7 s column=E5 s column:=by rw[B7,if_pos hr]
  rw[if_pos hr]
  unfold T8
  by_cases hb:fr<0∨E5 s column<fr∨to<0∨E5 s column<to
  ·rw[if_pos hb]
   have:w9 s column fr v=false∨to<0∨B7 s column<to:=by
    rw[so]
    by_cases h1:to<0∨E5 s column<to
    ·exact .inr h1
    ·left
     rw[w9,if_neg (by omega)]
   rw[if_pos this]
  ·rw[if_neg hb]
   obtain⟨_,h1,h2,h4⟩:=BZ (s:=s) (column:=column) (level:=fr) (by omega) (by omega)
   obtain⟨c,hc⟩:∃c,s.cols[column.toNat]?=some c:=⟨_,List.getElem?_eq_getElem (by omega)⟩
   have lm:=C1 hc
   have nA:=o0 hr h1 hc
   have ni:w9 s column fr v=if c.kind=2 then (F9 s column).any (fun x=>decide (G2 s column fr x=v))else if 0<fr∧v=(-1099511627776)then c.opt else (M9 c fr v).2.2:=by
    rw[w9,if_pos (by omega),lm]
   rw[lm]
   by_cases hk:c.kind=2
   ·rw[if_pos hk]at ni
    rw[if_pos hk,if_pos hk]
    have mA:∀x∈F9 s column,G2 s column fr x=L2 (C2 s c).1 (C2 s c).2 x fr∧G2 s column to x=L2 (C2 s c).1 (C2 s c).2 x to∧0≤L2 (C2 s c).1 (C2 s c).2 x to:=fun x hx =>
     ⟨(FM hr h1 hc hk (by omega) (by omega) hx).1,FM hr h1 hc hk (by omega) (by omega) hx⟩
    have nz:F9 s column=K3 (C2 s c).1 (C2 s c).2 (C4 (C2 s c).1 (C2 s c).2-1):=by rw[F9,lm]
    unfold Dv
    rw[←nz]
    cases uy:w9 s column fr v with
    |false =>
     rw[if_pos (.inl rfl),Nq (s:=s) (column:=column) _ _ (fun x hx=>(mA x hx).1) (ni▸uy)]
     rfl
    |true =>
     rw[if_neg (fun hx=>by rcases hx with hx|hx;cases hx;omega)]
     exact Hq _ 0 (-1) false mA (.inr ⟨rfl,rfl,ni▸uy⟩)
   ·rw[if_neg hk]at ni
    have hm:meaE c=0:=z6 (Y8 ((D5 hr).2.2.2.1 _ c hc)).2.2.1 (by omega)
    have hp:=T0 hm
    have h9:E5 s column=c.widths.length:=by rw[E5,if_neg (by omega),lm,M7,if_neg hk]
    rw[if_neg hk,if_neg hk]
    unfold Ba
    by_cases hx:0<fr∧v=(-1099511627776)
    ·rw[if_pos hx]at ni ⊢
     rw[if_pos hx]
     cases ho:c.opt with
     |false =>
      rw[ni,ho,if_pos (.inl rfl)]
      split<;>rfl
     |true =>
      rw[ni,ho,if_neg (fun hx=>by rcases hx with hx|hx;cases hx;omega)]
      by_cases ht:to=0
      ·rw[if_pos ht,if_pos ht];rfl
      ·rw[if_neg ht,if_neg ht,hx.2];rfl
    ·rw[if_neg hx]at ni ⊢
     rw[if_neg hx]
     obtain⟨e1,e2⟩:=Nr (v:=v) hm (level:=fr) (by omega) (by omega) hx
     cases hb:(M9 c fr v).2.2 with
     |false =>
      rw[ni,hb,if_pos (.inl rfl),e1,hb,if_pos rfl];rfl
     |true =>
      obtain⟨e3,e4,e5,e6,e7⟩:=e2 hb
      rw[ni,hb,if_neg (fun hx=>by rcases hx with hx|hx;cases hx;omega),e1,hb,if_neg (show ¬(true=false) by decide)]
      by_cases ht:to=0
      ·rw[if_pos ht,if_pos ht];rfl
      ·rw[if_neg ht,if_neg ht]
       by_cases hf:fr=0∧c.opt=true
       ·rw[if_pos hf,if_pos hf];rfl
       ·rw[if_neg hf,if_neg hf,e3,e4]
        have oe:∀x,c.low≤x→x≤c.high→G2 s column to x=C5 x (A7 c to):=fun x h5 h6=>by
         rw[G2,if_neg (by omega),lm,O9,if_neg hk,if_neg (by omega),if_neg ht,if_neg (by omega)]
        rw[oe _ e5 (by omega),oe _ (by omega) e7]
        by_cases hd:C5 (M9 c fr v).1 (A7 c to)=C5 (M9 c fr v).2.1 (A7 c to)
        ·rw[if_pos hd,decide_eq_true hd];rfl
        ·rw[if_neg hd,decide_eq_false hd];rfl
 ·rw[if_neg hr,if_pos]
  left
  have:B7 s column=-1:=by rw[B7,if_neg hr]
  rw[w9,if_neg (by omega)]
theorem Xy(p:Pk)(column:Int):A3 Tryz.prog 111 [QB p,.iptr [.i column]] (.b (decide (p.col=column))):=by
 refine B6 Tryz.func111 8 fun lW E h0=>?_
 clear lW
 repeat'((first|(refine B3 ?_ ?_;kernel_rfl) |refine S2 ?_|(refine T6 ?_ ?_<;>intro h<;>try exact V1 h)|intro el lU lV|intro el lU|exact T4|refine T5 ?_ ?_|intro ex)<;>try conv=>whnf)
 all_goals first
  |exact A0 rfl rfl
theorem WL{s:A4}{column level:Int}:∀{pv:List (Pk×Int)} {picks:List Pk} {k:Int},pv.map (·.1)=picks→F4 (fun p:Pk=>decide (p.col=column)) picks k<0→0≤k→Q0 s column level pv=T8 s column 0 0 level
 |[],_,_,_,_,_=>rfl
 |(p,v)::r,_,k,h,hi,hk=>by
  subst h
  rw[List.map_cons,F4]at hi
  by_cases hp:p.col=column
  ·rw[if_pos (by simpa using hp)]at hi;omega
  ·rw[if_neg (by simpa using hp)]at hi
   rw[Q0,if_neg hp]
   exact WL rfl hi (by omega)
theorem WM{s:A4}{column level:Int}:∀{pv:List (Pk×Int)} {picks:List Pk} {k j:Int},pv.map (·.1)=picks→F4 (fun p:Pk=>decide (p.col=column)) picks k=j→0≤k→0≤j→∃p v,k≤j∧pv[(j-k).toNat]?=some (p,v)∧Q0 s column level pv=T8 s column p.lev v level
 |[],_,k,j,h,hi,hk,hj=>by subst h;simp[F4]at hi;omega
 |(p,v)::r,_,k,j,h,hi,hk,hj=>by
  subst h
  rw[List.map_cons,F4]at hi
  by_cases hp:p.col=column
  ·rw[if_pos (by simpa using hp)]at hi
   refine⟨p,v,by omega,by rw[show (j-k).toNat=0 by omega];rfl,by rw[Q0,if_pos hp]⟩
  ·rw[if_neg (by simpa using hp)]at hi
   obtain⟨p2,v2,h1,h2,h3⟩:=WM (s:=s) (column:=column) (level:=level) (pv:=r) rfl hi (by omega) hj
   exact⟨p2,v2,by omega,by rw[show (j-k).toNat=(j-(k+1)).toNat+1 by omega];exact h2,by rw[Q0,if_neg hp];exact h3⟩
theorem gO{picks:List Pk}{row:List Int}(h:row.length=picks.length+1):(picks.zip row.tail).map (·.1)=picks:=by
 rw[List.map_fst_zip]
 rw[List.length_tail];omega
theorem TW{picks:List Pk}{row:List Int}{k:Nat}{p:Pk}{v:Int}(h:(picks.zip row.tail)[k]?=some (p,v)):picks[k]?=some p∧row[k+1]?=some v:=by
 rw[List.getElem?_zip_eq_some]at h
 refine⟨h.1,?_⟩
 cases row with
 |nil=>simp at h
 |cons a r=>simpa using h.2
theorem DF(s:A4)(hr:C3 s=0)(x:N5)(k:Nat)(r:List Int)(hk:x.rows[k]?=some r)(hl:r.length=x.picks.length+1)(nY:x.picks.length≤1000)(column level:Int):A3 Tryz.prog 50 [sA s,c9 x,.i k,.i column,.i level] (JL (Q0 s column level (x.picks.zip r.tail))):=by
 have mh:=Zz x.picks 111 [.iptr [.i column]] (fun p=>decide (p.col=column)) (fun p _=>Xy p column)
 have vj:=gO hl
 have oM:=Ob (fun p:Pk=>decide (p.col=column)) x.picks 0
 obtain⟨pr,ver,picks,rows⟩:=x
 dsimp only at *
 generalize hj:F4 (fun p:Pk=>decide (p.col=column)) picks 0=j at *
 by_cases ql:j<0
 ·have hT:=Ky s column 0 0 level hr
  rw[←WL (s:=s) (level:=level) vj (by rw[hj];exact ql) (Int.le_refl _)]at hT
  refine B6 Tryz.func50 46 fun lW E h0=>?_
  clear lW
  repeat'((first|refine A1 mh ?_|refine A1 hT ?_|refine J1 2 ?_ |refine S2 ?_|(refine T6 ?_ ?_<;>intro h<;>try exact V1 h)|intro el lU lV|intro el lU|exact T4|refine T5 ?_ ?_|intro ex)<;>try conv=>whnf)
  all_goals first
   |(exfalso;omega)
   |exact I0 rfl rfl rfl
 ·obtain⟨p,v,_,h2,h3⟩:=WM (s:=s) (level:=level) vj hj (Int.le_refl _) (by omega)
  rw[Int.sub_zero]at h2
  obtain⟨hp,hv⟩:=TW h2
  have hT:=Ky s column p.lev v level hr
  rw[←h3]at hT
  have ol:r[(j+1).toNat]?=some v:=by rw[show (j+1).toNat=j.toNat+1 by omega];exact hv
  have lY:=F5 hp
  have lg:rows[((k:Int)).toNat]?=some r:=hk
  have lk:=F5 hk
  refine B6 Tryz.func50 46 fun lW E h0=>?_
  clear lW
  repeat'((first|(refine A2 (x:=p) hp (by omega) ?_)|(refine A2 (x:=v) ol (by omega) ?_)|(refine A2 (x:=r) lg (by omega) ?_)|refine A1 mh ?_|refine A1 hT ?_|refine J1 2 ?_|(refine B3 ?_ ?_;kernel_rfl) |refine S2 ?_|(refine T6 ?_ ?_<;>intro h<;>try exact V1 h)|intro el lU lV|intro el lU|exact T4|refine T5 ?_ ?_|intro ex)<;>try conv=>whnf)
  all_goals first
   |(exfalso;omega)
   |exact I0 rfl rfl rfl
end Go.Proofs.YtiphlhoclaogjaaGreatDoor
