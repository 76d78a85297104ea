/- Chapter 16: expressions and statements. Chapter 16: which expressions are right: the program's parts. Chapter 16: the program's check of expressions and programs. -/
import Derived.Test.YtiphlhoclaogjaaGreatDoorRCe1
import Derived.Test.YtiphlhoclaogjaaGreatDoorRC1
set_option linter.unusedVariables false
set_option linter.unnecessarySimpa false
set_option linter.unusedSimpArgs false
set_option maxHeartbeats 64000000
namespace Go.Proofs.YtiphlhoclaogjaaGreatDoor
open Go Go.Av
attribute [local irreducible] C9 B3 C7 D1 DQ D0 C6 St.le A3 B7
set_option maxRecDepth 100000
inductive F6 where
 |mk (op num:Int) (name:List UInt8) (col:Int) (cols:List Int) (dims:List Pk) (cnd evt:B6) (kids:List F6)
def F6.op:F6→Int|.mk o _ _ _ _ _ _ _ _=>o
def F6.num:F6→Int|.mk _ n _ _ _ _ _ _ _=>n
def F6.name:F6→List UInt8|.mk _ _ nm _ _ _ _ _ _=>nm
def F6.col:F6→Int|.mk _ _ _ c _ _ _ _ _=>c
def F6.cols:F6→List Int|.mk _ _ _ _ cs _ _ _ _=>cs
def F6.dims:F6→List Pk|.mk _ _ _ _ _ ds _ _ _=>ds
def F6.cnd:F6→B6|.mk _ _ _ _ _ _ c _ _=>c
def F6.evt:F6→B6|.mk _ _ _ _ _ _ _ v _=>v
def F6.kids:F6→List F6|.mk _ _ _ _ _ _ _ _ ks=>ks
mutual
def Ot:F6→List AV
 |.mk o n nm c cs ds cd ev ks=>[.i o,.i n,.str nm,.i c,.sl 1 (cs.map wA),.sl 2 (ds.map A8),.i cd.op,.i cd.col,.i cd.code,.i cd.lo,.i cd.hi,.sl 6 (cd.kids.map P9),.i ev.op,.i ev.col,.i ev.code,.i ev.lo,.i ev.hi,.sl 6 (ev.kids.map P9),.sl 19 (RN ks)]
def RN:List F6→List (List AV)
 |[]=>[]
 |x::r=>Ot x::RN r
end
theorem Ti:∀ks,RN ks=ks.map Ot
 |[]=>rfl
 |x::r=>by rw[RN,Ti r];rfl
def Bv(e:F6):List AV:=[.i e.op,.i e.num,.str e.name,.i e.col,.sl 1 (e.cols.map wA),.sl 2 (e.dims.map A8),.i e.cnd.op,.i e.cnd.col,.i e.cnd.code,.i e.cnd.lo,.i e.cnd.hi,.sl 6 (e.cnd.kids.map P9),.i e.evt.op,.i e.evt.col,.i e.evt.code,.i e.evt.lo,.i e.evt.hi,.sl 6 (e.evt.kids.map P9),.sl 19 (e.kids.map Ot)]
theorem gk(e:F6):Ot e=Bv e:=by
 cases e
 rw[Ot,Ti];rfl
theorem gl(ks:List F6):ks.map Ot=ks.map Bv:=List.map_congr_left fun e _=>gk e
abbrev u9(e:F6):AV:=.agg (Bv e)
abbrev Au(e:F6):List AV:=[.i e.op,.i e.num,.str e.name,.i e.col,.sl 1 (e.cols.map wA),.sl 2 (e.dims.map A8),.i e.cnd.op,.i e.cnd.col,.i e.cnd.code,.i e.cnd.lo,.i e.cnd.hi,.sl 6 (e.cnd.kids.map P9),.i e.evt.op,.i e.evt.col,.i e.evt.code,.i e.evt.lo,.i e.evt.hi,.sl 6 (e.evt.kids.map P9),.sl 19 (e.kids.map Bv)]
theorem kG(e:F6):Bv e=Au e:=by unfold Bv;rw[gl]
theorem CN(e:F6):u9 e=.agg (Au e):=by rw[u9,kG]
theorem VC{e k:F6}(h:k∈e.kids):SizeOf.sizeOf k<SizeOf.sizeOf e:=by
 cases e with
 |mk o n nm c cs ds cd ev ks =>
  have:=List.sizeOf_lt_of_mem (show _∈ks from h)
  simp only[F6.mk.sizeOf_spec]
  omega
theorem Gr{p:F6→Prop}(h:∀e,(∀k∈e.kids,p k)→p e)(e:F6):p e :=
 h e fun k _=>Gr h k
termination_by SizeOf.sizeOf e
decreasing_by exact VC (by assumption)
mutual
def YG:F6→B6
 |.mk _ _ _ _ _ _ _ _ ks=>.mk 0 0 0 0 0 (ab ks)
def ab:List F6→List B6
 |[]=>[]
 |x::r=>YG x::ab r
end
structure mF where
 name:List UInt8
 out:Bool
 x:F6
abbrev Q8(c:B6):Prop:=c.op=0∧c.col=0∧c.code=0∧c.lo=0∧c.hi=0∧c.kids.length=0
abbrev Ec(op:Int):Prop:=op=1∨op=13
abbrev Cq(op:Int):Prop:=op=2
abbrev j6(op:Int):Prop:=4≤op∧op≤5∨10≤op∧op≤14
abbrev Cr(op:Int):Prop:=op=11
abbrev Cs(op:Int):Prop:=op=10
abbrev o6(op:Int):Prop:=3≤op∧op≤5∨10≤op∧op≤14
abbrev o7(op:Int):Prop:=op=12
abbrev RO(op:Int):List AV:=[.b (decide (Ec op)),.b (decide (Cq op)),.b (decide (j6 op)),.b (decide (Cr op)),.b (decide (Cs op)),.b (decide (o6 op)),.b (decide (o7 op))]
abbrev P2(op:Int):Prop:=6≤op∧op≤9
abbrev FN(e:F6):Prop:=(Ec e.op∨e.num=0)∧(Cq e.op∨e.name.length=0)∧(j6 e.op∨e.col=0)∧(Cr e.op∨e.cols.length=0)∧(Cs e.op∨e.dims.length=0)∧(o6 e.op∨Q8 e.cnd)∧(o7 e.op∨Q8 e.evt)∧(P2 e.op∨e.kids.length=0)
def W0(s:A4)(l:List Pk)(i:Nat)(d:Pk):Int:=if N3 s d≠0 then N3 s d else if (B8 s d.col).kind≠2 then 7 else if ((l.take i).any fun x=>decide (x.col=d.col))=true then 10 else 0
def Q2(s:A4)(l:List Pk):Int:=if l.length<1∨3<l.length then 1 else F4 (W0 s l) 0 l
def X6(s:A4)(m:Int)(l:List Int)(i:Nat)(c:Int):Int:=if Q5 s c 3=false then 7 else if c=m∨((l.take i).any fun x=>decide (x=c))=true then 10 else 0
def W8(s:A4)(m:Int)(l:List Int):Int:=if l.length<1∨3<l.length then 1 else F4 (X6 s m l) 0 l
def DR(s:A4)(e:F6):Bool :=
 if e.op=1 then decide (-1099511627776≤e.num∧e.num≤1099511627776)else if e.op=2 then D6 e.name
 else if e.op=4∨e.op=5∨e.op=14 then Q5 s e.col 3
 else if e.op=10 then decide (Q2 s e.dims=0) && (decide (e.col=-1) || Q5 s e.col 3)
 else if e.op=11 then Q5 s e.col 3 && decide (W8 s e.col e.cols=0)
 else if e.op=12 then Q5 s e.col 3 && decide (0≤(B8 s e.col).low)
 else if e.op=13 then Q5 s e.col 3 && (B8 s e.col).widths.any fun x=>decide (x=e.num)
 else true
def JV(s:A4)(e:F6):Bool:=decide (1≤e.op∧e.op≤14) && decide (FN e) && DR s e && (decide (¬o6 e.op) || decide (J6 s e.cnd=0)) && (decide (¬o7 e.op) || decide (J6 s e.evt=0)) && (decide (¬P2 e.op) || decide (e.kids.length=2))
abbrev Ou(op:Int):Prop:=1≤op∧op≤9
mutual
def Aw(s:A4):F6→Bool
 |.mk o n nm c cs ds cd ev ks=>JV s (.mk o n nm c cs ds cd ev ks) && !(YH s ks)
def YH(s:A4):List F6→Bool
 |[]=>false
 |x::r=>(!decide (Ou x.op) || !Aw s x) || YH s r
end
abbrev DS(s:A4)(k:F6):Bool:=!decide (Ou k.op) || !Aw s k
theorem WR(s:A4):∀l,YH s l=l.any (DS s)
 |[]=>rfl
 |x::r=>by rw[YH,WR s r];rfl
theorem DT(s:A4)(e:F6):Aw s e=(JV s e && !(e.kids.any (DS s))):=by
 cases e
 rw[Aw,WR];rfl
def W2(s:A4)(e:F6):Bool:=decide (C3 s=0) && Aw s e
mutual
def kH(g:List UInt8→Bool):F6→Bool
 |.mk o n nm c cs ds cd ev ks=>!(decide (o=2) && !g nm) && !(kI g ks)
def kI(g:List UInt8→Bool):List F6→Bool
 |[]=>false
 |x::r=>(!kH g x) || kI g r
end
theorem Nl(c:B6):A3 Tryz.prog 229 [D5 c] (.b (decide (Q8 c))):=by
 rw[F8]
 refine B5 Tryz.func229 32 fun mK E h0=>?_
 clear mK
 repeat'((first|refine S2 ?_|(refine T6 ?_ ?_<;>intro h<;>try exact V1 h)|intro el mI mJ|intro el mI|exact T4|refine T5 ?_ ?_|intro ex)<;>try conv=>whnf)
 all_goals first
  |exact A1 rfl (congrArg AV.b (by rw[decide_eq_true (by omega)]))
  |exact A1 rfl (congrArg AV.b (by rw[decide_eq_false (by omega)]))
  |exact A1 rfl (congrArg AV.b (by rw[decide_eq_decide];omega))
theorem QU(s:A4)(col:Int):A3 Tryz.prog 230 [sA s,.i col] (.b (Q5 s col 3)):=by
 refine B5 Tryz.func230 23 fun mK E h0=>?_
 clear mK
 repeat'((first|(refine B0 ?_ ?_;kernel_rfl) |refine S2 ?_|(refine T6 ?_ ?_<;>intro h<;>try exact V1 h)|intro el mI mJ|intro el mI|exact T4|refine T5 ?_ ?_|intro ex)<;>try conv=>whnf)
 all_goals first
  |exact A1 rfl (congrArg AV.b (by unfold Q5;rw[decide_eq_false (by omega)]))
  |exact A1 rfl (congrArg AV.b (by unfold Q5;rw[decide_eq_decide,C1 mI];omega))
theorem Qp(op:Int):A3 Tryz.prog 211 [.i op] (.b (decide (Ou op))):=by
 refine B5 Tryz.func211 9 fun mK E h0=>?_
 clear mK
 repeat'((first|refine S2 ?_|(refine T6 ?_ ?_<;>intro h<;>try exact V1 h)|intro el mI mJ|intro el mI|exact T4|refine T5 ?_ ?_|intro ex)<;>try conv=>whnf)
 all_goals first
  |exact A1 rfl (congrArg AV.b (by rw[decide_eq_true (by omega)]))
  |exact A1 rfl (congrArg AV.b (by rw[decide_eq_false (by omega)]))
  |exact A1 rfl (congrArg AV.b (by rw[decide_eq_decide];omega))
theorem Kx(op:Int):A3 Tryz.prog 208 [.i op] (.b (decide (P2 op))):=by
 refine B5 Tryz.func208 9 fun mK E h0=>?_
 clear mK
 repeat'((first|refine S2 ?_|(refine T6 ?_ ?_<;>intro h<;>try exact V1 h)|intro el mI mJ|intro el mI|exact T4|refine T5 ?_ ?_|intro ex)<;>try conv=>whnf)
 all_goals first
  |exact A1 rfl (congrArg AV.b (by rw[decide_eq_true (by omega)]))
  |exact A1 rfl (congrArg AV.b (by rw[decide_eq_false (by omega)]))
  |exact A1 rfl (congrArg AV.b (by rw[decide_eq_decide];omega))
theorem gn{op:Int}(h:¬(1≤op∧op≤14)):(AV.tup [.agg (RO op),.b (decide (1≤op∧op≤14))])=.tup [.agg [.b false,.b false,.b false,.b false,.b false,.b false,.b false],.b false]:=by
 unfold RO
 rw[decide_eq_false (by omega),decide_eq_false (by omega),decide_eq_false (by omega),decide_eq_false (by omega),decide_eq_false (by omega),decide_eq_false (by omega),decide_eq_false (by omega),decide_eq_false (by omega)]
theorem VD(op:Int):A3 Tryz.prog 205 [.i op] (.tup [.agg (RO op),.b (decide (1≤op∧op≤14))]):=by
 refine B5 Tryz.func205 38 fun mK E h0=>?_
 clear mK
 repeat'((first|refine S2 ?_|(refine T6 ?_ ?_<;>intro h<;>try exact V1 h)|intro el mI mJ|intro el mI|exact T4|refine T5 ?_ ?_|intro ex)<;>try conv=>whnf)
 all_goals first
  |(subst_vars;exact S8 rfl rfl rfl (.refl _) rfl (.refl _) rfl)
  |(rw[gn (by omega)];exact S8 rfl rfl rfl (.refl _) rfl (.refl _) rfl)
theorem Tj(e:F6):A3 Tryz.prog 206 [u9 e,.agg (RO e.op)] (.b (decide (FN e))):=by
 have h1:=Nl e.cnd
 have h2:=Nl e.evt
 have h3:=Kx e.op
 rw[CN]
 refine B5 Tryz.func206 79 fun mK E h0=>?_
 clear mK
 repeat'((first|refine A0 h1 ?_|refine A0 h2 ?_|refine A0 h3 ?_ |refine S2 ?_|(refine T6 ?_ ?_<;>intro h<;>try exact V1 h)|intro el mI mJ|intro el mI|exact T4|refine T5 ?_ ?_|intro ex)<;>try conv=>whnf)
 all_goals first
  |exact A1 rfl (congrArg AV.b (decide_eq_true (by (clear h1 h2 h3;simp only[Ec,Cq,j6,Cr,Cs,o6,o7,P2,FN,Q8,←List.length_eq_zero_iff]at *;omega))).symm)
  |exact A1 rfl (congrArg AV.b (decide_eq_false (by (clear h1 h2 h3;simp only[Ec,Cq,j6,Cr,Cs,o6,o7,P2,FN,Q8,←List.length_eq_zero_iff]at *;omega))).symm)
  |exact A1 rfl (congrArg AV.b (by rw[decide_eq_decide];(clear h1 h2 h3;simp only[Ec,Cq,j6,Cr,Cs,o6,o7,P2,FN,Q8,←List.length_eq_zero_iff]at *;omega)))
theorem YI(x d:Pk):A3 Tryz.prog 243 [Pv x,.iptr (A8 d)] (.b (decide (x.col=d.col))):=by
 refine B5 Tryz.func243 9 fun mK E h0=>?_
 clear mK
 repeat'((first|(refine B0 ?_ ?_;kernel_rfl) |refine S2 ?_|(refine T6 ?_ ?_<;>intro h<;>try exact V1 h)|intro el mI mJ|intro el mI|exact T4|refine T5 ?_ ?_|intro ex)<;>try conv=>whnf)
 all_goals first
  |exact A1 rfl rfl
theorem Tk{s:A4}{p:Pk}(h:N3 s p=0):∃c,0≤p.col∧s.cols[p.col.toNat]?=some c:=by
 unfold N3 BZ E5 at h
 by_cases hc:p.col<1∨(s.cols.length:Int)≤p.col
 ·rw[if_pos hc]at h
  split at h
  ·rw[if_pos (show (-1:Int)<0 by omega)]at h
   omega
  ·exact absurd h (by assumption)
 ·exact⟨_,by omega,List.getElem?_eq_getElem (by omega)⟩
theorem dg{s:A4}{l:List Pk}(h:¬F4 (W0 s l) 0 l=0):¬Q2 s l=0:=by
 unfold Q2
 split
 ·omega
 ·exact h
theorem gp(l:List Pk)(k:Nat)(d:Pk):A3 Tryz.prog 103 [.sl 2 ((l.map A8).take k),.fn 243 [.iptr (A8 d)]] (.b ((l.take k).any fun x=>decide (x.col=d.col))):=by
 have h:=NQ (l.take k) 243 [.iptr (A8 d)] (fun x=>decide (x.col=d.col)) (fun x _=>YI x d)
 rw[List.map_take]at h
 exact h
theorem dh{s:A4}{l:List Pk}{k:Nat}(h:F2 (W0 s l) l k)(hk:¬(k:Int)<l.length):decide (1≤(l.length:Int)∧(l.length:Int)≤3)=decide (Q2 s l=0):=by
 unfold Q2
 rw[h.done hk,decide_eq_decide]
 split<;>omega
theorem ae(s:A4)(l:List Pk):A3 Tryz.prog 231 [sA s,.sl 2 (l.map A8)] (.b (decide (Q2 s l=0))):=by
 have hp:=fun d=>NO s d
 have nR:=fun k d=>gp l k d
 refine B5 Tryz.func231 42 fun mK E h0=>?_
 have mL:l.length≤9223372036854775807:=by
  have:=(mK (.sl 2 (l.map A8)) (by simp)).sl
  simpa using this
 clear mK
 repeat'((first|refine S2 ?_|(refine T6 ?_ ?_<;>intro h<;>try exact V1 h)|intro el mI mJ|intro el mI|exact T4|refine T5 ?_ ?_|intro ex)<;>try conv=>whnf)
 refine A9 (ι:=Nat) (fun k=>⟨[(1,.sl 2 (l.map A8)),(2,.ref 0 0),(7,.sl 2 (l.map A8)),(8,.i l.length),(9,.i k)],1,[(0,some (.box (sL s)))]⟩) (fun k=>F2 (W0 s l) l k) (fun k=>l.length-k) 0 (F2.zero _ _)
  (A6 h0) (fun k hI=>?_)
 have mT:=hI.1
 by_cases mM:k<l.length
 ·obtain⟨d,hd⟩:∃d,l[k]?=some d:=⟨_,List.getElem?_eq_getElem mM⟩
  have h1:=hp d
  have h2:=nR k d
  have mc:∀e:Int,W0 s l k d=e→¬e=0→false=decide (Q2 s l=0):=fun e h3 h4=>(decide_eq_false (dg (by rw[←hI.hit hd (by rw[h3];exact h4),h3];exact h4))).symm
  have ox:W0 s l k d=0→F2 (W0 s l) l (k+1):=fun h=>hI.step hd h
  unfold W0 at mc ox
  by_cases pN:N3 s d=0
  ·obtain⟨c,qM,hc⟩:=Tk pN
   rw[C1 hc]at mc ox
   rw[pN]at h1
   generalize ((l.take k).any fun x=>decide (x.col=d.col))=u at *
   repeat'((first|(refine A2 (x:=d) hd (by omega) ?_)|(refine A2 (x:=c) hc (by omega) ?_)|refine A0 h1 ?_|refine I4 1 ?_|refine A0 h2 ?_ |refine S2 ?_|(refine T6 ?_ ?_<;>intro h<;>try exact V1 h)|intro el mI mJ|intro el mI|exact T4|refine T5 ?_ ?_|intro ex)<;>try conv=>whnf)
   all_goals first
    |exact A1 rfl (congrArg AV.b (mc 7 (by rw[if_neg (by omega),if_pos (by assumption)]) (by omega)))
    |exact A1 rfl (congrArg AV.b (mc 10 (by rw[if_neg (by omega),if_neg (by assumption),if_pos (by assumption)]) (by omega)))
    |exact⟨k+1,ox (by rw[if_neg (by omega),if_neg (by assumption),if_neg (by simp[*])]),by omega,A6 h0⟩
    |(exfalso;omega)
  ·repeat'((first|(refine A2 (x:=d) hd (by omega) ?_)|refine A0 h1 ?_|refine I4 1 ?_|refine A0 h2 ?_ |refine S2 ?_|(refine T6 ?_ ?_<;>intro h<;>try exact V1 h)|intro el mI mJ|intro el mI|exact T4|refine T5 ?_ ?_|intro ex)<;>try conv=>whnf)
   all_goals first
    |exact A1 rfl (congrArg AV.b (mc (N3 s d) (by rw[if_pos (by omega)]) pN))
    |(exfalso;omega)
 ·repeat'((first|refine S2 ?_|(refine T6 ?_ ?_<;>intro h<;>try exact V1 h)|intro el mI mJ|intro el mI|exact T4|refine T5 ?_ ?_|intro ex)<;>try conv=>whnf)
  all_goals first
   |(exfalso;omega)
   |(refine A1 rfl (congrArg AV.b ?_);rw[←dh hI (by omega)];first|(rw[decide_eq_decide];omega)|(rw[eq_comm,decide_eq_false_iff_not];omega))
theorem YJ(l:List Int)(v:Int):A3 Tryz.prog 228 [.sl 1 (l.map wA),.i v] (.i (E8 (fun x=>decide (x=v)) l 0)):=by
 refine B5 Tryz.func228 19 fun mK E h0=>?_
 have mL:l.length≤9223372036854775807:=by
  have:=(mK (.sl 1 (l.map wA)) (by simp)).sl
  simpa using this
 clear mK
 repeat'((first|refine S2 ?_|(refine T6 ?_ ?_<;>intro h<;>try exact V1 h)|intro el mI mJ|intro el mI|exact T4|refine T5 ?_ ?_|intro ex)<;>try conv=>whnf)
 refine A9 (ι:=Nat) (fun k=>⟨[(0,.sl 1 (l.map wA)),(1,.i v),(7,.i l.length),(8,.i k)],0,[]⟩) (fun k=>k≤l.length∧E8 (fun x=>decide (x=v)) l 0=E8 (fun x=>decide (x=v)) (l.drop k) k) (fun k=>l.length-k) 0 ⟨Nat.zero_le _,rfl⟩
  (A6 h0) (fun k hI=>?_)
 obtain⟨hk,hI⟩:=hI
 repeat'((first|(refine B0 ?_ ?_;kernel_rfl) |refine S2 ?_|(refine T6 ?_ ?_<;>intro h<;>try exact V1 h)|intro el mI mJ|intro el mI|exact T4|refine T5 ?_ ?_|intro ex)<;>try conv=>whnf)
 all_goals first
  |exact⟨k+1,⟨by omega,by rw[hI,G1 mI,E8,if_neg (by rw[decide_eq_true_iff];omega)];rfl⟩,by omega,A6 h0⟩
  |exact A1 rfl (congrArg AV.i (by rw[hI,G1 mI,E8,if_pos (by rw[decide_eq_true_iff];omega)]))
  |exact A1 rfl (congrArg AV.i (by rw[hI,show k=l.length by omega,List.drop_length];rfl))
theorem IL(l:List Int)(v:Int):A3 Tryz.prog 204 [.sl 1 (l.map wA),.i v] (.b (l.any fun x=>decide (x=v))):=by
 have h:=YJ l v
 refine B5 Tryz.func204 9 fun mK E h0=>?_
 clear mK
 repeat'((first|refine A0 h ?_ |refine S2 ?_|(refine T6 ?_ ?_<;>intro h<;>try exact V1 h)|intro el mI mJ|intro el mI|exact T4|refine T5 ?_ ?_|intro ex)<;>try conv=>whnf)
 all_goals first
  |exact A1 rfl (congrArg AV.b (Ak _ l 0 (by omega)))
theorem gq{s:A4}{m:Int}{l:List Int}(h:¬F4 (X6 s m l) 0 l=0):¬W8 s m l=0:=by
 unfold W8
 split
 ·omega
 ·exact h
theorem di{s:A4}{m:Int}{l:List Int}{k:Nat}(h:F2 (X6 s m l) l k)(hk:¬(k:Int)<l.length):decide (1≤(l.length:Int)∧(l.length:Int)≤3)=decide (W8 s m l=0):=by
 unfold W8
 rw[h.done hk,decide_eq_decide]
 split<;>omega
theorem IM(l:List Int)(k:Nat)(v:Int):A3 Tryz.prog 204 [.sl 1 ((l.map wA).take k),.i v] (.b ((l.take k).any fun x=>decide (x=v))):=by
 have h:=IL (l.take k) v
 rw[List.map_take]at h
 exact h
theorem YK(s:A4)(m:Int)(l:List Int):A3 Tryz.prog 232 [sA s,.i m,.sl 1 (l.map wA)] (.b (decide (W8 s m l=0))):=by
 have hm:=fun c=>QU s c
 refine B5 Tryz.func232 41 fun mK E h0=>?_
 have mL:l.length≤9223372036854775807:=by
  have:=(mK (.sl 1 (l.map wA)) (by simp)).sl
  simpa using this
 clear mK
 repeat'((first|refine S2 ?_|(refine T6 ?_ ?_<;>intro h<;>try exact V1 h)|intro el mI mJ|intro el mI|exact T4|refine T5 ?_ ?_|intro ex)<;>try conv=>whnf)
 refine A9 (ι:=Nat) (fun k=>⟨[(1,.i m),(2,.sl 1 (l.map wA)),(3,.ref 0 0),(9,.sl 1 (l.map wA)),(10,.i l.length),(11,.i k)],1,[(0,some (.box (sL s)))]⟩) (fun k=>F2 (X6 s m l) l k) (fun k=>l.length-k) 0 (F2.zero _ _)
  (A6 h0) (fun k hI=>?_)
 have mT:=hI.1
 by_cases mM:k<l.length
 ·obtain⟨c,hc⟩:∃c,l[k]?=some c:=⟨_,List.getElem?_eq_getElem mM⟩
  have h1:=hm c
  have h2:=IM l k c
  have mc:∀e:Int,X6 s m l k c=e→¬e=0→false=decide (W8 s m l=0):=fun e h3 h4=>(decide_eq_false (gq (by rw[←hI.hit hc (by rw[h3];exact h4),h3];exact h4))).symm
  have ox:X6 s m l k c=0→F2 (X6 s m l) l (k+1):=fun h=>hI.step hc h
  unfold X6 at mc ox
  generalize Q5 s c 3=b at *
  generalize ((l.take k).any fun x=>decide (x=c))=u at *
  repeat'((first|(refine A2 (x:=c) hc (by omega) ?_)|refine A0 h1 ?_|refine A0 h2 ?_ |refine S2 ?_|(refine T6 ?_ ?_<;>intro h<;>try exact V1 h)|intro el mI mJ|intro el mI|exact T4|refine T5 ?_ ?_|intro ex)<;>try conv=>whnf)
  all_goals first
   |exact A1 rfl (congrArg AV.b (mc 7 (by rw[if_pos (by assumption)]) (by omega)))
   |exact A1 rfl (congrArg AV.b (mc 10 (by rw[if_neg (by simp[*]),if_pos (.inl (by assumption))]) (by omega)))
   |exact A1 rfl (congrArg AV.b (mc 10 (by rw[if_neg (by simp[*]),if_pos (.inr (by assumption))]) (by omega)))
   |exact⟨k+1,ox (by rw[if_neg (by simp[*]),if_neg (by simp[*])]),by omega,A6 h0⟩
   |(exfalso;omega)
 ·repeat'((first|refine S2 ?_|(refine T6 ?_ ?_<;>intro h<;>try exact V1 h)|intro el mI mJ|intro el mI|exact T4|refine T5 ?_ ?_|intro ex)<;>try conv=>whnf)
  all_goals first
   |(exfalso;omega)
   |(refine A1 rfl (congrArg AV.b ?_);rw[←di hI (by omega)];first|(rw[decide_eq_decide];omega)|(rw[eq_comm,decide_eq_false_iff_not];omega))
theorem af(s:A4)(e:F6):A3 Tryz.prog 207 [sA s,u9 e] (.b (DR s e)):=by
 have h1:=CH e.name
 have h2:=QU s e.col
 have h3:=ae s e.dims
 have h4:=YK s e.col e.cols
 rw[CN]
 unfold DR
 by_cases hB:Q5 s e.col 3=true
 ·obtain⟨ns,no,_⟩:0≤e.col∧e.col<s.cols.length∧(B8 s e.col).kind=3:=by simpa [Q5]using hB
  obtain⟨c,hc⟩:∃c,s.cols[e.col.toNat]?=some c:=⟨_,List.getElem?_eq_getElem (by omega)⟩
  have h5:=IL c.widths e.num
  rw[C1 hc]
  rw[hB]at h2 ⊢
  generalize (c.widths.any fun x=>decide (x=e.num))=b1 at *
  generalize D6 e.name=b2 at *
  generalize decide (Q2 s e.dims=0)=b3 at *
  generalize decide (W8 s e.col e.cols=0)=b4 at *
  clear hB
  refine B5 Tryz.func207 95 fun mK E h0=>?_
  clear mK
  repeat'((first|(refine A2 (x:=c) hc (by omega) ?_)|refine A0 h1 ?_|refine A0 h2 ?_|refine A0 h3 ?_|refine A0 h4 ?_|refine A0 h5 ?_|(refine B0 ?_ ?_;kernel_rfl) |refine S2 ?_|(refine T6 ?_ ?_<;>intro h<;>try exact V1 h)|intro el mI mJ|intro el mI|exact T4|refine T5 ?_ ?_|intro ex)<;>try conv=>whnf)
  all_goals first
   |(refine A1 rfl (congrArg AV.b ?_);clear h1 h2 h3 h4 h5;(first|(simp only[*,if_true,if_false,Bool.true_eq_false,Bool.false_eq_true,or_true,or_false,true_or,false_or,and_true,true_and,and_false,false_and,not_true_eq_false,not_false_eq_true,ne_eq,reduceIte,Int.reduceEq,Int.reduceLT,Int.reduceLE,Int.reduceNeg,decide_true,decide_false,Bool.not_true,Bool.not_false,Bool.and_true,Bool.true_and,Bool.and_false,Bool.false_and,Bool.or_true,Bool.true_or,Bool.or_false,Bool.false_or,Option.some.injEq];done)|(simp only[*,if_true,if_false,Bool.true_eq_false,Bool.false_eq_true,not_true_eq_false,not_false_eq_true,ne_eq,reduceIte,Int.reduceEq];first|rfl|(repeat' split)<;>first|rfl|omega|(exfalso;omega)|contradiction)))
 ·have hB:Q5 s e.col 3=false:=by simpa using hB
  rw[hB]at h2 ⊢
  generalize D6 e.name=b2 at *
  generalize decide (Q2 s e.dims=0)=b3 at *
  generalize decide (W8 s e.col e.cols=0)=b4 at *
  clear hB
  refine B5 Tryz.func207 95 fun mK E h0=>?_
  clear mK
  repeat'((first|refine A0 h1 ?_|refine A0 h2 ?_|refine A0 h3 ?_|refine A0 h4 ?_|(refine B0 ?_ ?_;kernel_rfl) |refine S2 ?_|(refine T6 ?_ ?_<;>intro h<;>try exact V1 h)|intro el mI mJ|intro el mI|exact T4|refine T5 ?_ ?_|intro ex)<;>try conv=>whnf)
  all_goals first
   |(refine A1 rfl (congrArg AV.b ?_);clear h1 h2 h3 h4;(first|(simp only[*,if_true,if_false,Bool.true_eq_false,Bool.false_eq_true,or_true,or_false,true_or,false_or,and_true,true_and,and_false,false_and,not_true_eq_false,not_false_eq_true,ne_eq,reduceIte,Int.reduceEq,Int.reduceLT,Int.reduceLE,Int.reduceNeg,decide_true,decide_false,Bool.not_true,Bool.not_false,Bool.and_true,Bool.true_and,Bool.and_false,Bool.false_and,Bool.or_true,Bool.true_or,Bool.or_false,Bool.false_or,Option.some.injEq];done)|(simp only[*,if_true,if_false,Bool.true_eq_false,Bool.false_eq_true,not_true_eq_false,not_false_eq_true,ne_eq,reduceIte,Int.reduceEq];first|rfl|(repeat' split)<;>first|rfl|omega|(exfalso;omega)|contradiction)))
theorem gr(l:List (F6))(f:Nat)(caps:List AV)(p:(F6)→Bool)(hf:∀x∈l,A3 Tryz.prog f ((fun x=>.agg (Bv x)) x::caps) (.b (p x))):A3 Tryz.prog 233 [.sl 19 (l.map Bv),.fn f caps] (.i (E8 p l 0)):=by
 refine B5 Tryz.func233 19 fun mK E h0=>?_
 have mL:l.length≤9223372036854775807:=by have:=(mK (.sl 19 (l.map Bv)) (by simp)).sl;simpa using this
 repeat'((first|refine S2 ?_|(refine T6 ?_ ?_<;>intro h<;>try exact V1 h)|intro el mI mJ|intro el mI|exact T4|refine T5 ?_ ?_|intro ex)<;>try conv=>whnf)
 refine A9 (ι:=Nat) (fun k=>⟨[(0,.sl 19 (l.map Bv)),(1,.fn f caps),(7,.i l.length),(8,.i k)],0,[]⟩) (fun k=>k≤l.length∧E8 p l 0=E8 p (l.drop k) k) (fun k=>l.length-k) 0 ⟨Nat.zero_le _,rfl⟩ (A6 h0) (fun k hI=>?_)
 obtain⟨hk,hI⟩:=hI
 repeat'((first|refine A0 (hf _ (List.mem_of_getElem? mI)) ?_ |refine S2 ?_|(refine T6 ?_ ?_<;>intro h<;>try exact V1 h)|intro el mI mJ|intro el mI|exact T4|refine T5 ?_ ?_|intro ex)<;>try conv=>whnf)
 all_goals first
  |exact⟨k+1,⟨by omega,by rw[hI,G1 mI,E8,if_neg (by simp[h])];rfl⟩,by omega,A6 h0⟩
  |exact A1 rfl (congrArg AV.i (by rw[hI,G1 mI,E8,if_pos (by simp[h])]))
  |exact A1 rfl (congrArg AV.i (by rw[hI,show k=l.length by omega,List.drop_length];rfl))
theorem gt(l:List (F6))(f:Nat)(caps:List AV)(p:(F6)→Bool)(hf:∀x∈l,A3 Tryz.prog f ((fun x=>.agg (Bv x)) x::caps) (.b (p x))):A3 Tryz.prog 209 [.sl 19 (l.map Bv),.fn f caps] (.b (l.any p)):=by
 refine B5 Tryz.func209 9 fun mK E h0=>?_
 have nX:=gr l f caps p hf
 repeat'((first|refine A0 nX ?_ |refine S2 ?_|(refine T6 ?_ ?_<;>intro h<;>try exact V1 h)|intro el mI mJ|intro el mI|exact T4|refine T5 ?_ ?_|intro ex)<;>try conv=>whnf)
 all_goals first
  |exact A1 rfl (congrArg AV.b (Ak p l 0 (by omega)))
theorem VE(s:A4)(k:F6)(xi:A3 Tryz.prog 162 [sA s,u9 k] (.b (Aw s k))):A3 Tryz.prog 210 [u9 k,.iptr (sL s)] (.b (DS s k)):=by
 have h1:=Qp k.op
 unfold DS
 generalize Aw s k=b at *
 refine B5 Tryz.func210 14 fun mK E h0=>?_
 clear mK
 repeat'((first|refine A0 h1 ?_|refine A0 xi ?_ |refine S2 ?_|(refine T6 ?_ ?_<;>intro h<;>try exact V1 h)|intro el mI mJ|intro el mI|exact T4|refine T5 ?_ ?_|intro ex)<;>try conv=>whnf)
 all_goals clear xi h1
 all_goals first
  |(refine A1 rfl (congrArg AV.b ?_);simp[*];done)
theorem YL(s:A4)(hr:C3 s=0)(e:F6):A3 Tryz.prog 162 [sA s,u9 e] (.b (Aw s e)):=by
 refine Gr (p:=fun e=>A3 Tryz.prog 162 [sA s,u9 e] (.b (Aw s e))) (fun e ih=>?_) e
 have nR:=gt e.kids 210 [.iptr (sL s)] (DS s) fun k hk=>VE s k (ih k hk)
 have h1:=VD e.op
 have h2:=Tj e
 have h3:=af s e
 have h4:=AE s e.cnd
 have h5:=AE s e.evt
 have h6:=Kx e.op
 rw[DT]
 unfold JV
 rw[CN]at h2 h3 ⊢
 generalize decide (FN e)=b1 at *
 generalize DR s e=b2 at *
 generalize J6 s e.cnd=n1 at *
 generalize J6 s e.evt=n2 at *
 generalize (e.kids.any (DS s))=b3 at *
 rw[show decide (e.kids.length=2)=decide ((e.kids.length:Int)=2) by rw[decide_eq_decide];omega]
 clear ih
 refine B5 Tryz.func162 61 fun mK E h0=>?_
 clear mK
 repeat'((first|refine A0 h1 ?_|refine A0 h2 ?_|refine A0 h3 ?_|refine A0 h4 ?_|refine A0 h5 ?_|refine A0 h6 ?_|refine I4 0 ?_|refine A0 nR ?_|(refine B0 ?_ ?_;kernel_rfl) |refine S2 ?_|(refine T6 ?_ ?_<;>intro h<;>try exact V1 h)|intro el mI mJ|intro el mI|exact T4|refine T5 ?_ ?_|intro ex)<;>try conv=>whnf)
 all_goals clear h1 h2 h3 h4 h5 h6 nR
 all_goals first
  |(refine A1 rfl (congrArg AV.b ?_);(first|(simp only[*,if_true,if_false,Bool.true_eq_false,Bool.false_eq_true,or_true,or_false,true_or,false_or,and_true,true_and,and_false,false_and,not_true_eq_false,not_false_eq_true,ne_eq,reduceIte,Int.reduceEq,Int.reduceLT,Int.reduceLE,Int.reduceNeg,decide_true,decide_false,Bool.not_true,Bool.not_false,Bool.and_true,Bool.true_and,Bool.and_false,Bool.false_and,Bool.or_true,Bool.true_or,Bool.or_false,Bool.false_or,Option.some.injEq];done)|(simp only[*,if_true,if_false,Bool.true_eq_false,Bool.false_eq_true,not_true_eq_false,not_false_eq_true,ne_eq,reduceIte,Int.reduceEq];first|rfl|(repeat' split)<;>first|rfl|omega|(exfalso;omega)|contradiction)))
  |(refine A1 rfl (congrArg AV.b ?_);simp_all;done)
theorem VF(s:A4)(e:F6):A3 Tryz.prog 106 [sA s,u9 e] (.b (W2 s e)):=by
 have h1:=f5 s
 have h2:=fun hr=>YL s hr e
 unfold W2
 generalize Aw s e=b at *
 refine B5 Tryz.func106 13 fun mK E h0=>?_
 clear mK
 repeat'((first|refine A0 h1 ?_|refine A0 (h2 (by assumption)) ?_|(refine B0 ?_ ?_;kernel_rfl) |refine S2 ?_|(refine T6 ?_ ?_<;>intro h<;>try exact V1 h)|intro el mI mJ|intro el mI|exact T4|refine T5 ?_ ?_|intro ex)<;>try conv=>whnf)
 all_goals first
  |(refine A1 rfl (congrArg AV.b ?_);simp[*];done)
instance:G6 Tryz.prog 141 false 1:=.of (by kernel_rfl) (by kernel_rfl)
end Go.Proofs.YtiphlhoclaogjaaGreatDoor
