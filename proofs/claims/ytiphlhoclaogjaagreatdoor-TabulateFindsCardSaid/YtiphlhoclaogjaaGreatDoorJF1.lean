/- Chapter 16: expressions and statements. Chapter 16: which expressions are right: the program's parts. Chapter 16: the program's check of expressions and programs. -/
import Derived.Test.YtiphlhoclaogjaaGreatDoorJCe1
import Derived.Test.YtiphlhoclaogjaaGreatDoorJC1
set_option linter.unusedVariables false
set_option linter.unnecessarySimpa false
set_option linter.unusedSimpArgs false
set_option maxHeartbeats 64000000
namespace Go.Proofs.YtiphlhoclaogjaaGreatDoor
open Go Go.Av
attribute [local irreducible] C9 B3 C8 D1 DQ D0 C7 St.le A3 B8
set_option maxRecDepth 100000
inductive F6 where
 |mk (op num:Int) (name:List UInt8) (col:Int) (cols:List Int) (dims:List Pk) (cnd evt:B7) (kids:List F6)
def F6.op:F6→Int|.mk o _ _ _ _ _ _ _ _=>o
def F6.num:F6→Int|.mk _ n _ _ _ _ _ _ _=>n
def F6.name:F6→List UInt8|.mk _ _ nm _ _ _ _ _ _=>nm
def F6.col:F6→Int|.mk _ _ _ c _ _ _ _ _=>c
def F6.cols:F6→List Int|.mk _ _ _ _ cs _ _ _ _=>cs
def F6.dims:F6→List Pk|.mk _ _ _ _ _ ds _ _ _=>ds
def F6.cnd:F6→B7|.mk _ _ _ _ _ _ c _ _=>c
def F6.evt:F6→B7|.mk _ _ _ _ _ _ _ v _=>v
def F6.kids:F6→List F6|.mk _ _ _ _ _ _ _ _ ks=>ks
mutual
def Pt:F6→List AV
 |.mk o n nm c cs ds cd ev ks=>[.i o,.i n,.str nm,.i c,.sl 1 (cs.map wA),.sl 2 (ds.map A8),.i cd.op,.i cd.col,.i cd.code,.i cd.lo,.i cd.hi,.sl 6 (cd.kids.map R0),.i ev.op,.i ev.col,.i ev.code,.i ev.lo,.i ev.hi,.sl 6 (ev.kids.map R0),.sl 19 (SK ks)]
def SK:List F6→List (List AV)
 |[]=>[]
 |x::r=>Pt x::SK r
end
theorem Ub:∀ks,SK ks=ks.map Pt
 |[]=>rfl
 |x::r=>by rw[SK,Ub r];rfl
def Cr(e:F6):List AV:=[.i e.op,.i e.num,.str e.name,.i e.col,.sl 1 (e.cols.map wA),.sl 2 (e.dims.map A8),.i e.cnd.op,.i e.cnd.col,.i e.cnd.code,.i e.cnd.lo,.i e.cnd.hi,.sl 6 (e.cnd.kids.map R0),.i e.evt.op,.i e.evt.col,.i e.evt.code,.i e.evt.lo,.i e.evt.hi,.sl 6 (e.evt.kids.map R0),.sl 19 (e.kids.map Pt)]
theorem ix(e:F6):Pt e=Cr e:=by
 cases e
 rw[Pt,Ub];rfl
theorem iy(ks:List F6):ks.map Pt=ks.map Cr:=List.map_congr_left fun e _=>ix e
abbrev AQ(e:F6):AV:=.agg (Cr e)
abbrev Bp(e:F6):List AV:=[.i e.op,.i e.num,.str e.name,.i e.col,.sl 1 (e.cols.map wA),.sl 2 (e.dims.map A8),.i e.cnd.op,.i e.cnd.col,.i e.cnd.code,.i e.cnd.lo,.i e.cnd.hi,.sl 6 (e.cnd.kids.map R0),.i e.evt.op,.i e.evt.col,.i e.evt.code,.i e.evt.lo,.i e.evt.hi,.sl 6 (e.evt.kids.map R0),.sl 19 (e.kids.map Cr)]
theorem lP(e:F6):Cr e=Bp e:=by unfold Cr;rw[iy]
theorem DI(e:F6):AQ e=.agg (Bp e):=by rw[AQ,lP]
theorem Vy{e k:F6}(h:k∈e.kids):SizeOf.sizeOf k<SizeOf.sizeOf e:=by
 cases e with
 |mk o n nm c cs ds cd ev ks =>
  have:=List.sizeOf_lt_of_mem (show _∈ks from h)
  simp only[F6.mk.sizeOf_spec]
  omega
theorem Hj{p:F6→Prop}(h:∀e,(∀k∈e.kids,p k)→p e)(e:F6):p e :=
 h e fun k _=>Hj h k
termination_by SizeOf.sizeOf e
decreasing_by exact Vy (by assumption)
mutual
def Yz:F6→B7
 |.mk _ _ _ _ _ _ _ _ ks=>.mk 0 0 0 0 0 (bf ks)
def bf:List F6→List B7
 |[]=>[]
 |x::r=>Yz x::bf r
end
structure nG where
 name:List UInt8
 out:Bool
 x:F6
abbrev R1(c:B7):Prop:=c.op=0∧c.col=0∧c.code=0∧c.lo=0∧c.hi=0∧c.kids.length=0
abbrev FY(op:Int):Prop:=op=1∨op=13
abbrev Dj(op:Int):Prop:=op=2
abbrev o0(op:Int):Prop:=4≤op∧op≤5∨10≤op∧op≤14
abbrev Dk(op:Int):Prop:=op=11
abbrev Dl(op:Int):Prop:=op=10
abbrev v7(op:Int):Prop:=3≤op∧op≤5∨10≤op∧op≤14
abbrev v8(op:Int):Prop:=op=12
abbrev SL(op:Int):List AV:=[.b (decide (FY op)),.b (decide (Dj op)),.b (decide (o0 op)),.b (decide (Dk op)),.b (decide (Dl op)),.b (decide (v7 op)),.b (decide (v8 op))]
abbrev P4(op:Int):Prop:=6≤op∧op≤9
abbrev GG(e:F6):Prop:=(FY e.op∨e.num=0)∧(Dj e.op∨e.name.length=0)∧(o0 e.op∨e.col=0)∧(Dk e.op∨e.cols.length=0)∧(Dl e.op∨e.dims.length=0)∧(v7 e.op∨R1 e.cnd)∧(v8 e.op∨R1 e.evt)∧(P4 e.op∨e.kids.length=0)
def W5(s:A4)(l:List Pk)(i:Nat)(d:Pk):Int:=if N5 s d≠0 then N5 s d else if (B6 s d.col).kind≠2 then 7 else if ((l.take i).any fun x=>decide (x.col=d.col))=true then 10 else 0
def Q4(s:A4)(l:List Pk):Int:=if l.length<1∨3<l.length then 1 else F3 (W5 s l) 0 l
def Y0(s:A4)(m:Int)(l:List Int)(i:Nat)(c:Int):Int:=if Q7 s c 3=false then 7 else if c=m∨((l.take i).any fun x=>decide (x=c))=true then 10 else 0
def X3(s:A4)(m:Int)(l:List Int):Int:=if l.length<1∨3<l.length then 1 else F3 (Y0 s m l) 0 l
def EI(s:A4)(e:F6):Bool :=
 if e.op=1 then decide (-1099511627776≤e.num∧e.num≤1099511627776)else if e.op=2 then D6 e.name
 else if e.op=4∨e.op=5∨e.op=14 then Q7 s e.col 3
 else if e.op=10 then decide (Q4 s e.dims=0) && (decide (e.col=-1) || Q7 s e.col 3)
 else if e.op=11 then Q7 s e.col 3 && decide (X3 s e.col e.cols=0)
 else if e.op=12 then Q7 s e.col 3 && decide (0≤(B6 s e.col).low)
 else if e.op=13 then Q7 s e.col 3 && (B6 s e.col).widths.any fun x=>decide (x=e.num)
 else true
def KN(s:A4)(e:F6):Bool:=decide (1≤e.op∧e.op≤14) && decide (GG e) && EI s e && (decide (¬v7 e.op) || decide (J6 s e.cnd=0)) && (decide (¬v8 e.op) || decide (J6 s e.evt=0)) && (decide (¬P4 e.op) || decide (e.kids.length=2))
abbrev Pu(op:Int):Prop:=1≤op∧op≤9
mutual
def Bq(s:A4):F6→Bool
 |.mk o n nm c cs ds cd ev ks=>KN s (.mk o n nm c cs ds cd ev ks) && !(ZA s ks)
def ZA(s:A4):List F6→Bool
 |[]=>false
 |x::r=>(!decide (Pu x.op) || !Bq s x) || ZA s r
end
abbrev EJ(s:A4)(k:F6):Bool:=!decide (Pu k.op) || !Bq s k
theorem XJ(s:A4):∀l,ZA s l=l.any (EJ s)
 |[]=>rfl
 |x::r=>by rw[ZA,XJ s r];rfl
theorem EK(s:A4)(e:F6):Bq s e=(KN s e && !(e.kids.any (EJ s))):=by
 cases e
 rw[Bq,XJ];rfl
def W6(s:A4)(e:F6):Bool:=decide (C3 s=0) && Bq s e
mutual
def lQ(g:List UInt8→Bool):F6→Bool
 |.mk o n nm c cs ds cd ev ks=>!(decide (o=2) && !g nm) && !(lR g ks)
def lR(g:List UInt8→Bool):List F6→Bool
 |[]=>false
 |x::r=>(!lQ g x) || lR g r
end
theorem Oj(c:B7):A3 Tryz.prog 229 [D5 c] (.b (decide (R1 c))):=by
 rw[F8]
 refine B5 Tryz.func229 32 fun nL E h0=>?_
 clear nL
 repeat'((first|refine S2 ?_|(refine T6 ?_ ?_<;>intro h<;>try exact V1 h)|intro el nJ nK|intro el nJ|exact T4|refine T5 ?_ ?_|intro ex)<;>try conv=>whnf)
 all_goals first
  |exact A1 rfl (congrArg AV.b (by rw[decide_eq_true (by omega)]))
  |exact A1 rfl (congrArg AV.b (by rw[decide_eq_false (by omega)]))
  |exact A1 rfl (congrArg AV.b (by rw[decide_eq_decide];omega))
theorem RQ(s:A4)(col:Int):A3 Tryz.prog 230 [sA s,.i col] (.b (Q7 s col 3)):=by
 refine B5 Tryz.func230 23 fun nL E h0=>?_
 clear nL
 repeat'((first|(refine A9 ?_ ?_;kernel_rfl) |refine S2 ?_|(refine T6 ?_ ?_<;>intro h<;>try exact V1 h)|intro el nJ nK|intro el nJ|exact T4|refine T5 ?_ ?_|intro ex)<;>try conv=>whnf)
 all_goals first
  |exact A1 rfl (congrArg AV.b (by unfold Q7;rw[decide_eq_false (by omega)]))
  |exact A1 rfl (congrArg AV.b (by unfold Q7;rw[decide_eq_decide,B9 nJ];omega))
theorem Rm(op:Int):A3 Tryz.prog 211 [.i op] (.b (decide (Pu op))):=by
 refine B5 Tryz.func211 9 fun nL E h0=>?_
 clear nL
 repeat'((first|refine S2 ?_|(refine T6 ?_ ?_<;>intro h<;>try exact V1 h)|intro el nJ nK|intro el nJ|exact T4|refine T5 ?_ ?_|intro ex)<;>try conv=>whnf)
 all_goals first
  |exact A1 rfl (congrArg AV.b (by rw[decide_eq_true (by omega)]))
  |exact A1 rfl (congrArg AV.b (by rw[decide_eq_false (by omega)]))
  |exact A1 rfl (congrArg AV.b (by rw[decide_eq_decide];omega))
theorem Lv(op:Int):A3 Tryz.prog 208 [.i op] (.b (decide (P4 op))):=by
 refine B5 Tryz.func208 9 fun nL E h0=>?_
 clear nL
 repeat'((first|refine S2 ?_|(refine T6 ?_ ?_<;>intro h<;>try exact V1 h)|intro el nJ nK|intro el nJ|exact T4|refine T5 ?_ ?_|intro ex)<;>try conv=>whnf)
 all_goals first
  |exact A1 rfl (congrArg AV.b (by rw[decide_eq_true (by omega)]))
  |exact A1 rfl (congrArg AV.b (by rw[decide_eq_false (by omega)]))
  |exact A1 rfl (congrArg AV.b (by rw[decide_eq_decide];omega))
theorem iz{op:Int}(h:¬(1≤op∧op≤14)):(AV.tup [.agg (SL op),.b (decide (1≤op∧op≤14))])=.tup [.agg [.b false,.b false,.b false,.b false,.b false,.b false,.b false],.b false]:=by
 unfold SL
 rw[decide_eq_false (by omega),decide_eq_false (by omega),decide_eq_false (by omega),decide_eq_false (by omega),decide_eq_false (by omega),decide_eq_false (by omega),decide_eq_false (by omega),decide_eq_false (by omega)]
theorem Vz(op:Int):A3 Tryz.prog 205 [.i op] (.tup [.agg (SL op),.b (decide (1≤op∧op≤14))]):=by
 refine B5 Tryz.func205 38 fun nL E h0=>?_
 clear nL
 repeat'((first|refine S2 ?_|(refine T6 ?_ ?_<;>intro h<;>try exact V1 h)|intro el nJ nK|intro el nJ|exact T4|refine T5 ?_ ?_|intro ex)<;>try conv=>whnf)
 all_goals first
  |(subst_vars;exact T3 rfl rfl rfl (.refl _) rfl (.refl _) rfl)
  |(rw[iz (by omega)];exact T3 rfl rfl rfl (.refl _) rfl (.refl _) rfl)
theorem Uc(e:F6):A3 Tryz.prog 206 [AQ e,.agg (SL e.op)] (.b (decide (GG e))):=by
 have h1:=Oj e.cnd
 have h2:=Oj e.evt
 have h3:=Lv e.op
 rw[DI]
 refine B5 Tryz.func206 79 fun nL E h0=>?_
 clear nL
 repeat'((first|refine A0 h1 ?_|refine A0 h2 ?_|refine A0 h3 ?_ |refine S2 ?_|(refine T6 ?_ ?_<;>intro h<;>try exact V1 h)|intro el nJ nK|intro el nJ|exact T4|refine T5 ?_ ?_|intro ex)<;>try conv=>whnf)
 all_goals first
  |exact A1 rfl (congrArg AV.b (decide_eq_true (by (clear h1 h2 h3;simp only[FY,Dj,o0,Dk,Dl,v7,v8,P4,GG,R1,←List.length_eq_zero_iff]at *;omega))).symm)
  |exact A1 rfl (congrArg AV.b (decide_eq_false (by (clear h1 h2 h3;simp only[FY,Dj,o0,Dk,Dl,v7,v8,P4,GG,R1,←List.length_eq_zero_iff]at *;omega))).symm)
  |exact A1 rfl (congrArg AV.b (by rw[decide_eq_decide];(clear h1 h2 h3;simp only[FY,Dj,o0,Dk,Dl,v7,v8,P4,GG,R1,←List.length_eq_zero_iff]at *;omega)))
theorem ZB(x d:Pk):A3 Tryz.prog 243 [Qs x,.iptr (A8 d)] (.b (decide (x.col=d.col))):=by
 refine B5 Tryz.func243 9 fun nL E h0=>?_
 clear nL
 repeat'((first|(refine A9 ?_ ?_;kernel_rfl) |refine S2 ?_|(refine T6 ?_ ?_<;>intro h<;>try exact V1 h)|intro el nJ nK|intro el nJ|exact T4|refine T5 ?_ ?_|intro ex)<;>try conv=>whnf)
 all_goals first
  |exact A1 rfl rfl
theorem Ud{s:A4}{p:Pk}(h:N5 s p=0):∃c,0≤p.col∧s.cols[p.col.toNat]?=some c:=by
 unfold N5 CV E6 at h
 by_cases hc:p.col<1∨(s.cols.length:Int)≤p.col
 ·rw[if_pos hc]at h
  split at h
  ·rw[if_pos (show (-1:Int)<0 by omega)]at h
   omega
  ·exact absurd h (by assumption)
 ·exact⟨_,by omega,List.getElem?_eq_getElem (by omega)⟩
theorem ew{s:A4}{l:List Pk}(h:¬F3 (W5 s l) 0 l=0):¬Q4 s l=0:=by
 unfold Q4
 split
 ·omega
 ·exact h
theorem jA(l:List Pk)(k:Nat)(d:Pk):A3 Tryz.prog 103 [.sl 2 ((l.map A8).take k),.fn 243 [.iptr (A8 d)]] (.b ((l.take k).any fun x=>decide (x.col=d.col))):=by
 have h:=OP (l.take k) 243 [.iptr (A8 d)] (fun x=>decide (x.col=d.col)) (fun x _=>ZB x d)
 rw[List.map_take]at h
 exact h
theorem ey{s:A4}{l:List Pk}{k:Nat}(h:F2 (W5 s l) l k)(hk:¬(k:Int)<l.length):decide (1≤(l.length:Int)∧(l.length:Int)≤3)=decide (Q4 s l=0):=by
 unfold Q4
 rw[h.done hk,decide_eq_decide]
 split<;>omega
theorem bg(s:A4)(l:List Pk):A3 Tryz.prog 231 [sA s,.sl 2 (l.map A8)] (.b (decide (Q4 s l=0))):=by
 have hp:=fun d=>ON s d
 have oV:=fun k d=>jA l k d
 refine B5 Tryz.func231 42 fun nL E h0=>?_
 have nM:l.length≤9223372036854775807:=by
  have:=(nL (.sl 2 (l.map A8)) (by simp)).sl
  simpa using this
 clear nL
 repeat'((first|refine S2 ?_|(refine T6 ?_ ?_<;>intro h<;>try exact V1 h)|intro el nJ nK|intro el nJ|exact T4|refine T5 ?_ ?_|intro ex)<;>try conv=>whnf)
 refine B0 (ι:=Nat) (fun k=>⟨[(1,.sl 2 (l.map A8)),(2,.ref 0 0),(7,.sl 2 (l.map A8)),(8,.i l.length),(9,.i k)],1,[(0,some (.box (sL s)))]⟩) (fun k=>F2 (W5 s l) l k) (fun k=>l.length-k) 0 (F2.zero _ _)
  (A6 h0) (fun k hI=>?_)
 have nU:=hI.1
 by_cases nN:k<l.length
 ·obtain⟨d,hd⟩:∃d,l[k]?=some d:=⟨_,List.getElem?_eq_getElem nN⟩
  have h1:=hp d
  have h2:=oV k d
  have nf:∀e:Int,W5 s l k d=e→¬e=0→false=decide (Q4 s l=0):=fun e h3 h4=>(decide_eq_false (ew (by rw[←hI.hit hd (by rw[h3];exact h4),h3];exact h4))).symm
  have pu:W5 s l k d=0→F2 (W5 s l) l (k+1):=fun h=>hI.step hd h
  unfold W5 at nf pu
  by_cases qM:N5 s d=0
  ·obtain⟨c,rL,hc⟩:=Ud qM
   rw[B9 hc]at nf pu
   rw[qM]at h1
   generalize ((l.take k).any fun x=>decide (x.col=d.col))=u at *
   repeat'((first|(refine A2 (x:=d) hd (by omega) ?_)|(refine A2 (x:=c) hc (by omega) ?_)|refine A0 h1 ?_|refine I6 1 ?_|refine A0 h2 ?_ |refine S2 ?_|(refine T6 ?_ ?_<;>intro h<;>try exact V1 h)|intro el nJ nK|intro el nJ|exact T4|refine T5 ?_ ?_|intro ex)<;>try conv=>whnf)
   all_goals first
    |exact A1 rfl (congrArg AV.b (nf 7 (by rw[if_neg (by omega),if_pos (by assumption)]) (by omega)))
    |exact A1 rfl (congrArg AV.b (nf 10 (by rw[if_neg (by omega),if_neg (by assumption),if_pos (by assumption)]) (by omega)))
    |exact⟨k+1,pu (by rw[if_neg (by omega),if_neg (by assumption),if_neg (by simp[*])]),by omega,A6 h0⟩
    |(exfalso;omega)
  ·repeat'((first|(refine A2 (x:=d) hd (by omega) ?_)|refine A0 h1 ?_|refine I6 1 ?_|refine A0 h2 ?_ |refine S2 ?_|(refine T6 ?_ ?_<;>intro h<;>try exact V1 h)|intro el nJ nK|intro el nJ|exact T4|refine T5 ?_ ?_|intro ex)<;>try conv=>whnf)
   all_goals first
    |exact A1 rfl (congrArg AV.b (nf (N5 s d) (by rw[if_pos (by omega)]) qM))
    |(exfalso;omega)
 ·repeat'((first|refine S2 ?_|(refine T6 ?_ ?_<;>intro h<;>try exact V1 h)|intro el nJ nK|intro el nJ|exact T4|refine T5 ?_ ?_|intro ex)<;>try conv=>whnf)
  all_goals first
   |(exfalso;omega)
   |(refine A1 rfl (congrArg AV.b ?_);rw[←ey hI (by omega)];first|(rw[decide_eq_decide];omega)|(rw[eq_comm,decide_eq_false_iff_not];omega))
theorem ZC(l:List Int)(v:Int):A3 Tryz.prog 228 [.sl 1 (l.map wA),.i v] (.i (D9 (fun x=>decide (x=v)) l 0)):=by
 refine B5 Tryz.func228 19 fun nL E h0=>?_
 have nM:l.length≤9223372036854775807:=by
  have:=(nL (.sl 1 (l.map wA)) (by simp)).sl
  simpa using this
 clear nL
 repeat'((first|refine S2 ?_|(refine T6 ?_ ?_<;>intro h<;>try exact V1 h)|intro el nJ nK|intro el nJ|exact T4|refine T5 ?_ ?_|intro ex)<;>try conv=>whnf)
 refine B0 (ι:=Nat) (fun k=>⟨[(0,.sl 1 (l.map wA)),(1,.i v),(7,.i l.length),(8,.i k)],0,[]⟩) (fun k=>k≤l.length∧D9 (fun x=>decide (x=v)) l 0=D9 (fun x=>decide (x=v)) (l.drop k) k) (fun k=>l.length-k) 0 ⟨Nat.zero_le _,rfl⟩
  (A6 h0) (fun k hI=>?_)
 obtain⟨hk,hI⟩:=hI
 repeat'((first|(refine A9 ?_ ?_;kernel_rfl) |refine S2 ?_|(refine T6 ?_ ?_<;>intro h<;>try exact V1 h)|intro el nJ nK|intro el nJ|exact T4|refine T5 ?_ ?_|intro ex)<;>try conv=>whnf)
 all_goals first
  |exact⟨k+1,⟨by omega,by rw[hI,F7 nJ,D9,if_neg (by rw[decide_eq_true_iff];omega)];rfl⟩,by omega,A6 h0⟩
  |exact A1 rfl (congrArg AV.i (by rw[hI,F7 nJ,D9,if_pos (by rw[decide_eq_true_iff];omega)]))
  |exact A1 rfl (congrArg AV.i (by rw[hI,show k=l.length by omega,List.drop_length];rfl))
theorem JM(l:List Int)(v:Int):A3 Tryz.prog 204 [.sl 1 (l.map wA),.i v] (.b (l.any fun x=>decide (x=v))):=by
 have h:=ZC l v
 refine B5 Tryz.func204 9 fun nL E h0=>?_
 clear nL
 repeat'((first|refine A0 h ?_ |refine S2 ?_|(refine T6 ?_ ?_<;>intro h<;>try exact V1 h)|intro el nJ nK|intro el nJ|exact T4|refine T5 ?_ ?_|intro ex)<;>try conv=>whnf)
 all_goals first
  |exact A1 rfl (congrArg AV.b (Bf _ l 0 (by omega)))
theorem jB{s:A4}{m:Int}{l:List Int}(h:¬F3 (Y0 s m l) 0 l=0):¬X3 s m l=0:=by
 unfold X3
 split
 ·omega
 ·exact h
theorem ez{s:A4}{m:Int}{l:List Int}{k:Nat}(h:F2 (Y0 s m l) l k)(hk:¬(k:Int)<l.length):decide (1≤(l.length:Int)∧(l.length:Int)≤3)=decide (X3 s m l=0):=by
 unfold X3
 rw[h.done hk,decide_eq_decide]
 split<;>omega
theorem JN(l:List Int)(k:Nat)(v:Int):A3 Tryz.prog 204 [.sl 1 ((l.map wA).take k),.i v] (.b ((l.take k).any fun x=>decide (x=v))):=by
 have h:=JM (l.take k) v
 rw[List.map_take]at h
 exact h
theorem ZD(s:A4)(m:Int)(l:List Int):A3 Tryz.prog 232 [sA s,.i m,.sl 1 (l.map wA)] (.b (decide (X3 s m l=0))):=by
 have hm:=fun c=>RQ s c
 refine B5 Tryz.func232 41 fun nL E h0=>?_
 have nM:l.length≤9223372036854775807:=by
  have:=(nL (.sl 1 (l.map wA)) (by simp)).sl
  simpa using this
 clear nL
 repeat'((first|refine S2 ?_|(refine T6 ?_ ?_<;>intro h<;>try exact V1 h)|intro el nJ nK|intro el nJ|exact T4|refine T5 ?_ ?_|intro ex)<;>try conv=>whnf)
 refine B0 (ι:=Nat) (fun k=>⟨[(1,.i m),(2,.sl 1 (l.map wA)),(3,.ref 0 0),(9,.sl 1 (l.map wA)),(10,.i l.length),(11,.i k)],1,[(0,some (.box (sL s)))]⟩) (fun k=>F2 (Y0 s m l) l k) (fun k=>l.length-k) 0 (F2.zero _ _)
  (A6 h0) (fun k hI=>?_)
 have nU:=hI.1
 by_cases nN:k<l.length
 ·obtain⟨c,hc⟩:∃c,l[k]?=some c:=⟨_,List.getElem?_eq_getElem nN⟩
  have h1:=hm c
  have h2:=JN l k c
  have nf:∀e:Int,Y0 s m l k c=e→¬e=0→false=decide (X3 s m l=0):=fun e h3 h4=>(decide_eq_false (jB (by rw[←hI.hit hc (by rw[h3];exact h4),h3];exact h4))).symm
  have pu:Y0 s m l k c=0→F2 (Y0 s m l) l (k+1):=fun h=>hI.step hc h
  unfold Y0 at nf pu
  generalize Q7 s c 3=b at *
  generalize ((l.take k).any fun x=>decide (x=c))=u at *
  repeat'((first|(refine A2 (x:=c) hc (by omega) ?_)|refine A0 h1 ?_|refine A0 h2 ?_ |refine S2 ?_|(refine T6 ?_ ?_<;>intro h<;>try exact V1 h)|intro el nJ nK|intro el nJ|exact T4|refine T5 ?_ ?_|intro ex)<;>try conv=>whnf)
  all_goals first
   |exact A1 rfl (congrArg AV.b (nf 7 (by rw[if_pos (by assumption)]) (by omega)))
   |exact A1 rfl (congrArg AV.b (nf 10 (by rw[if_neg (by simp[*]),if_pos (.inl (by assumption))]) (by omega)))
   |exact A1 rfl (congrArg AV.b (nf 10 (by rw[if_neg (by simp[*]),if_pos (.inr (by assumption))]) (by omega)))
   |exact⟨k+1,pu (by rw[if_neg (by simp[*]),if_neg (by simp[*])]),by omega,A6 h0⟩
   |(exfalso;omega)
 ·repeat'((first|refine S2 ?_|(refine T6 ?_ ?_<;>intro h<;>try exact V1 h)|intro el nJ nK|intro el nJ|exact T4|refine T5 ?_ ?_|intro ex)<;>try conv=>whnf)
  all_goals first
   |(exfalso;omega)
   |(refine A1 rfl (congrArg AV.b ?_);rw[←ez hI (by omega)];first|(rw[decide_eq_decide];omega)|(rw[eq_comm,decide_eq_false_iff_not];omega))
theorem bh(s:A4)(e:F6):A3 Tryz.prog 207 [sA s,AQ e] (.b (EI s e)):=by
 have h1:=DC e.name
 have h2:=RQ s e.col
 have h3:=bg s e.dims
 have h4:=ZD s e.col e.cols
 rw[DI]
 unfold EI
 by_cases hB:Q7 s e.col 3=true
 ·obtain⟨ox,ou,_⟩:0≤e.col∧e.col<s.cols.length∧(B6 s e.col).kind=3:=by simpa [Q7]using hB
  obtain⟨c,hc⟩:∃c,s.cols[e.col.toNat]?=some c:=⟨_,List.getElem?_eq_getElem (by omega)⟩
  have h5:=JM c.widths e.num
  rw[B9 hc]
  rw[hB]at h2 ⊢
  generalize (c.widths.any fun x=>decide (x=e.num))=b1 at *
  generalize D6 e.name=b2 at *
  generalize decide (Q4 s e.dims=0)=b3 at *
  generalize decide (X3 s e.col e.cols=0)=b4 at *
  clear hB
  refine B5 Tryz.func207 95 fun nL E h0=>?_
  clear nL
  repeat'((first|(refine A2 (x:=c) hc (by omega) ?_)|refine A0 h1 ?_|refine A0 h2 ?_|refine A0 h3 ?_|refine A0 h4 ?_|refine A0 h5 ?_|(refine A9 ?_ ?_;kernel_rfl) |refine S2 ?_|(refine T6 ?_ ?_<;>intro h<;>try exact V1 h)|intro el nJ nK|intro el nJ|exact T4|refine T5 ?_ ?_|intro ex)<;>try conv=>whnf)
  all_goals first
   |(refine A1 rfl (congrArg AV.b ?_);clear h1 h2 h3 h4 h5;(first|(simp only[*,if_true,if_false,Bool.true_eq_false,Bool.false_eq_true,or_true,or_false,true_or,false_or,and_true,true_and,and_false,false_and,not_true_eq_false,not_false_eq_true,ne_eq,reduceIte,Int.reduceEq,Int.reduceLT,Int.reduceLE,Int.reduceNeg,decide_true,decide_false,Bool.not_true,Bool.not_false,Bool.and_true,Bool.true_and,Bool.and_false,Bool.false_and,Bool.or_true,Bool.true_or,Bool.or_false,Bool.false_or,Option.some.injEq];done)|(simp only[*,if_true,if_false,Bool.true_eq_false,Bool.false_eq_true,not_true_eq_false,not_false_eq_true,ne_eq,reduceIte,Int.reduceEq];first|rfl|(repeat' split)<;>first|rfl|omega|(exfalso;omega)|contradiction)))
 ·have hB:Q7 s e.col 3=false:=by simpa using hB
  rw[hB]at h2 ⊢
  generalize D6 e.name=b2 at *
  generalize decide (Q4 s e.dims=0)=b3 at *
  generalize decide (X3 s e.col e.cols=0)=b4 at *
  clear hB
  refine B5 Tryz.func207 95 fun nL E h0=>?_
  clear nL
  repeat'((first|refine A0 h1 ?_|refine A0 h2 ?_|refine A0 h3 ?_|refine A0 h4 ?_|(refine A9 ?_ ?_;kernel_rfl) |refine S2 ?_|(refine T6 ?_ ?_<;>intro h<;>try exact V1 h)|intro el nJ nK|intro el nJ|exact T4|refine T5 ?_ ?_|intro ex)<;>try conv=>whnf)
  all_goals first
   |(refine A1 rfl (congrArg AV.b ?_);clear h1 h2 h3 h4;(first|(simp only[*,if_true,if_false,Bool.true_eq_false,Bool.false_eq_true,or_true,or_false,true_or,false_or,and_true,true_and,and_false,false_and,not_true_eq_false,not_false_eq_true,ne_eq,reduceIte,Int.reduceEq,Int.reduceLT,Int.reduceLE,Int.reduceNeg,decide_true,decide_false,Bool.not_true,Bool.not_false,Bool.and_true,Bool.true_and,Bool.and_false,Bool.false_and,Bool.or_true,Bool.true_or,Bool.or_false,Bool.false_or,Option.some.injEq];done)|(simp only[*,if_true,if_false,Bool.true_eq_false,Bool.false_eq_true,not_true_eq_false,not_false_eq_true,ne_eq,reduceIte,Int.reduceEq];first|rfl|(repeat' split)<;>first|rfl|omega|(exfalso;omega)|contradiction)))
theorem jC(l:List (F6))(f:Nat)(caps:List AV)(p:(F6)→Bool)(hf:∀x∈l,A3 Tryz.prog f ((fun x=>.agg (Cr x)) x::caps) (.b (p x))):A3 Tryz.prog 233 [.sl 19 (l.map Cr),.fn f caps] (.i (D9 p l 0)):=by
 refine B5 Tryz.func233 19 fun nL E h0=>?_
 have nM:l.length≤9223372036854775807:=by have:=(nL (.sl 19 (l.map Cr)) (by simp)).sl;simpa using this
 repeat'((first|refine S2 ?_|(refine T6 ?_ ?_<;>intro h<;>try exact V1 h)|intro el nJ nK|intro el nJ|exact T4|refine T5 ?_ ?_|intro ex)<;>try conv=>whnf)
 refine B0 (ι:=Nat) (fun k=>⟨[(0,.sl 19 (l.map Cr)),(1,.fn f caps),(7,.i l.length),(8,.i k)],0,[]⟩) (fun k=>k≤l.length∧D9 p l 0=D9 p (l.drop k) k) (fun k=>l.length-k) 0 ⟨Nat.zero_le _,rfl⟩ (A6 h0) (fun k hI=>?_)
 obtain⟨hk,hI⟩:=hI
 repeat'((first|refine A0 (hf _ (List.mem_of_getElem? nJ)) ?_ |refine S2 ?_|(refine T6 ?_ ?_<;>intro h<;>try exact V1 h)|intro el nJ nK|intro el nJ|exact T4|refine T5 ?_ ?_|intro ex)<;>try conv=>whnf)
 all_goals first
  |exact⟨k+1,⟨by omega,by rw[hI,F7 nJ,D9,if_neg (by simp[h])];rfl⟩,by omega,A6 h0⟩
  |exact A1 rfl (congrArg AV.i (by rw[hI,F7 nJ,D9,if_pos (by simp[h])]))
  |exact A1 rfl (congrArg AV.i (by rw[hI,show k=l.length by omega,List.drop_length];rfl))
theorem jD(l:List (F6))(f:Nat)(caps:List AV)(p:(F6)→Bool)(hf:∀x∈l,A3 Tryz.prog f ((fun x=>.agg (Cr x)) x::caps) (.b (p x))):A3 Tryz.prog 209 [.sl 19 (l.map Cr),.fn f caps] (.b (l.any p)):=by
 refine B5 Tryz.func209 9 fun nL E h0=>?_
 have oZ:=jC l f caps p hf
 repeat'((first|refine A0 oZ ?_ |refine S2 ?_|(refine T6 ?_ ?_<;>intro h<;>try exact V1 h)|intro el nJ nK|intro el nJ|exact T4|refine T5 ?_ ?_|intro ex)<;>try conv=>whnf)
 all_goals first
  |exact A1 rfl (congrArg AV.b (Bf p l 0 (by omega)))
theorem WA(s:A4)(k:F6)(yj:A3 Tryz.prog 162 [sA s,AQ k] (.b (Bq s k))):A3 Tryz.prog 210 [AQ k,.iptr (sL s)] (.b (EJ s k)):=by
 have h1:=Rm k.op
 unfold EJ
 generalize Bq s k=b at *
 refine B5 Tryz.func210 14 fun nL E h0=>?_
 clear nL
 repeat'((first|refine A0 h1 ?_|refine A0 yj ?_ |refine S2 ?_|(refine T6 ?_ ?_<;>intro h<;>try exact V1 h)|intro el nJ nK|intro el nJ|exact T4|refine T5 ?_ ?_|intro ex)<;>try conv=>whnf)
 all_goals clear yj h1
 all_goals first
  |(refine A1 rfl (congrArg AV.b ?_);simp[*];done)
theorem ZE(s:A4)(hr:C3 s=0)(e:F6):A3 Tryz.prog 162 [sA s,AQ e] (.b (Bq s e)):=by
 refine Hj (p:=fun e=>A3 Tryz.prog 162 [sA s,AQ e] (.b (Bq s e))) (fun e ih=>?_) e
 have oV:=jD e.kids 210 [.iptr (sL s)] (EJ s) fun k hk=>WA s k (ih k hk)
 have h1:=Vz e.op
 have h2:=Uc e
 have h3:=bh s e
 have h4:=BA s e.cnd
 have h5:=BA s e.evt
 have h6:=Lv e.op
 rw[EK]
 unfold KN
 rw[DI]at h2 h3 ⊢
 generalize decide (GG e)=b1 at *
 generalize EI s e=b2 at *
 generalize J6 s e.cnd=n1 at *
 generalize J6 s e.evt=n2 at *
 generalize (e.kids.any (EJ s))=b3 at *
 rw[show decide (e.kids.length=2)=decide ((e.kids.length:Int)=2) by rw[decide_eq_decide];omega]
 clear ih
 refine B5 Tryz.func162 61 fun nL E h0=>?_
 clear nL
 repeat'((first|refine A0 h1 ?_|refine A0 h2 ?_|refine A0 h3 ?_|refine A0 h4 ?_|refine A0 h5 ?_|refine A0 h6 ?_|refine I6 0 ?_|refine A0 oV ?_|(refine A9 ?_ ?_;kernel_rfl) |refine S2 ?_|(refine T6 ?_ ?_<;>intro h<;>try exact V1 h)|intro el nJ nK|intro el nJ|exact T4|refine T5 ?_ ?_|intro ex)<;>try conv=>whnf)
 all_goals clear h1 h2 h3 h4 h5 h6 oV
 all_goals first
  |(refine A1 rfl (congrArg AV.b ?_);(first|(simp only[*,if_true,if_false,Bool.true_eq_false,Bool.false_eq_true,or_true,or_false,true_or,false_or,and_true,true_and,and_false,false_and,not_true_eq_false,not_false_eq_true,ne_eq,reduceIte,Int.reduceEq,Int.reduceLT,Int.reduceLE,Int.reduceNeg,decide_true,decide_false,Bool.not_true,Bool.not_false,Bool.and_true,Bool.true_and,Bool.and_false,Bool.false_and,Bool.or_true,Bool.true_or,Bool.or_false,Bool.false_or,Option.some.injEq];done)|(simp only[*,if_true,if_false,Bool.true_eq_false,Bool.false_eq_true,not_true_eq_false,not_false_eq_true,ne_eq,reduceIte,Int.reduceEq];first|rfl|(repeat' split)<;>first|rfl|omega|(exfalso;omega)|contradiction)))
  |(refine A1 rfl (congrArg AV.b ?_);simp_all;done)
theorem WB(s:A4)(e:F6):A3 Tryz.prog 106 [sA s,AQ e] (.b (W6 s e)):=by
 have h1:=k6 s
 have h2:=fun hr=>ZE s hr e
 unfold W6
 generalize Bq s e=b at *
 refine B5 Tryz.func106 13 fun nL E h0=>?_
 clear nL
 repeat'((first|refine A0 h1 ?_|refine A0 (h2 (by assumption)) ?_|(refine A9 ?_ ?_;kernel_rfl) |refine S2 ?_|(refine T6 ?_ ?_<;>intro h<;>try exact V1 h)|intro el nJ nK|intro el nJ|exact T4|refine T5 ?_ ?_|intro ex)<;>try conv=>whnf)
 all_goals first
  |(refine A1 rfl (congrArg AV.b ?_);simp[*];done)
instance:G7 Tryz.prog 141 false 1:=.of (by kernel_rfl) (by kernel_rfl)
end Go.Proofs.YtiphlhoclaogjaaGreatDoor
