/- Chapter 16: expressions and statements. Chapter 16: which expressions are right: the program's parts. Chapter 16: the program's check of expressions and programs. -/
import Derived.Test.YtiphlhoclaogjaaGreatDoorSCe1
import Derived.Test.YtiphlhoclaogjaaGreatDoorSC1
set_option linter.unusedVariables false
set_option linter.unnecessarySimpa false
set_option linter.unusedSimpArgs false
set_option maxHeartbeats 64000000
namespace Go.Proofs.YtiphlhoclaogjaaGreatDoor
open Go Go.Av
attribute [local irreducible] C7 B2 D3 C9 DQ D0 C8 St.le A3 B9
set_option maxRecDepth 100000
inductive G8 where
 |mk (op num:Int) (name:List UInt8) (col:Int) (cols:List Int) (dims:List Pk) (cnd evt:B1) (kids:List G8)
def G8.op:G8→Int|.mk o _ _ _ _ _ _ _ _=>o
def G8.num:G8→Int|.mk _ n _ _ _ _ _ _ _=>n
def G8.name:G8→List UInt8|.mk _ _ nm _ _ _ _ _ _=>nm
def G8.col:G8→Int|.mk _ _ _ c _ _ _ _ _=>c
def G8.cols:G8→List Int|.mk _ _ _ _ cs _ _ _ _=>cs
def G8.dims:G8→List Pk|.mk _ _ _ _ _ ds _ _ _=>ds
def G8.cnd:G8→B1|.mk _ _ _ _ _ _ c _ _=>c
def G8.evt:G8→B1|.mk _ _ _ _ _ _ _ v _=>v
def G8.kids:G8→List G8|.mk _ _ _ _ _ _ _ _ ks=>ks
mutual
def PB:G8→List AV
 |.mk o n nm c cs ds cd ev ks=>[.i o,.i n,.str nm,.i c,.sl 1 (cs.map wA),.sl 2 (ds.map B4),.i cd.op,.i cd.col,.i cd.code,.i cd.lo,.i cd.hi,.sl 6 (cd.kids.map L0),.i ev.op,.i ev.col,.i ev.code,.i ev.lo,.i ev.hi,.sl 6 (ev.kids.map L0),.sl 19 (RP ks)]
def RP:List G8→List (List AV)
 |[]=>[]
 |x::r=>PB x::RP r
end
theorem Tl:∀ks,RP ks=ks.map PB
 |[]=>rfl
 |x::r=>by rw[RP,Tl r];rfl
def DI(e:G8):List AV:=[.i e.op,.i e.num,.str e.name,.i e.col,.sl 1 (e.cols.map wA),.sl 2 (e.dims.map B4),.i e.cnd.op,.i e.cnd.col,.i e.cnd.code,.i e.cnd.lo,.i e.cnd.hi,.sl 6 (e.cnd.kids.map L0),.i e.evt.op,.i e.evt.col,.i e.evt.code,.i e.evt.lo,.i e.evt.hi,.sl 6 (e.evt.kids.map L0),.sl 19 (e.kids.map PB)]
theorem gS(e:G8):PB e=DI e:=by
 cases e
 rw[PB,Tl];rfl
theorem gT(ks:List G8):ks.map PB=ks.map DI:=List.map_congr_left fun e _=>gS e
abbrev DJ(e:G8):AV:=.agg (DI e)
abbrev Hv(e:G8):List AV:=[.i e.op,.i e.num,.str e.name,.i e.col,.sl 1 (e.cols.map wA),.sl 2 (e.dims.map B4),.i e.cnd.op,.i e.cnd.col,.i e.cnd.code,.i e.cnd.lo,.i e.cnd.hi,.sl 6 (e.cnd.kids.map L0),.i e.evt.op,.i e.evt.col,.i e.evt.code,.i e.evt.lo,.i e.evt.hi,.sl 6 (e.evt.kids.map L0),.sl 19 (e.kids.map DI)]
theorem jg(e:G8):DI e=Hv e:=by unfold DI;rw[gT]
theorem Gy(e:G8):DJ e=.agg (Hv e):=by rw[DJ,jg]
theorem VG{e k:G8}(h:k∈e.kids):SizeOf.sizeOf k<SizeOf.sizeOf e:=by
 cases e with
 |mk o n nm c cs ds cd ev ks =>
  have:=List.sizeOf_lt_of_mem (show _∈ks from h)
  simp only[G8.mk.sizeOf_spec]
  omega
theorem PC{p:G8→Prop}(h:∀e,(∀k∈e.kids,p k)→p e)(e:G8):p e :=
 h e fun k _=>PC h k
termination_by SizeOf.sizeOf e
decreasing_by exact VG (by assumption)
mutual
def YI:G8→B1
 |.mk _ _ _ _ _ _ _ _ ks=>.mk 0 0 0 0 0 (aa ks)
def aa:List G8→List B1
 |[]=>[]
 |x::r=>YI x::aa r
end
structure lT where
 name:List UInt8
 out:Bool
 x:G8
abbrev Y0(c:B1):Prop:=c.op=0∧c.col=0∧c.code=0∧c.lo=0∧c.hi=0∧c.kids.length=0
abbrev Nx(op:Int):Prop:=op=1∨op=13
abbrev Je(op:Int):Prop:=op=2
abbrev Dx(op:Int):Prop:=4≤op∧op≤5∨10≤op∧op≤14
abbrev Jf(op:Int):Prop:=op=11
abbrev Jg(op:Int):Prop:=op=10
abbrev Hw(op:Int):Prop:=3≤op∧op≤5∨10≤op∧op≤14
abbrev Hx(op:Int):Prop:=op=12
abbrev RQ(op:Int):List AV:=[.b (decide (Nx op)),.b (decide (Je op)),.b (decide (Dx op)),.b (decide (Jf op)),.b (decide (Jg op)),.b (decide (Hw op)),.b (decide (Hx op))]
abbrev Cq(op:Int):Prop:=6≤op∧op≤9
abbrev Ly(e:G8):Prop:=(Nx e.op∨e.num=0)∧(Je e.op∨e.name.length=0)∧(Dx e.op∨e.col=0)∧(Jf e.op∨e.cols.length=0)∧(Jg e.op∨e.dims.length=0)∧(Hw e.op∨Y0 e.cnd)∧(Hx e.op∨Y0 e.evt)∧(Cq e.op∨e.kids.length=0)
def W0(s:A4)(l:List Pk)(i:Nat)(d:Pk):Int:=if P4 s d≠0 then P4 s d else if (C0 s d.col).kind≠2 then 7 else if ((l.take i).any fun x=>decide (x.col=d.col))=true then 10 else 0
def Q8(s:A4)(l:List Pk):Int:=if l.length<1∨3<l.length then 1 else F0 (W0 s l) 0 l
def Y3(s:A4)(m:Int)(l:List Int)(i:Nat)(c:Int):Int:=if j6 s c 3=false then 7 else if c=m∨((l.take i).any fun x=>decide (x=c))=true then 10 else 0
def Z7(s:A4)(m:Int)(l:List Int):Int:=if l.length<1∨3<l.length then 1 else F0 (Y3 s m l) 0 l
def Jh(s:A4)(e:G8):Bool :=
 if e.op=1 then decide (-1099511627776≤e.num∧e.num≤1099511627776)else if e.op=2 then D6 e.name
 else if e.op=4∨e.op=5∨e.op=14 then j6 s e.col 3
 else if e.op=10 then decide (Q8 s e.dims=0) && (decide (e.col=-1) || j6 s e.col 3)
 else if e.op=11 then j6 s e.col 3 && decide (Z7 s e.col e.cols=0)
 else if e.op=12 then j6 s e.col 3 && decide (0≤(C0 s e.col).low)
 else if e.op=13 then j6 s e.col 3 && (C0 s e.col).widths.any fun x=>decide (x=e.num)
 else true
def YJ(s:A4)(e:G8):Bool:=decide (1≤e.op∧e.op≤14) && decide (Ly e) && Jh s e && (decide (¬Hw e.op) || decide (K7 s e.cnd=0)) && (decide (¬Hx e.op) || decide (K7 s e.evt=0)) && (decide (¬Cq e.op) || decide (e.kids.length=2))
abbrev PD(op:Int):Prop:=1≤op∧op≤9
mutual
def CQ(s:A4):G8→Bool
 |.mk o n nm c cs ds cd ev ks=>YJ s (.mk o n nm c cs ds cd ev ks) && !(YK s ks)
def YK(s:A4):List G8→Bool
 |[]=>false
 |x::r=>(!decide (PD x.op) || !CQ s x) || YK s r
end
abbrev Lz(s:A4)(k:G8):Bool:=!decide (PD k.op) || !CQ s k
theorem WT(s:A4):∀l,YK s l=l.any (Lz s)
 |[]=>rfl
 |x::r=>by rw[YK,WT s r];rfl
theorem WU(s:A4)(e:G8):CQ s e=(YJ s e && !(e.kids.any (Lz s))):=by
 cases e
 rw[CQ,WT];rfl
def Ji(s:A4)(e:G8):Bool:=decide (C3 s=0) && CQ s e
mutual
def jh(g:List UInt8→Bool):G8→Bool
 |.mk o n nm c cs ds cd ev ks=>!(decide (o=2) && !g nm) && !(ji g ks)
def ji(g:List UInt8→Bool):List G8→Bool
 |[]=>false
 |x::r=>(!jh g x) || ji g r
end
theorem Ny(c:B1):A3 Tryz.prog 229 [E0 c] (.b (decide (Y0 c))):=by
 rw[F7]
 refine B6 Tryz.func229 32 fun lW E h0=>?_
 clear lW
 repeat'((first|refine S2 ?_|(refine T6 ?_ ?_<;>intro h<;>try exact V1 h)|intro el lU lV|intro el lU|exact T4|refine T5 ?_ ?_|intro ex)<;>try conv=>whnf)
 all_goals first
  |exact A0 rfl (congrArg AV.b (by rw[decide_eq_true (by omega)]))
  |exact A0 rfl (congrArg AV.b (by rw[decide_eq_false (by omega)]))
  |exact A0 rfl (congrArg AV.b (by rw[decide_eq_decide];omega))
theorem Qb(s:A4)(col:Int):A3 Tryz.prog 230 [sA s,.i col] (.b (j6 s col 3)):=by
 refine B6 Tryz.func230 23 fun lW E h0=>?_
 clear lW
 repeat'((first|(refine B3 ?_ ?_;kernel_rfl) |refine S2 ?_|(refine T6 ?_ ?_<;>intro h<;>try exact V1 h)|intro el lU lV|intro el lU|exact T4|refine T5 ?_ ?_|intro ex)<;>try conv=>whnf)
 all_goals first
  |exact A0 rfl (congrArg AV.b (by unfold j6;rw[decide_eq_false (by omega)]))
  |exact A0 rfl (congrArg AV.b (by unfold j6;rw[decide_eq_decide,C1 lU];omega))
theorem Qu(op:Int):A3 Tryz.prog 211 [.i op] (.b (decide (PD op))):=by
 refine B6 Tryz.func211 9 fun lW E h0=>?_
 clear lW
 repeat'((first|refine S2 ?_|(refine T6 ?_ ?_<;>intro h<;>try exact V1 h)|intro el lU lV|intro el lU|exact T4|refine T5 ?_ ?_|intro ex)<;>try conv=>whnf)
 all_goals first
  |exact A0 rfl (congrArg AV.b (by rw[decide_eq_true (by omega)]))
  |exact A0 rfl (congrArg AV.b (by rw[decide_eq_false (by omega)]))
  |exact A0 rfl (congrArg AV.b (by rw[decide_eq_decide];omega))
theorem LL(op:Int):A3 Tryz.prog 208 [.i op] (.b (decide (Cq op))):=by
 refine B6 Tryz.func208 9 fun lW E h0=>?_
 clear lW
 repeat'((first|refine S2 ?_|(refine T6 ?_ ?_<;>intro h<;>try exact V1 h)|intro el lU lV|intro el lU|exact T4|refine T5 ?_ ?_|intro ex)<;>try conv=>whnf)
 all_goals first
  |exact A0 rfl (congrArg AV.b (by rw[decide_eq_true (by omega)]))
  |exact A0 rfl (congrArg AV.b (by rw[decide_eq_false (by omega)]))
  |exact A0 rfl (congrArg AV.b (by rw[decide_eq_decide];omega))
theorem gU{op:Int}(h:¬(1≤op∧op≤14)):(AV.tup [.agg (RQ op),.b (decide (1≤op∧op≤14))])=.tup [.agg [.b false,.b false,.b false,.b false,.b false,.b false,.b false],.b false]:=by
 unfold RQ
 rw[decide_eq_false (by omega),decide_eq_false (by omega),decide_eq_false (by omega),decide_eq_false (by omega),decide_eq_false (by omega),decide_eq_false (by omega),decide_eq_false (by omega),decide_eq_false (by omega)]
theorem VH(op:Int):A3 Tryz.prog 205 [.i op] (.tup [.agg (RQ op),.b (decide (1≤op∧op≤14))]):=by
 refine B6 Tryz.func205 38 fun lW E h0=>?_
 clear lW
 repeat'((first|refine S2 ?_|(refine T6 ?_ ?_<;>intro h<;>try exact V1 h)|intro el lU lV|intro el lU|exact T4|refine T5 ?_ ?_|intro ex)<;>try conv=>whnf)
 all_goals first
  |(subst_vars;exact u3 rfl rfl rfl (.refl _) rfl (.refl _) rfl)
  |(rw[gU (by omega)];exact u3 rfl rfl rfl (.refl _) rfl (.refl _) rfl)
theorem Tm(e:G8):A3 Tryz.prog 206 [DJ e,.agg (RQ e.op)] (.b (decide (Ly e))):=by
 have h1:=Ny e.cnd
 have h2:=Ny e.evt
 have h3:=LL e.op
 rw[Gy]
 refine B6 Tryz.func206 79 fun lW E h0=>?_
 clear lW
 repeat'((first|refine A1 h1 ?_|refine A1 h2 ?_|refine A1 h3 ?_ |refine S2 ?_|(refine T6 ?_ ?_<;>intro h<;>try exact V1 h)|intro el lU lV|intro el lU|exact T4|refine T5 ?_ ?_|intro ex)<;>try conv=>whnf)
 all_goals first
  |exact A0 rfl (congrArg AV.b (decide_eq_true (by (clear h1 h2 h3;simp only[Nx,Je,Dx,Jf,Jg,Hw,Hx,Cq,Ly,Y0,←List.length_eq_zero_iff]at *;omega))).symm)
  |exact A0 rfl (congrArg AV.b (decide_eq_false (by (clear h1 h2 h3;simp only[Nx,Je,Dx,Jf,Jg,Hw,Hx,Cq,Ly,Y0,←List.length_eq_zero_iff]at *;omega))).symm)
  |exact A0 rfl (congrArg AV.b (by rw[decide_eq_decide];(clear h1 h2 h3;simp only[Nx,Je,Dx,Jf,Jg,Hw,Hx,Cq,Ly,Y0,←List.length_eq_zero_iff]at *;omega)))
theorem YL(x d:Pk):A3 Tryz.prog 243 [QB x,.iptr (B4 d)] (.b (decide (x.col=d.col))):=by
 refine B6 Tryz.func243 9 fun lW E h0=>?_
 clear lW
 repeat'((first|(refine B3 ?_ ?_;kernel_rfl) |refine S2 ?_|(refine T6 ?_ ?_<;>intro h<;>try exact V1 h)|intro el lU lV|intro el lU|exact T4|refine T5 ?_ ?_|intro ex)<;>try conv=>whnf)
 all_goals first
  |exact A0 rfl rfl
theorem Tn{s:A4}{p:Pk}(h:P4 s p=0):∃c,0≤p.col∧s.cols[p.col.toNat]?=some c:=by
 unfold P4 Cc E5 at h
 by_cases hc:p.col<1∨(s.cols.length:Int)≤p.col
 ·rw[if_pos hc]at h
  split at h
  ·rw[if_pos (show (-1:Int)<0 by omega)]at h
   omega
  ·exact absurd h (by assumption)
 ·exact⟨_,by omega,List.getElem?_eq_getElem (by omega)⟩
theorem dX{s:A4}{l:List Pk}(h:¬F0 (W0 s l) 0 l=0):¬Q8 s l=0:=by
 unfold Q8
 split
 ·omega
 ·exact h
theorem gV(l:List Pk)(k:Nat)(d:Pk):A3 Tryz.prog 103 [.sl 2 ((l.map B4).take k),.fn 243 [.iptr (B4 d)]] (.b ((l.take k).any fun x=>decide (x.col=d.col))):=by
 have h:=Nb (l.take k) 243 [.iptr (B4 d)] (fun x=>decide (x.col=d.col)) (fun x _=>YL x d)
 rw[List.map_take]at h
 exact h
theorem dY{s:A4}{l:List Pk}{k:Nat}(h:E9 (W0 s l) l k)(hk:¬(k:Int)<l.length):decide (1≤(l.length:Int)∧(l.length:Int)≤3)=decide (Q8 s l=0):=by
 unfold Q8
 rw[h.done hk,decide_eq_decide]
 split<;>omega
theorem ab(s:A4)(l:List Pk):A3 Tryz.prog 231 [sA s,.sl 2 (l.map B4)] (.b (decide (Q8 s l=0))):=by
 have hp:=fun d=>NZ s d
 have me:=fun k d=>gV l k d
 refine B6 Tryz.func231 42 fun lW E h0=>?_
 have lX:l.length≤9223372036854775807:=by
  have:=(lW (.sl 2 (l.map B4)) (by simp)).sl
  simpa using this
 clear lW
 repeat'((first|refine S2 ?_|(refine T6 ?_ ?_<;>intro h<;>try exact V1 h)|intro el lU lV|intro el lU|exact T4|refine T5 ?_ ?_|intro ex)<;>try conv=>whnf)
 refine B0 (ι:=Nat) (fun k=>⟨[(1,.sl 2 (l.map B4)),(2,.ref 0 0),(7,.sl 2 (l.map B4)),(8,.i l.length),(9,.i k)],1,[(0,some (.box (sL s)))]⟩) (fun k=>E9 (W0 s l) l k) (fun k=>l.length-k) 0 (E9.zero _ _)
  (A6 h0) (fun k hI=>?_)
 have lk:=hI.1
 by_cases lY:k<l.length
 ·obtain⟨d,hd⟩:∃d,l[k]?=some d:=⟨_,List.getElem?_eq_getElem lY⟩
  have h1:=hp d
  have h2:=me k d
  have ln:∀e:Int,W0 s l k d=e→¬e=0→false=decide (Q8 s l=0):=fun e h3 h4=>(decide_eq_false (dX (by rw[←hI.hit hd (by rw[h3];exact h4),h3];exact h4))).symm
  have oA:W0 s l k d=0→E9 (W0 s l) l (k+1):=fun h=>hI.step hd h
  unfold W0 at ln oA
  by_cases oL:P4 s d=0
  ·obtain⟨c,pH,hc⟩:=Tn oL
   rw[C1 hc]at ln oA
   rw[oL]at h1
   generalize ((l.take k).any fun x=>decide (x.col=d.col))=u at *
   repeat'((first|(refine A2 (x:=d) hd (by omega) ?_)|(refine A2 (x:=c) hc (by omega) ?_)|refine A1 h1 ?_|refine J1 1 ?_|refine A1 h2 ?_ |refine S2 ?_|(refine T6 ?_ ?_<;>intro h<;>try exact V1 h)|intro el lU lV|intro el lU|exact T4|refine T5 ?_ ?_|intro ex)<;>try conv=>whnf)
   all_goals first
    |exact A0 rfl (congrArg AV.b (ln 7 (by rw[if_neg (by omega),if_pos (by assumption)]) (by omega)))
    |exact A0 rfl (congrArg AV.b (ln 10 (by rw[if_neg (by omega),if_neg (by assumption),if_pos (by assumption)]) (by omega)))
    |exact⟨k+1,oA (by rw[if_neg (by omega),if_neg (by assumption),if_neg (by simp[*])]),by omega,A6 h0⟩
    |(exfalso;omega)
  ·repeat'((first|(refine A2 (x:=d) hd (by omega) ?_)|refine A1 h1 ?_|refine J1 1 ?_|refine A1 h2 ?_ |refine S2 ?_|(refine T6 ?_ ?_<;>intro h<;>try exact V1 h)|intro el lU lV|intro el lU|exact T4|refine T5 ?_ ?_|intro ex)<;>try conv=>whnf)
   all_goals first
    |exact A0 rfl (congrArg AV.b (ln (P4 s d) (by rw[if_pos (by omega)]) oL))
    |(exfalso;omega)
 ·repeat'((first|refine S2 ?_|(refine T6 ?_ ?_<;>intro h<;>try exact V1 h)|intro el lU lV|intro el lU|exact T4|refine T5 ?_ ?_|intro ex)<;>try conv=>whnf)
  all_goals first
   |(exfalso;omega)
   |(refine A0 rfl (congrArg AV.b ?_);rw[←dY hI (by omega)];first|(rw[decide_eq_decide];omega)|(rw[eq_comm,decide_eq_false_iff_not];omega))
theorem YM(l:List Int)(v:Int):A3 Tryz.prog 228 [.sl 1 (l.map wA),.i v] (.i (F4 (fun x=>decide (x=v)) l 0)):=by
 refine B6 Tryz.func228 19 fun lW E h0=>?_
 have lX:l.length≤9223372036854775807:=by
  have:=(lW (.sl 1 (l.map wA)) (by simp)).sl
  simpa using this
 clear lW
 repeat'((first|refine S2 ?_|(refine T6 ?_ ?_<;>intro h<;>try exact V1 h)|intro el lU lV|intro el lU|exact T4|refine T5 ?_ ?_|intro ex)<;>try conv=>whnf)
 refine B0 (ι:=Nat) (fun k=>⟨[(0,.sl 1 (l.map wA)),(1,.i v),(7,.i l.length),(8,.i k)],0,[]⟩) (fun k=>k≤l.length∧F4 (fun x=>decide (x=v)) l 0=F4 (fun x=>decide (x=v)) (l.drop k) k) (fun k=>l.length-k) 0 ⟨Nat.zero_le _,rfl⟩
  (A6 h0) (fun k hI=>?_)
 obtain⟨hk,hI⟩:=hI
 repeat'((first|(refine B3 ?_ ?_;kernel_rfl) |refine S2 ?_|(refine T6 ?_ ?_<;>intro h<;>try exact V1 h)|intro el lU lV|intro el lU|exact T4|refine T5 ?_ ?_|intro ex)<;>try conv=>whnf)
 all_goals first
  |exact⟨k+1,⟨by omega,by rw[hI,G3 lU,F4,if_neg (by rw[decide_eq_true_iff];omega)];rfl⟩,by omega,A6 h0⟩
  |exact A0 rfl (congrArg AV.i (by rw[hI,G3 lU,F4,if_pos (by rw[decide_eq_true_iff];omega)]))
  |exact A0 rfl (congrArg AV.i (by rw[hI,show k=l.length by omega,List.drop_length];rfl))
theorem Ib(l:List Int)(v:Int):A3 Tryz.prog 204 [.sl 1 (l.map wA),.i v] (.b (l.any fun x=>decide (x=v))):=by
 have h:=YM l v
 refine B6 Tryz.func204 9 fun lW E h0=>?_
 clear lW
 repeat'((first|refine A1 h ?_ |refine S2 ?_|(refine T6 ?_ ?_<;>intro h<;>try exact V1 h)|intro el lU lV|intro el lU|exact T4|refine T5 ?_ ?_|intro ex)<;>try conv=>whnf)
 all_goals first
  |exact A0 rfl (congrArg AV.b (CJ _ l 0 (by omega)))
theorem gW{s:A4}{m:Int}{l:List Int}(h:¬F0 (Y3 s m l) 0 l=0):¬Z7 s m l=0:=by
 unfold Z7
 split
 ·omega
 ·exact h
theorem dZ{s:A4}{m:Int}{l:List Int}{k:Nat}(h:E9 (Y3 s m l) l k)(hk:¬(k:Int)<l.length):decide (1≤(l.length:Int)∧(l.length:Int)≤3)=decide (Z7 s m l=0):=by
 unfold Z7
 rw[h.done hk,decide_eq_decide]
 split<;>omega
theorem Ic(l:List Int)(k:Nat)(v:Int):A3 Tryz.prog 204 [.sl 1 ((l.map wA).take k),.i v] (.b ((l.take k).any fun x=>decide (x=v))):=by
 have h:=Ib (l.take k) v
 rw[List.map_take]at h
 exact h
theorem YN(s:A4)(m:Int)(l:List Int):A3 Tryz.prog 232 [sA s,.i m,.sl 1 (l.map wA)] (.b (decide (Z7 s m l=0))):=by
 have hm:=fun c=>Qb s c
 refine B6 Tryz.func232 41 fun lW E h0=>?_
 have lX:l.length≤9223372036854775807:=by
  have:=(lW (.sl 1 (l.map wA)) (by simp)).sl
  simpa using this
 clear lW
 repeat'((first|refine S2 ?_|(refine T6 ?_ ?_<;>intro h<;>try exact V1 h)|intro el lU lV|intro el lU|exact T4|refine T5 ?_ ?_|intro ex)<;>try conv=>whnf)
 refine B0 (ι:=Nat) (fun k=>⟨[(1,.i m),(2,.sl 1 (l.map wA)),(3,.ref 0 0),(9,.sl 1 (l.map wA)),(10,.i l.length),(11,.i k)],1,[(0,some (.box (sL s)))]⟩) (fun k=>E9 (Y3 s m l) l k) (fun k=>l.length-k) 0 (E9.zero _ _)
  (A6 h0) (fun k hI=>?_)
 have lk:=hI.1
 by_cases lY:k<l.length
 ·obtain⟨c,hc⟩:∃c,l[k]?=some c:=⟨_,List.getElem?_eq_getElem lY⟩
  have h1:=hm c
  have h2:=Ic l k c
  have ln:∀e:Int,Y3 s m l k c=e→¬e=0→false=decide (Z7 s m l=0):=fun e h3 h4=>(decide_eq_false (gW (by rw[←hI.hit hc (by rw[h3];exact h4),h3];exact h4))).symm
  have oA:Y3 s m l k c=0→E9 (Y3 s m l) l (k+1):=fun h=>hI.step hc h
  unfold Y3 at ln oA
  generalize j6 s c 3=b at *
  generalize ((l.take k).any fun x=>decide (x=c))=u at *
  repeat'((first|(refine A2 (x:=c) hc (by omega) ?_)|refine A1 h1 ?_|refine A1 h2 ?_ |refine S2 ?_|(refine T6 ?_ ?_<;>intro h<;>try exact V1 h)|intro el lU lV|intro el lU|exact T4|refine T5 ?_ ?_|intro ex)<;>try conv=>whnf)
  all_goals first
   |exact A0 rfl (congrArg AV.b (ln 7 (by rw[if_pos (by assumption)]) (by omega)))
   |exact A0 rfl (congrArg AV.b (ln 10 (by rw[if_neg (by simp[*]),if_pos (.inl (by assumption))]) (by omega)))
   |exact A0 rfl (congrArg AV.b (ln 10 (by rw[if_neg (by simp[*]),if_pos (.inr (by assumption))]) (by omega)))
   |exact⟨k+1,oA (by rw[if_neg (by simp[*]),if_neg (by simp[*])]),by omega,A6 h0⟩
   |(exfalso;omega)
 ·repeat'((first|refine S2 ?_|(refine T6 ?_ ?_<;>intro h<;>try exact V1 h)|intro el lU lV|intro el lU|exact T4|refine T5 ?_ ?_|intro ex)<;>try conv=>whnf)
  all_goals first
   |(exfalso;omega)
   |(refine A0 rfl (congrArg AV.b ?_);rw[←dZ hI (by omega)];first|(rw[decide_eq_decide];omega)|(rw[eq_comm,decide_eq_false_iff_not];omega))
theorem ae(s:A4)(e:G8):A3 Tryz.prog 207 [sA s,DJ e] (.b (Jh s e)):=by
 have h1:=CZ e.name
 have h2:=Qb s e.col
 have h3:=ab s e.dims
 have h4:=YN s e.col e.cols
 rw[Gy]
 unfold Jh
 by_cases hB:j6 s e.col 3=true
 ·obtain⟨nF,nD,_⟩:0≤e.col∧e.col<s.cols.length∧(C0 s e.col).kind=3:=by simpa [j6]using hB
  obtain⟨c,hc⟩:∃c,s.cols[e.col.toNat]?=some c:=⟨_,List.getElem?_eq_getElem (by omega)⟩
  have h5:=Ib c.widths e.num
  rw[C1 hc]
  rw[hB]at h2 ⊢
  generalize (c.widths.any fun x=>decide (x=e.num))=b1 at *
  generalize D6 e.name=b2 at *
  generalize decide (Q8 s e.dims=0)=b3 at *
  generalize decide (Z7 s e.col e.cols=0)=b4 at *
  clear hB
  refine B6 Tryz.func207 95 fun lW E h0=>?_
  clear lW
  repeat'((first|(refine A2 (x:=c) hc (by omega) ?_)|refine A1 h1 ?_|refine A1 h2 ?_|refine A1 h3 ?_|refine A1 h4 ?_|refine A1 h5 ?_|(refine B3 ?_ ?_;kernel_rfl) |refine S2 ?_|(refine T6 ?_ ?_<;>intro h<;>try exact V1 h)|intro el lU lV|intro el lU|exact T4|refine T5 ?_ ?_|intro ex)<;>try conv=>whnf)
  all_goals first
   |(refine A0 rfl (congrArg AV.b ?_);clear h1 h2 h3 h4 h5;(first|(simp only[*,if_true,if_false,Bool.true_eq_false,Bool.false_eq_true,or_true,or_false,true_or,false_or,and_true,true_and,and_false,false_and,not_true_eq_false,not_false_eq_true,ne_eq,reduceIte,Int.reduceEq,Int.reduceLT,Int.reduceLE,Int.reduceNeg,decide_true,decide_false,Bool.not_true,Bool.not_false,Bool.and_true,Bool.true_and,Bool.and_false,Bool.false_and,Bool.or_true,Bool.true_or,Bool.or_false,Bool.false_or,Option.some.injEq];done)|(simp only[*,if_true,if_false,Bool.true_eq_false,Bool.false_eq_true,not_true_eq_false,not_false_eq_true,ne_eq,reduceIte,Int.reduceEq];first|rfl|(repeat' split)<;>first|rfl|omega|(exfalso;omega)|contradiction)))
 ·have hB:j6 s e.col 3=false:=by simpa using hB
  rw[hB]at h2 ⊢
  generalize D6 e.name=b2 at *
  generalize decide (Q8 s e.dims=0)=b3 at *
  generalize decide (Z7 s e.col e.cols=0)=b4 at *
  clear hB
  refine B6 Tryz.func207 95 fun lW E h0=>?_
  clear lW
  repeat'((first|refine A1 h1 ?_|refine A1 h2 ?_|refine A1 h3 ?_|refine A1 h4 ?_|(refine B3 ?_ ?_;kernel_rfl) |refine S2 ?_|(refine T6 ?_ ?_<;>intro h<;>try exact V1 h)|intro el lU lV|intro el lU|exact T4|refine T5 ?_ ?_|intro ex)<;>try conv=>whnf)
  all_goals first
   |(refine A0 rfl (congrArg AV.b ?_);clear h1 h2 h3 h4;(first|(simp only[*,if_true,if_false,Bool.true_eq_false,Bool.false_eq_true,or_true,or_false,true_or,false_or,and_true,true_and,and_false,false_and,not_true_eq_false,not_false_eq_true,ne_eq,reduceIte,Int.reduceEq,Int.reduceLT,Int.reduceLE,Int.reduceNeg,decide_true,decide_false,Bool.not_true,Bool.not_false,Bool.and_true,Bool.true_and,Bool.and_false,Bool.false_and,Bool.or_true,Bool.true_or,Bool.or_false,Bool.false_or,Option.some.injEq];done)|(simp only[*,if_true,if_false,Bool.true_eq_false,Bool.false_eq_true,not_true_eq_false,not_false_eq_true,ne_eq,reduceIte,Int.reduceEq];first|rfl|(repeat' split)<;>first|rfl|omega|(exfalso;omega)|contradiction)))
theorem gX(l:List (G8))(f:Nat)(caps:List AV)(p:(G8)→Bool)(hf:∀x∈l,A3 Tryz.prog f ((fun x=>.agg (DI x)) x::caps) (.b (p x))):A3 Tryz.prog 233 [.sl 19 (l.map DI),.fn f caps] (.i (F4 p l 0)):=by
 refine B6 Tryz.func233 19 fun lW E h0=>?_
 have lX:l.length≤9223372036854775807:=by have:=(lW (.sl 19 (l.map DI)) (by simp)).sl;simpa using this
 repeat'((first|refine S2 ?_|(refine T6 ?_ ?_<;>intro h<;>try exact V1 h)|intro el lU lV|intro el lU|exact T4|refine T5 ?_ ?_|intro ex)<;>try conv=>whnf)
 refine B0 (ι:=Nat) (fun k=>⟨[(0,.sl 19 (l.map DI)),(1,.fn f caps),(7,.i l.length),(8,.i k)],0,[]⟩) (fun k=>k≤l.length∧F4 p l 0=F4 p (l.drop k) k) (fun k=>l.length-k) 0 ⟨Nat.zero_le _,rfl⟩ (A6 h0) (fun k hI=>?_)
 obtain⟨hk,hI⟩:=hI
 repeat'((first|refine A1 (hf _ (List.mem_of_getElem? lU)) ?_ |refine S2 ?_|(refine T6 ?_ ?_<;>intro h<;>try exact V1 h)|intro el lU lV|intro el lU|exact T4|refine T5 ?_ ?_|intro ex)<;>try conv=>whnf)
 all_goals first
  |exact⟨k+1,⟨by omega,by rw[hI,G3 lU,F4,if_neg (by simp[h])];rfl⟩,by omega,A6 h0⟩
  |exact A0 rfl (congrArg AV.i (by rw[hI,G3 lU,F4,if_pos (by simp[h])]))
  |exact A0 rfl (congrArg AV.i (by rw[hI,show k=l.length by omega,List.drop_length];rfl))
theorem gY(l:List (G8))(f:Nat)(caps:List AV)(p:(G8)→Bool)(hf:∀x∈l,A3 Tryz.prog f ((fun x=>.agg (DI x)) x::caps) (.b (p x))):A3 Tryz.prog 209 [.sl 19 (l.map DI),.fn f caps] (.b (l.any p)):=by
 refine B6 Tryz.func209 9 fun lW E h0=>?_
 have mh:=gX l f caps p hf
 repeat'((first|refine A1 mh ?_ |refine S2 ?_|(refine T6 ?_ ?_<;>intro h<;>try exact V1 h)|intro el lU lV|intro el lU|exact T4|refine T5 ?_ ?_|intro ex)<;>try conv=>whnf)
 all_goals first
  |exact A0 rfl (congrArg AV.b (CJ p l 0 (by omega)))
theorem VI(s:A4)(k:G8)(wM:A3 Tryz.prog 162 [sA s,DJ k] (.b (CQ s k))):A3 Tryz.prog 210 [DJ k,.iptr (sL s)] (.b (Lz s k)):=by
 have h1:=Qu k.op
 unfold Lz
 generalize CQ s k=b at *
 refine B6 Tryz.func210 14 fun lW E h0=>?_
 clear lW
 repeat'((first|refine A1 h1 ?_|refine A1 wM ?_ |refine S2 ?_|(refine T6 ?_ ?_<;>intro h<;>try exact V1 h)|intro el lU lV|intro el lU|exact T4|refine T5 ?_ ?_|intro ex)<;>try conv=>whnf)
 all_goals clear wM h1
 all_goals first
  |(refine A0 rfl (congrArg AV.b ?_);simp[*];done)
theorem YO(s:A4)(hr:C3 s=0)(e:G8):A3 Tryz.prog 162 [sA s,DJ e] (.b (CQ s e)):=by
 refine PC (p:=fun e=>A3 Tryz.prog 162 [sA s,DJ e] (.b (CQ s e))) (fun e ih=>?_) e
 have me:=gY e.kids 210 [.iptr (sL s)] (Lz s) fun k hk=>VI s k (ih k hk)
 have h1:=VH e.op
 have h2:=Tm e
 have h3:=ae s e
 have h4:=Ae s e.cnd
 have h5:=Ae s e.evt
 have h6:=LL e.op
 rw[WU]
 unfold YJ
 rw[Gy]at h2 h3 ⊢
 generalize decide (Ly e)=b1 at *
 generalize Jh s e=b2 at *
 generalize K7 s e.cnd=n1 at *
 generalize K7 s e.evt=n2 at *
 generalize (e.kids.any (Lz s))=b3 at *
 rw[show decide (e.kids.length=2)=decide ((e.kids.length:Int)=2) by rw[decide_eq_decide];omega]
 clear ih
 refine B6 Tryz.func162 61 fun lW E h0=>?_
 clear lW
 repeat'((first|refine A1 h1 ?_|refine A1 h2 ?_|refine A1 h3 ?_|refine A1 h4 ?_|refine A1 h5 ?_|refine A1 h6 ?_|refine J1 0 ?_|refine A1 me ?_|(refine B3 ?_ ?_;kernel_rfl) |refine S2 ?_|(refine T6 ?_ ?_<;>intro h<;>try exact V1 h)|intro el lU lV|intro el lU|exact T4|refine T5 ?_ ?_|intro ex)<;>try conv=>whnf)
 all_goals clear h1 h2 h3 h4 h5 h6 me
 all_goals first
  |(refine A0 rfl (congrArg AV.b ?_);(first|(simp only[*,if_true,if_false,Bool.true_eq_false,Bool.false_eq_true,or_true,or_false,true_or,false_or,and_true,true_and,and_false,false_and,not_true_eq_false,not_false_eq_true,ne_eq,reduceIte,Int.reduceEq,Int.reduceLT,Int.reduceLE,Int.reduceNeg,decide_true,decide_false,Bool.not_true,Bool.not_false,Bool.and_true,Bool.true_and,Bool.and_false,Bool.false_and,Bool.or_true,Bool.true_or,Bool.or_false,Bool.false_or,Option.some.injEq];done)|(simp only[*,if_true,if_false,Bool.true_eq_false,Bool.false_eq_true,not_true_eq_false,not_false_eq_true,ne_eq,reduceIte,Int.reduceEq];first|rfl|(repeat' split)<;>first|rfl|omega|(exfalso;omega)|contradiction)))
  |(refine A0 rfl (congrArg AV.b ?_);simp_all;done)
theorem VJ(s:A4)(e:G8):A3 Tryz.prog 106 [sA s,DJ e] (.b (Ji s e)):=by
 have h1:=a6 s
 have h2:=fun hr=>YO s hr e
 unfold Ji
 generalize CQ s e=b at *
 refine B6 Tryz.func106 13 fun lW E h0=>?_
 clear lW
 repeat'((first|refine A1 h1 ?_|refine A1 (h2 (by assumption)) ?_|(refine B3 ?_ ?_;kernel_rfl) |refine S2 ?_|(refine T6 ?_ ?_<;>intro h<;>try exact V1 h)|intro el lU lV|intro el lU|exact T4|refine T5 ?_ ?_|intro ex)<;>try conv=>whnf)
 all_goals first
  |(refine A0 rfl (congrArg AV.b ?_);simp[*];done)
instance:G6 Tryz.prog 141 false 1:=.of (by kernel_rfl) (by kernel_rfl)
end Go.Proofs.YtiphlhoclaogjaaGreatDoor
