/- Chapter 16: expressions and statements. Chapter 16: which expressions are right: the program's parts. Chapter 16: the program's check of expressions and programs. -/
import Derived.Test.YtiphlhoclaogjaaGreatDoorQCe1
import Derived.Test.YtiphlhoclaogjaaGreatDoorQCm1
set_option linter.unusedVariables false
set_option linter.unnecessarySimpa false
set_option linter.unusedSimpArgs false
set_option maxHeartbeats 64000000
namespace Go.Proofs.YtiphlhoclaogjaaGreatDoor
open Go Go.Av
attribute [local irreducible] C7 B1 D1 C8 DQ D0 C6 St.le A3 B8
set_option maxRecDepth 100000
inductive G2 where
 |mk (op num:Int) (name:List UInt8) (col:Int) (cols:List Int) (dims:List Pk) (cnd evt:B0) (kids:List G2)
def G2.op:G2→Int|.mk o _ _ _ _ _ _ _ _=>o
def G2.num:G2→Int|.mk _ n _ _ _ _ _ _ _=>n
def G2.name:G2→List UInt8|.mk _ _ nm _ _ _ _ _ _=>nm
def G2.col:G2→Int|.mk _ _ _ c _ _ _ _ _=>c
def G2.cols:G2→List Int|.mk _ _ _ _ cs _ _ _ _=>cs
def G2.dims:G2→List Pk|.mk _ _ _ _ _ ds _ _ _=>ds
def G2.cnd:G2→B0|.mk _ _ _ _ _ _ c _ _=>c
def G2.evt:G2→B0|.mk _ _ _ _ _ _ _ v _=>v
def G2.kids:G2→List G2|.mk _ _ _ _ _ _ _ _ ks=>ks
mutual
def PF:G2→List AV
 |.mk o n nm c cs ds cd ev ks=>[.i o,.i n,.str nm,.i c,.sl 1 (cs.map wA),.sl 2 (ds.map B6),.i cd.op,.i cd.col,.i cd.code,.i cd.lo,.i cd.hi,.sl 6 (cd.kids.map Z8),.i ev.op,.i ev.col,.i ev.code,.i ev.lo,.i ev.hi,.sl 6 (ev.kids.map Z8),.sl 19 (Re ks)]
def Re:List G2→List (List AV)
 |[]=>[]
 |x::r=>PF x::Re r
end
theorem UA:∀ks,Re ks=ks.map PF
 |[]=>rfl
 |x::r=>by rw[Re,UA r];rfl
def Co(e:G2):List AV:=[.i e.op,.i e.num,.str e.name,.i e.col,.sl 1 (e.cols.map wA),.sl 2 (e.dims.map B6),.i e.cnd.op,.i e.cnd.col,.i e.cnd.code,.i e.cnd.lo,.i e.cnd.hi,.sl 6 (e.cnd.kids.map Z8),.i e.evt.op,.i e.evt.col,.i e.evt.code,.i e.evt.lo,.i e.evt.hi,.sl 6 (e.evt.kids.map Z8),.sl 19 (e.kids.map PF)]
theorem ix(e:G2):PF e=Co e:=by
 cases e
 rw[PF,UA];rfl
theorem iy(ks:List G2):ks.map PF=ks.map Co:=List.map_congr_left fun e _=>ix e
abbrev Cp(e:G2):AV:=.agg (Co e)
abbrev Hu(e:G2):List AV:=[.i e.op,.i e.num,.str e.name,.i e.col,.sl 1 (e.cols.map wA),.sl 2 (e.dims.map B6),.i e.cnd.op,.i e.cnd.col,.i e.cnd.code,.i e.cnd.lo,.i e.cnd.hi,.sl 6 (e.cnd.kids.map Z8),.i e.evt.op,.i e.evt.col,.i e.evt.code,.i e.evt.lo,.i e.evt.hi,.sl 6 (e.evt.kids.map Z8),.sl 19 (e.kids.map Co)]
theorem lY(e:G2):Co e=Hu e:=by unfold Co;rw[iy]
theorem Gp(e:G2):Cp e=.agg (Hu e):=by rw[Cp,lY]
theorem Vc{e k:G2}(h:k∈e.kids):SizeOf.sizeOf k<SizeOf.sizeOf e:=by
 cases e with
 |mk o n nm c cs ds cd ev ks =>
  have:=List.sizeOf_lt_of_mem (show _∈ks from h)
  simp only[G2.mk.sizeOf_spec]
  omega
theorem KR{p:G2→Prop}(h:∀e,(∀k∈e.kids,p k)→p e)(e:G2):p e :=
 h e fun k _=>KR h k
termination_by SizeOf.sizeOf e
decreasing_by exact Vc (by assumption)
mutual
def Yt:G2→B0
 |.mk _ _ _ _ _ _ _ _ ks=>.mk 0 0 0 0 0 (bm ks)
def bm:List G2→List B0
 |[]=>[]
 |x::r=>Yt x::bm r
end
structure nV where
 name:List UInt8
 out:Bool
 x:G2
abbrev X7(c:B0):Prop:=c.op=0∧c.col=0∧c.code=0∧c.lo=0∧c.hi=0∧c.kids.length=0
abbrev Nv(op:Int):Prop:=op=1∨op=13
abbrev Jg(op:Int):Prop:=op=2
abbrev BU(op:Int):Prop:=4≤op∧op≤5∨10≤op∧op≤14
abbrev Jh(op:Int):Prop:=op=11
abbrev Ji(op:Int):Prop:=op=10
abbrev Hv(op:Int):Prop:=3≤op∧op≤5∨10≤op∧op≤14
abbrev Hw(op:Int):Prop:=op=12
abbrev Rf(op:Int):List AV:=[.b (decide (Nv op)),.b (decide (Jg op)),.b (decide (BU op)),.b (decide (Jh op)),.b (decide (Ji op)),.b (decide (Hv op)),.b (decide (Hw op))]
abbrev CS(op:Int):Prop:=6≤op∧op≤9
abbrev MA(e:G2):Prop:=(Nv e.op∨e.num=0)∧(Jg e.op∨e.name.length=0)∧(BU e.op∨e.col=0)∧(Jh e.op∨e.cols.length=0)∧(Ji e.op∨e.dims.length=0)∧(Hv e.op∨X7 e.cnd)∧(Hw e.op∨X7 e.evt)∧(CS e.op∨e.kids.length=0)
def Q0(s:A4)(l:List Pk)(i:Nat)(d:Pk):Int:=if I4 s d≠0 then I4 s d else if (B4 s d.col).kind≠2 then 7 else if ((l.take i).any fun x=>decide (x.col=d.col))=true then 10 else 0
def J4(s:A4)(l:List Pk):Int:=if l.length<1∨3<l.length then 1 else E4 (Q0 s l) 0 l
def X8(s:A4)(m:Int)(l:List Int)(i:Nat)(c:Int):Int:=if P6 s c 3=false then 7 else if c=m∨((l.take i).any fun x=>decide (x=c))=true then 10 else 0
def Y7(s:A4)(m:Int)(l:List Int):Int:=if l.length<1∨3<l.length then 1 else E4 (X8 s m l) 0 l
def GQ(s:A4)(e:G2):Bool :=
 if e.op=1 then decide (-1099511627776≤e.num∧e.num≤1099511627776)else if e.op=2 then D5 e.name
 else if e.op=4∨e.op=5∨e.op=14 then P6 s e.col 3
 else if e.op=10 then decide (J4 s e.dims=0) && (decide (e.col=-1) || P6 s e.col 3)
 else if e.op=11 then P6 s e.col 3 && decide (Y7 s e.col e.cols=0)
 else if e.op=12 then P6 s e.col 3 && decide (0≤(B4 s e.col).low)
 else if e.op=13 then P6 s e.col 3 && (B4 s e.col).widths.any fun x=>decide (x=e.num)
 else true
def Yu(s:A4)(e:G2):Bool:=decide (1≤e.op∧e.op≤14) && decide (MA e) && GQ s e && (decide (¬Hv e.op) || decide (H0 s e.cnd=0)) && (decide (¬Hw e.op) || decide (H0 s e.evt=0)) && (decide (¬CS e.op) || decide (e.kids.length=2))
abbrev PG(op:Int):Prop:=1≤op∧op≤9
mutual
def z6(s:A4):G2→Bool
 |.mk o n nm c cs ds cd ev ks=>Yu s (.mk o n nm c cs ds cd ev ks) && !(Yv s ks)
def Yv(s:A4):List G2→Bool
 |[]=>false
 |x::r=>(!decide (PG x.op) || !z6 s x) || Yv s r
end
abbrev MC(s:A4)(k:G2):Bool:=!decide (PG k.op) || !z6 s k
theorem Wr(s:A4):∀l,Yv s l=l.any (MC s)
 |[]=>rfl
 |x::r=>by rw[Yv,Wr s r];rfl
theorem Ws(s:A4)(e:G2):z6 s e=(Yu s e && !(e.kids.any (MC s))):=by
 cases e
 rw[z6,Wr];rfl
def Hx(s:A4)(e:G2):Bool:=decide (C5 s=0) && z6 s e
mutual
def lZ(g:List UInt8→Bool):G2→Bool
 |.mk o n nm c cs ds cd ev ks=>!(decide (o=2) && !g nm) && !(la g ks)
def la(g:List UInt8→Bool):List G2→Bool
 |[]=>false
 |x::r=>(!lZ g x) || la g r
end
theorem Nw(c:B0):A3 Tryz.prog 229 [E0 c] (.b (decide (X7 c))):=by
 rw[G0]
 refine C1 Tryz.func229 32 fun nd E h0=>?_
 clear nd
 repeat'((first|refine S2 ?_|(refine T6 ?_ ?_<;>intro h<;>try exact V1 h)|intro el nX nY|intro el nX|exact T4|refine T5 ?_ ?_|intro ex)<;>try conv=>whnf)
 all_goals first
  |exact A0 rfl (congrArg AV.b (by rw[decide_eq_true (by omega)]))
  |exact A0 rfl (congrArg AV.b (by rw[decide_eq_false (by omega)]))
  |exact A0 rfl (congrArg AV.b (by rw[decide_eq_decide];omega))
theorem Qf(s:A4)(col:Int):A3 Tryz.prog 230 [sA s,.i col] (.b (P6 s col 3)):=by
 refine C1 Tryz.func230 23 fun nd E h0=>?_
 clear nd
 repeat'((first|(refine B5 ?_ ?_;kernel_rfl) |refine S2 ?_|(refine T6 ?_ ?_<;>intro h<;>try exact V1 h)|intro el nX nY|intro el nX|exact T4|refine T5 ?_ ?_|intro ex)<;>try conv=>whnf)
 all_goals first
  |exact A0 rfl (congrArg AV.b (by unfold P6;rw[decide_eq_false (by omega)]))
  |exact A0 rfl (congrArg AV.b (by unfold P6;rw[decide_eq_decide,C0 nX];omega))
theorem RG(op:Int):A3 Tryz.prog 211 [.i op] (.b (decide (PG op))):=by
 refine C1 Tryz.func211 9 fun nd E h0=>?_
 clear nd
 repeat'((first|refine S2 ?_|(refine T6 ?_ ?_<;>intro h<;>try exact V1 h)|intro el nX nY|intro el nX|exact T4|refine T5 ?_ ?_|intro ex)<;>try conv=>whnf)
 all_goals first
  |exact A0 rfl (congrArg AV.b (by rw[decide_eq_true (by omega)]))
  |exact A0 rfl (congrArg AV.b (by rw[decide_eq_false (by omega)]))
  |exact A0 rfl (congrArg AV.b (by rw[decide_eq_decide];omega))
theorem LN(op:Int):A3 Tryz.prog 208 [.i op] (.b (decide (CS op))):=by
 refine C1 Tryz.func208 9 fun nd E h0=>?_
 clear nd
 repeat'((first|refine S2 ?_|(refine T6 ?_ ?_<;>intro h<;>try exact V1 h)|intro el nX nY|intro el nX|exact T4|refine T5 ?_ ?_|intro ex)<;>try conv=>whnf)
 all_goals first
  |exact A0 rfl (congrArg AV.b (by rw[decide_eq_true (by omega)]))
  |exact A0 rfl (congrArg AV.b (by rw[decide_eq_false (by omega)]))
  |exact A0 rfl (congrArg AV.b (by rw[decide_eq_decide];omega))
theorem iz{op:Int}(h:¬(1≤op∧op≤14)):(AV.tup [.agg (Rf op),.b (decide (1≤op∧op≤14))])=.tup [.agg [.b false,.b false,.b false,.b false,.b false,.b false,.b false],.b false]:=by
 unfold Rf
 rw[decide_eq_false (by omega),decide_eq_false (by omega),decide_eq_false (by omega),decide_eq_false (by omega),decide_eq_false (by omega),decide_eq_false (by omega),decide_eq_false (by omega),decide_eq_false (by omega)]
theorem Vd(op:Int):A3 Tryz.prog 205 [.i op] (.tup [.agg (Rf op),.b (decide (1≤op∧op≤14))]):=by
 refine C1 Tryz.func205 38 fun nd E h0=>?_
 clear nd
 repeat'((first|refine S2 ?_|(refine T6 ?_ ?_<;>intro h<;>try exact V1 h)|intro el nX nY|intro el nX|exact T4|refine T5 ?_ ?_|intro ex)<;>try conv=>whnf)
 all_goals first
  |(subst_vars;exact r9 rfl rfl rfl (.refl _) rfl (.refl _) rfl)
  |(rw[iz (by omega)];exact r9 rfl rfl rfl (.refl _) rfl (.refl _) rfl)
theorem UB(e:G2):A3 Tryz.prog 206 [Cp e,.agg (Rf e.op)] (.b (decide (MA e))):=by
 have h1:=Nw e.cnd
 have h2:=Nw e.evt
 have h3:=LN e.op
 rw[Gp]
 refine C1 Tryz.func206 79 fun nd E h0=>?_
 clear nd
 repeat'((first|refine A1 h1 ?_|refine A1 h2 ?_|refine A1 h3 ?_ |refine S2 ?_|(refine T6 ?_ ?_<;>intro h<;>try exact V1 h)|intro el nX nY|intro el nX|exact T4|refine T5 ?_ ?_|intro ex)<;>try conv=>whnf)
 all_goals first
  |exact A0 rfl (congrArg AV.b (decide_eq_true (by (clear h1 h2 h3;simp only[Nv,Jg,BU,Jh,Ji,Hv,Hw,CS,MA,X7,←List.length_eq_zero_iff]at *;omega))).symm)
  |exact A0 rfl (congrArg AV.b (decide_eq_false (by (clear h1 h2 h3;simp only[Nv,Jg,BU,Jh,Ji,Hv,Hw,CS,MA,X7,←List.length_eq_zero_iff]at *;omega))).symm)
  |exact A0 rfl (congrArg AV.b (by rw[decide_eq_decide];(clear h1 h2 h3;simp only[Nv,Jg,BU,Jh,Ji,Hv,Hw,CS,MA,X7,←List.length_eq_zero_iff]at *;omega)))
theorem Yw(x d:Pk):A3 Tryz.prog 243 [QG x,.iptr (B6 d)] (.b (decide (x.col=d.col))):=by
 refine C1 Tryz.func243 9 fun nd E h0=>?_
 clear nd
 repeat'((first|(refine B5 ?_ ?_;kernel_rfl) |refine S2 ?_|(refine T6 ?_ ?_<;>intro h<;>try exact V1 h)|intro el nX nY|intro el nX|exact T4|refine T5 ?_ ?_|intro ex)<;>try conv=>whnf)
 all_goals first
  |exact A0 rfl rfl
theorem UC{s:A4}{p:Pk}(h:I4 s p=0):∃c,0≤p.col∧s.cols[p.col.toNat]?=some c:=by
 unfold I4 j3 F2 at h
 by_cases hc:p.col<1∨(s.cols.length:Int)≤p.col
 ·rw[if_pos hc]at h
  split at h
  ·rw[if_pos (show (-1:Int)<0 by omega)]at h
   omega
  ·exact absurd h (by assumption)
 ·exact⟨_,by omega,List.getElem?_eq_getElem (by omega)⟩
theorem fI{s:A4}{l:List Pk}(h:¬E4 (Q0 s l) 0 l=0):¬J4 s l=0:=by
 unfold J4
 split
 ·omega
 ·exact h
theorem jA(l:List Pk)(k:Nat)(d:Pk):A3 Tryz.prog 103 [.sl 2 ((l.map B6).take k),.fn 243 [.iptr (B6 d)]] (.b ((l.take k).any fun x=>decide (x.col=d.col))):=by
 have h:=Na (l.take k) 243 [.iptr (B6 d)] (fun x=>decide (x.col=d.col)) (fun x _=>Yw x d)
 rw[List.map_take]at h
 exact h
theorem fJ{s:A4}{l:List Pk}{k:Nat}(h:E8 (Q0 s l) l k)(hk:¬(k:Int)<l.length):decide (1≤(l.length:Int)∧(l.length:Int)≤3)=decide (J4 s l=0):=by
 unfold J4
 rw[h.done hk,decide_eq_decide]
 split<;>omega
theorem bo(s:A4)(l:List Pk):A3 Tryz.prog 231 [sA s,.sl 2 (l.map B6)] (.b (decide (J4 s l=0))):=by
 have hp:=fun d=>NY s d
 have oV:=fun k d=>jA l k d
 refine C1 Tryz.func231 42 fun nd E h0=>?_
 have nZ:l.length≤9223372036854775807:=by
  have:=(nd (.sl 2 (l.map B6)) (by simp)).sl
  simpa using this
 clear nd
 repeat'((first|refine S2 ?_|(refine T6 ?_ ?_<;>intro h<;>try exact V1 h)|intro el nX nY|intro el nX|exact T4|refine T5 ?_ ?_|intro ex)<;>try conv=>whnf)
 refine B2 (ι:=Nat) (fun k=>⟨[(1,.sl 2 (l.map B6)),(2,.ref 0 0),(7,.sl 2 (l.map B6)),(8,.i l.length),(9,.i k)],1,[(0,some (.box (sL s)))]⟩) (fun k=>E8 (Q0 s l) l k) (fun k=>l.length-k) 0 (E8.zero _ _)
  (A6 h0) (fun k hI=>?_)
 have no:=hI.1
 by_cases nf:k<l.length
 ·obtain⟨d,hd⟩:∃d,l[k]?=some d:=⟨_,List.getElem?_eq_getElem nf⟩
  have h1:=hp d
  have h2:=oV k d
  have ns:∀e:Int,Q0 s l k d=e→¬e=0→false=decide (J4 s l=0):=fun e h3 h4=>(decide_eq_false (fI (by rw[←hI.hit hd (by rw[h3];exact h4),h3];exact h4))).symm
  have px:Q0 s l k d=0→E8 (Q0 s l) l (k+1):=fun h=>hI.step hd h
  unfold Q0 at ns px
  by_cases qM:I4 s d=0
  ·obtain⟨c,qt,hc⟩:=UC qM
   rw[C0 hc]at ns px
   rw[qM]at h1
   generalize ((l.take k).any fun x=>decide (x.col=d.col))=u at *
   repeat'((first|(refine A2 (x:=d) hd (by omega) ?_)|(refine A2 (x:=c) hc (by omega) ?_)|refine A1 h1 ?_|refine J9 1 ?_|refine A1 h2 ?_ |refine S2 ?_|(refine T6 ?_ ?_<;>intro h<;>try exact V1 h)|intro el nX nY|intro el nX|exact T4|refine T5 ?_ ?_|intro ex)<;>try conv=>whnf)
   all_goals first
    |exact A0 rfl (congrArg AV.b (ns 7 (by rw[if_neg (by omega),if_pos (by assumption)]) (by omega)))
    |exact A0 rfl (congrArg AV.b (ns 10 (by rw[if_neg (by omega),if_neg (by assumption),if_pos (by assumption)]) (by omega)))
    |exact⟨k+1,px (by rw[if_neg (by omega),if_neg (by assumption),if_neg (by simp[*])]),by omega,A6 h0⟩
    |(exfalso;omega)
  ·repeat'((first|(refine A2 (x:=d) hd (by omega) ?_)|refine A1 h1 ?_|refine J9 1 ?_|refine A1 h2 ?_ |refine S2 ?_|(refine T6 ?_ ?_<;>intro h<;>try exact V1 h)|intro el nX nY|intro el nX|exact T4|refine T5 ?_ ?_|intro ex)<;>try conv=>whnf)
   all_goals first
    |exact A0 rfl (congrArg AV.b (ns (I4 s d) (by rw[if_pos (by omega)]) qM))
    |(exfalso;omega)
 ·repeat'((first|refine S2 ?_|(refine T6 ?_ ?_<;>intro h<;>try exact V1 h)|intro el nX nY|intro el nX|exact T4|refine T5 ?_ ?_|intro ex)<;>try conv=>whnf)
  all_goals first
   |(exfalso;omega)
   |(refine A0 rfl (congrArg AV.b ?_);rw[←fJ hI (by omega)];first|(rw[decide_eq_decide];omega)|(rw[eq_comm,decide_eq_false_iff_not];omega))
theorem Yx(l:List Int)(v:Int):A3 Tryz.prog 228 [.sl 1 (l.map wA),.i v] (.i (F3 (fun x=>decide (x=v)) l 0)):=by
 refine C1 Tryz.func228 19 fun nd E h0=>?_
 have nZ:l.length≤9223372036854775807:=by
  have:=(nd (.sl 1 (l.map wA)) (by simp)).sl
  simpa using this
 clear nd
 repeat'((first|refine S2 ?_|(refine T6 ?_ ?_<;>intro h<;>try exact V1 h)|intro el nX nY|intro el nX|exact T4|refine T5 ?_ ?_|intro ex)<;>try conv=>whnf)
 refine B2 (ι:=Nat) (fun k=>⟨[(0,.sl 1 (l.map wA)),(1,.i v),(7,.i l.length),(8,.i k)],0,[]⟩) (fun k=>k≤l.length∧F3 (fun x=>decide (x=v)) l 0=F3 (fun x=>decide (x=v)) (l.drop k) k) (fun k=>l.length-k) 0 ⟨Nat.zero_le _,rfl⟩
  (A6 h0) (fun k hI=>?_)
 obtain⟨hk,hI⟩:=hI
 repeat'((first|(refine B5 ?_ ?_;kernel_rfl) |refine S2 ?_|(refine T6 ?_ ?_<;>intro h<;>try exact V1 h)|intro el nX nY|intro el nX|exact T4|refine T5 ?_ ?_|intro ex)<;>try conv=>whnf)
 all_goals first
  |exact⟨k+1,⟨by omega,by rw[hI,H1 nX,F3,if_neg (by rw[decide_eq_true_iff];omega)];rfl⟩,by omega,A6 h0⟩
  |exact A0 rfl (congrArg AV.i (by rw[hI,H1 nX,F3,if_pos (by rw[decide_eq_true_iff];omega)]))
  |exact A0 rfl (congrArg AV.i (by rw[hI,show k=l.length by omega,List.drop_length];rfl))
theorem Ia(l:List Int)(v:Int):A3 Tryz.prog 204 [.sl 1 (l.map wA),.i v] (.b (l.any fun x=>decide (x=v))):=by
 have h:=Yx l v
 refine C1 Tryz.func204 9 fun nd E h0=>?_
 clear nd
 repeat'((first|refine A1 h ?_ |refine S2 ?_|(refine T6 ?_ ?_<;>intro h<;>try exact V1 h)|intro el nX nY|intro el nX|exact T4|refine T5 ?_ ?_|intro ex)<;>try conv=>whnf)
 all_goals first
  |exact A0 rfl (congrArg AV.b (Bc _ l 0 (by omega)))
theorem jB{s:A4}{m:Int}{l:List Int}(h:¬E4 (X8 s m l) 0 l=0):¬Y7 s m l=0:=by
 unfold Y7
 split
 ·omega
 ·exact h
theorem fK{s:A4}{m:Int}{l:List Int}{k:Nat}(h:E8 (X8 s m l) l k)(hk:¬(k:Int)<l.length):decide (1≤(l.length:Int)∧(l.length:Int)≤3)=decide (Y7 s m l=0):=by
 unfold Y7
 rw[h.done hk,decide_eq_decide]
 split<;>omega
theorem Ib(l:List Int)(k:Nat)(v:Int):A3 Tryz.prog 204 [.sl 1 ((l.map wA).take k),.i v] (.b ((l.take k).any fun x=>decide (x=v))):=by
 have h:=Ia (l.take k) v
 rw[List.map_take]at h
 exact h
theorem Yy(s:A4)(m:Int)(l:List Int):A3 Tryz.prog 232 [sA s,.i m,.sl 1 (l.map wA)] (.b (decide (Y7 s m l=0))):=by
 have hm:=fun c=>Qf s c
 refine C1 Tryz.func232 41 fun nd E h0=>?_
 have nZ:l.length≤9223372036854775807:=by
  have:=(nd (.sl 1 (l.map wA)) (by simp)).sl
  simpa using this
 clear nd
 repeat'((first|refine S2 ?_|(refine T6 ?_ ?_<;>intro h<;>try exact V1 h)|intro el nX nY|intro el nX|exact T4|refine T5 ?_ ?_|intro ex)<;>try conv=>whnf)
 refine B2 (ι:=Nat) (fun k=>⟨[(1,.i m),(2,.sl 1 (l.map wA)),(3,.ref 0 0),(9,.sl 1 (l.map wA)),(10,.i l.length),(11,.i k)],1,[(0,some (.box (sL s)))]⟩) (fun k=>E8 (X8 s m l) l k) (fun k=>l.length-k) 0 (E8.zero _ _)
  (A6 h0) (fun k hI=>?_)
 have no:=hI.1
 by_cases nf:k<l.length
 ·obtain⟨c,hc⟩:∃c,l[k]?=some c:=⟨_,List.getElem?_eq_getElem nf⟩
  have h1:=hm c
  have h2:=Ib l k c
  have ns:∀e:Int,X8 s m l k c=e→¬e=0→false=decide (Y7 s m l=0):=fun e h3 h4=>(decide_eq_false (jB (by rw[←hI.hit hc (by rw[h3];exact h4),h3];exact h4))).symm
  have px:X8 s m l k c=0→E8 (X8 s m l) l (k+1):=fun h=>hI.step hc h
  unfold X8 at ns px
  generalize P6 s c 3=b at *
  generalize ((l.take k).any fun x=>decide (x=c))=u at *
  repeat'((first|(refine A2 (x:=c) hc (by omega) ?_)|refine A1 h1 ?_|refine A1 h2 ?_ |refine S2 ?_|(refine T6 ?_ ?_<;>intro h<;>try exact V1 h)|intro el nX nY|intro el nX|exact T4|refine T5 ?_ ?_|intro ex)<;>try conv=>whnf)
  all_goals first
   |exact A0 rfl (congrArg AV.b (ns 7 (by rw[if_pos (by assumption)]) (by omega)))
   |exact A0 rfl (congrArg AV.b (ns 10 (by rw[if_neg (by simp[*]),if_pos (.inl (by assumption))]) (by omega)))
   |exact A0 rfl (congrArg AV.b (ns 10 (by rw[if_neg (by simp[*]),if_pos (.inr (by assumption))]) (by omega)))
   |exact⟨k+1,px (by rw[if_neg (by simp[*]),if_neg (by simp[*])]),by omega,A6 h0⟩
   |(exfalso;omega)
 ·repeat'((first|refine S2 ?_|(refine T6 ?_ ?_<;>intro h<;>try exact V1 h)|intro el nX nY|intro el nX|exact T4|refine T5 ?_ ?_|intro ex)<;>try conv=>whnf)
  all_goals first
   |(exfalso;omega)
   |(refine A0 rfl (congrArg AV.b ?_);rw[←fK hI (by omega)];first|(rw[decide_eq_decide];omega)|(rw[eq_comm,decide_eq_false_iff_not];omega))
theorem bp(s:A4)(e:G2):A3 Tryz.prog 207 [sA s,Cp e] (.b (GQ s e)):=by
 have h1:=Bw e.name
 have h2:=Qf s e.col
 have h3:=bo s e.dims
 have h4:=Yy s e.col e.cols
 rw[Gp]
 unfold GQ
 by_cases hB:P6 s e.col 3=true
 ·obtain⟨pW,pG,_⟩:0≤e.col∧e.col<s.cols.length∧(B4 s e.col).kind=3:=by simpa [P6]using hB
  obtain⟨c,hc⟩:∃c,s.cols[e.col.toNat]?=some c:=⟨_,List.getElem?_eq_getElem (by omega)⟩
  have h5:=Ia c.widths e.num
  rw[C0 hc]
  rw[hB]at h2 ⊢
  generalize (c.widths.any fun x=>decide (x=e.num))=b1 at *
  generalize D5 e.name=b2 at *
  generalize decide (J4 s e.dims=0)=b3 at *
  generalize decide (Y7 s e.col e.cols=0)=b4 at *
  clear hB
  refine C1 Tryz.func207 95 fun nd E h0=>?_
  clear nd
  repeat'((first|(refine A2 (x:=c) hc (by omega) ?_)|refine A1 h1 ?_|refine A1 h2 ?_|refine A1 h3 ?_|refine A1 h4 ?_|refine A1 h5 ?_|(refine B5 ?_ ?_;kernel_rfl) |refine S2 ?_|(refine T6 ?_ ?_<;>intro h<;>try exact V1 h)|intro el nX nY|intro el nX|exact T4|refine T5 ?_ ?_|intro ex)<;>try conv=>whnf)
  all_goals first
   |(refine A0 rfl (congrArg AV.b ?_);clear h1 h2 h3 h4 h5;(first|(simp only[*,if_true,if_false,Bool.true_eq_false,Bool.false_eq_true,or_true,or_false,true_or,false_or,and_true,true_and,and_false,false_and,not_true_eq_false,not_false_eq_true,ne_eq,reduceIte,Int.reduceEq,Int.reduceLT,Int.reduceLE,Int.reduceNeg,decide_true,decide_false,Bool.not_true,Bool.not_false,Bool.and_true,Bool.true_and,Bool.and_false,Bool.false_and,Bool.or_true,Bool.true_or,Bool.or_false,Bool.false_or,Option.some.injEq];done)|(simp only[*,if_true,if_false,Bool.true_eq_false,Bool.false_eq_true,not_true_eq_false,not_false_eq_true,ne_eq,reduceIte,Int.reduceEq];first|rfl|(repeat' split)<;>first|rfl|omega|(exfalso;omega)|contradiction)))
 ·have hB:P6 s e.col 3=false:=by simpa using hB
  rw[hB]at h2 ⊢
  generalize D5 e.name=b2 at *
  generalize decide (J4 s e.dims=0)=b3 at *
  generalize decide (Y7 s e.col e.cols=0)=b4 at *
  clear hB
  refine C1 Tryz.func207 95 fun nd E h0=>?_
  clear nd
  repeat'((first|refine A1 h1 ?_|refine A1 h2 ?_|refine A1 h3 ?_|refine A1 h4 ?_|(refine B5 ?_ ?_;kernel_rfl) |refine S2 ?_|(refine T6 ?_ ?_<;>intro h<;>try exact V1 h)|intro el nX nY|intro el nX|exact T4|refine T5 ?_ ?_|intro ex)<;>try conv=>whnf)
  all_goals first
   |(refine A0 rfl (congrArg AV.b ?_);clear h1 h2 h3 h4;(first|(simp only[*,if_true,if_false,Bool.true_eq_false,Bool.false_eq_true,or_true,or_false,true_or,false_or,and_true,true_and,and_false,false_and,not_true_eq_false,not_false_eq_true,ne_eq,reduceIte,Int.reduceEq,Int.reduceLT,Int.reduceLE,Int.reduceNeg,decide_true,decide_false,Bool.not_true,Bool.not_false,Bool.and_true,Bool.true_and,Bool.and_false,Bool.false_and,Bool.or_true,Bool.true_or,Bool.or_false,Bool.false_or,Option.some.injEq];done)|(simp only[*,if_true,if_false,Bool.true_eq_false,Bool.false_eq_true,not_true_eq_false,not_false_eq_true,ne_eq,reduceIte,Int.reduceEq];first|rfl|(repeat' split)<;>first|rfl|omega|(exfalso;omega)|contradiction)))
theorem jC(l:List (G2))(f:Nat)(caps:List AV)(p:(G2)→Bool)(hf:∀x∈l,A3 Tryz.prog f ((fun x=>.agg (Co x)) x::caps) (.b (p x))):A3 Tryz.prog 233 [.sl 19 (l.map Co),.fn f caps] (.i (F3 p l 0)):=by
 refine C1 Tryz.func233 19 fun nd E h0=>?_
 have nZ:l.length≤9223372036854775807:=by have:=(nd (.sl 19 (l.map Co)) (by simp)).sl;simpa using this
 repeat'((first|refine S2 ?_|(refine T6 ?_ ?_<;>intro h<;>try exact V1 h)|intro el nX nY|intro el nX|exact T4|refine T5 ?_ ?_|intro ex)<;>try conv=>whnf)
 refine B2 (ι:=Nat) (fun k=>⟨[(0,.sl 19 (l.map Co)),(1,.fn f caps),(7,.i l.length),(8,.i k)],0,[]⟩) (fun k=>k≤l.length∧F3 p l 0=F3 p (l.drop k) k) (fun k=>l.length-k) 0 ⟨Nat.zero_le _,rfl⟩ (A6 h0) (fun k hI=>?_)
 obtain⟨hk,hI⟩:=hI
 repeat'((first|refine A1 (hf _ (List.mem_of_getElem? nX)) ?_ |refine S2 ?_|(refine T6 ?_ ?_<;>intro h<;>try exact V1 h)|intro el nX nY|intro el nX|exact T4|refine T5 ?_ ?_|intro ex)<;>try conv=>whnf)
 all_goals first
  |exact⟨k+1,⟨by omega,by rw[hI,H1 nX,F3,if_neg (by simp[h])];rfl⟩,by omega,A6 h0⟩
  |exact A0 rfl (congrArg AV.i (by rw[hI,H1 nX,F3,if_pos (by simp[h])]))
  |exact A0 rfl (congrArg AV.i (by rw[hI,show k=l.length by omega,List.drop_length];rfl))
theorem jD(l:List (G2))(f:Nat)(caps:List AV)(p:(G2)→Bool)(hf:∀x∈l,A3 Tryz.prog f ((fun x=>.agg (Co x)) x::caps) (.b (p x))):A3 Tryz.prog 209 [.sl 19 (l.map Co),.fn f caps] (.b (l.any p)):=by
 refine C1 Tryz.func209 9 fun nd E h0=>?_
 have ol:=jC l f caps p hf
 repeat'((first|refine A1 ol ?_ |refine S2 ?_|(refine T6 ?_ ?_<;>intro h<;>try exact V1 h)|intro el nX nY|intro el nX|exact T4|refine T5 ?_ ?_|intro ex)<;>try conv=>whnf)
 all_goals first
  |exact A0 rfl (congrArg AV.b (Bc p l 0 (by omega)))
theorem Ve(s:A4)(k:G2)(yX:A3 Tryz.prog 162 [sA s,Cp k] (.b (z6 s k))):A3 Tryz.prog 210 [Cp k,.iptr (sL s)] (.b (MC s k)):=by
 have h1:=RG k.op
 unfold MC
 generalize z6 s k=b at *
 refine C1 Tryz.func210 14 fun nd E h0=>?_
 clear nd
 repeat'((first|refine A1 h1 ?_|refine A1 yX ?_ |refine S2 ?_|(refine T6 ?_ ?_<;>intro h<;>try exact V1 h)|intro el nX nY|intro el nX|exact T4|refine T5 ?_ ?_|intro ex)<;>try conv=>whnf)
 all_goals clear yX h1
 all_goals first
  |(refine A0 rfl (congrArg AV.b ?_);simp[*];done)
theorem Yz(s:A4)(hr:C5 s=0)(e:G2):A3 Tryz.prog 162 [sA s,Cp e] (.b (z6 s e)):=by
 refine KR (p:=fun e=>A3 Tryz.prog 162 [sA s,Cp e] (.b (z6 s e))) (fun e ih=>?_) e
 have oV:=jD e.kids 210 [.iptr (sL s)] (MC s) fun k hk=>Ve s k (ih k hk)
 have h1:=Vd e.op
 have h2:=UB e
 have h3:=bp s e
 have h4:=y5 s e.cnd
 have h5:=y5 s e.evt
 have h6:=LN e.op
 rw[Ws]
 unfold Yu
 rw[Gp]at h2 h3 ⊢
 generalize decide (MA e)=b1 at *
 generalize GQ s e=b2 at *
 generalize H0 s e.cnd=n1 at *
 generalize H0 s e.evt=n2 at *
 generalize (e.kids.any (MC s))=b3 at *
 rw[show decide (e.kids.length=2)=decide ((e.kids.length:Int)=2) by rw[decide_eq_decide];omega]
 clear ih
 refine C1 Tryz.func162 61 fun nd E h0=>?_
 clear nd
 repeat'((first|refine A1 h1 ?_|refine A1 h2 ?_|refine A1 h3 ?_|refine A1 h4 ?_|refine A1 h5 ?_|refine A1 h6 ?_|refine J9 0 ?_|refine A1 oV ?_|(refine B5 ?_ ?_;kernel_rfl) |refine S2 ?_|(refine T6 ?_ ?_<;>intro h<;>try exact V1 h)|intro el nX nY|intro el nX|exact T4|refine T5 ?_ ?_|intro ex)<;>try conv=>whnf)
 all_goals clear h1 h2 h3 h4 h5 h6 oV
 all_goals first
  |(refine A0 rfl (congrArg AV.b ?_);(first|(simp only[*,if_true,if_false,Bool.true_eq_false,Bool.false_eq_true,or_true,or_false,true_or,false_or,and_true,true_and,and_false,false_and,not_true_eq_false,not_false_eq_true,ne_eq,reduceIte,Int.reduceEq,Int.reduceLT,Int.reduceLE,Int.reduceNeg,decide_true,decide_false,Bool.not_true,Bool.not_false,Bool.and_true,Bool.true_and,Bool.and_false,Bool.false_and,Bool.or_true,Bool.true_or,Bool.or_false,Bool.false_or,Option.some.injEq];done)|(simp only[*,if_true,if_false,Bool.true_eq_false,Bool.false_eq_true,not_true_eq_false,not_false_eq_true,ne_eq,reduceIte,Int.reduceEq];first|rfl|(repeat' split)<;>first|rfl|omega|(exfalso;omega)|contradiction)))
  |(refine A0 rfl (congrArg AV.b ?_);simp_all;done)
theorem Vf(s:A4)(e:G2):A3 Tryz.prog 106 [sA s,Cp e] (.b (Hx s e)):=by
 have h1:=c8 s
 have h2:=fun hr=>Yz s hr e
 unfold Hx
 generalize z6 s e=b at *
 refine C1 Tryz.func106 13 fun nd E h0=>?_
 clear nd
 repeat'((first|refine A1 h1 ?_|refine A1 (h2 (by assumption)) ?_|(refine B5 ?_ ?_;kernel_rfl) |refine S2 ?_|(refine T6 ?_ ?_<;>intro h<;>try exact V1 h)|intro el nX nY|intro el nX|exact T4|refine T5 ?_ ?_|intro ex)<;>try conv=>whnf)
 all_goals first
  |(refine A0 rfl (congrArg AV.b ?_);simp[*];done)
instance:G5 Tryz.prog 141 false 1:=.of (by kernel_rfl) (by kernel_rfl)
structure W2 where
 name:List UInt8
 kind:Int
 flt:B0
 dims:List Pk
 mea:Int
 trms:List Int
 evt:B0
abbrev GR(q:W2):List AV:=[.str q.name,.i q.kind,.i q.flt.op,.i q.flt.col,.i q.flt.code,.i q.flt.lo,.i q.flt.hi,.sl 6 (q.flt.kids.map Z8),.sl 2 (q.dims.map B6),.i q.mea,.sl 1 (q.trms.map wA),.i q.evt.op,.i q.evt.col,.i q.evt.code,.i q.evt.lo,.i q.evt.hi,.sl 6 (q.evt.kids.map Z8)]
abbrev EA(q:W2):AV:=.agg (GR q)
structure Cq where
 prj:List UInt8
 src:List UInt8
 coh:B0
 part:Int
 of:Int
 seed:Int
 qs:List W2
abbrev MD(d:Cq):List AV:=[.str d.prj,.str d.src,.i d.coh.op,.i d.coh.col,.i d.coh.code,.i d.coh.lo,.i d.coh.hi,.sl 6 (d.coh.kids.map Z8),.i d.part,.i d.of,.i d.seed,.sl 17 (d.qs.map GR)]
abbrev Jj(d:Cq):AV:=.agg (MD d)
def R4(s:A4)(c:Int):Int:=if 0≤c∧c<s.cols.length then (B4 s c).kind else 0
theorem Nx(s:A4)(c k:Int)(hk:k≠0):P6 s c k=decide (R4 s c=k):=by
 unfold P6 R4
 rw[decide_eq_decide]
 split<;>omega
def Hy(s:A4)(q:W2):Int:=if ¬J4 s q.dims=0 then J4 s q.dims else if ¬q.mea=-1∧¬R4 s q.mea=3 then 7 else if 0<q.trms.length∨¬X7 q.evt then 11 else 0
def Jk(s:A4)(q:W2):Int:=if ¬R4 s q.mea=3 then 7 else if ¬Y7 s q.mea q.trms=0 then Y7 s q.mea q.trms else if 0<q.dims.length∨¬X7 q.evt then 11 else 0
def ME(s:A4)(q:W2):Int:=if ¬R4 s q.mea=3 then 7 else if (B4 s q.mea).low<0 then 2 else if ¬H0 s q.evt=0 then H0 s q.evt else if 0<q.dims.length∨0<q.trms.length then 11 else 0
def O3(s:A4)(q:W2):Int:=if ¬C5 s=0 then C5 s else if D5 q.name=false then 3 else if q.kind<1∨3<q.kind then 4 else if ¬H0 s q.flt=0 then H0 s q.flt else if q.kind=1 then Hy s q else if q.kind=2 then Jk s q else ME s q
def Ny(s:A4)(l:List W2)(i:Nat)(q:W2):Int:=if ¬O3 s q=0 then O3 s q else if ((l.take i).any fun x=>decide (x.name=q.name))=true then 10 else 0
def DS(s:A4)(d:Cq):Int:=if ¬C5 s=0 then C5 s else if D5 d.prj=false∨D5 d.src=false then 3 else if ¬H0 s d.coh=0 then H0 s d.coh else if d.of<1∨1000<d.of∨d.part<1∨d.of<d.part∨d.seed<0∨1099511627776<d.seed then 2 else if d.qs.length=0∨8<d.qs.length then 1 else E4 (Ny s d.qs) 0 d.qs
end Go.Proofs.YtiphlhoclaogjaaGreatDoor
