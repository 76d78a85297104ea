/- Chapter 16: expressions and statements. Chapter 16: which expressions are right: the program's parts. Chapter 16: the program's check of expressions and programs. -/
import Derived.Test.YtjkbhaaobhgkdabGreatDoorRCe1
import Derived.Test.YtjkbhaaobhgkdabGreatDoorRC1
set_option linter.unusedVariables false
set_option linter.unnecessarySimpa false
set_option linter.unusedSimpArgs false
set_option maxHeartbeats 64000000
namespace Go.Proofs.YtjkbhaaobhgkdabGreatDoor
open Go Go.Av
attribute [local irreducible] D0 B0 D2 C7 DQ D1 C8 St.le A3 B6
set_option maxRecDepth 100000
inductive G0 where
 |mk (op num:Int) (name:List UInt8) (col:Int) (cols:List Int) (dims:List Pk) (cnd evt:B1) (kids:List G0)
def G0.op:G0→Int|.mk o _ _ _ _ _ _ _ _=>o
def G0.num:G0→Int|.mk _ n _ _ _ _ _ _ _=>n
def G0.name:G0→List UInt8|.mk _ _ nm _ _ _ _ _ _=>nm
def G0.col:G0→Int|.mk _ _ _ c _ _ _ _ _=>c
def G0.cols:G0→List Int|.mk _ _ _ _ cs _ _ _ _=>cs
def G0.dims:G0→List Pk|.mk _ _ _ _ _ ds _ _ _=>ds
def G0.cnd:G0→B1|.mk _ _ _ _ _ _ c _ _=>c
def G0.evt:G0→B1|.mk _ _ _ _ _ _ _ v _=>v
def G0.kids:G0→List G0|.mk _ _ _ _ _ _ _ _ ks=>ks
mutual
def PI:G0→List AV
 |.mk o n nm c cs ds cd ev ks=>[.i o,.i n,.str nm,.i c,.sl 1 (cs.map wA),.sl 2 (ds.map B5),.i cd.op,.i cd.col,.i cd.code,.i cd.lo,.i cd.hi,.sl 6 (cd.kids.map W8),.i ev.op,.i ev.col,.i ev.code,.i ev.lo,.i ev.hi,.sl 6 (ev.kids.map W8),.sl 19 (Ra ks)]
def Ra:List G0→List (List AV)
 |[]=>[]
 |x::r=>PI x::Ra r
end
theorem Ty:∀ks,Ra ks=ks.map PI
 |[]=>rfl
 |x::r=>by rw[Ra,Ty r];rfl
def DB(e:G0):List AV:=[.i e.op,.i e.num,.str e.name,.i e.col,.sl 1 (e.cols.map wA),.sl 2 (e.dims.map B5),.i e.cnd.op,.i e.cnd.col,.i e.cnd.code,.i e.cnd.lo,.i e.cnd.hi,.sl 6 (e.cnd.kids.map W8),.i e.evt.op,.i e.evt.col,.i e.evt.code,.i e.evt.lo,.i e.evt.hi,.sl 6 (e.evt.kids.map W8),.sl 19 (e.kids.map PI)]
theorem ii(e:G0):PI e=DB e:=by
 cases e
 rw[PI,Ty];rfl
theorem ij(ks:List G0):ks.map PI=ks.map DB:=List.map_congr_left fun e _=>ii e
abbrev DC(e:G0):AV:=.agg (DB e)
abbrev Hw(e:G0):List AV:=[.i e.op,.i e.num,.str e.name,.i e.col,.sl 1 (e.cols.map wA),.sl 2 (e.dims.map B5),.i e.cnd.op,.i e.cnd.col,.i e.cnd.code,.i e.cnd.lo,.i e.cnd.hi,.sl 6 (e.cnd.kids.map W8),.i e.evt.op,.i e.evt.col,.i e.evt.code,.i e.evt.lo,.i e.evt.hi,.sl 6 (e.evt.kids.map W8),.sl 19 (e.kids.map DB)]
theorem lK(e:G0):DB e=Hw e:=by unfold DB;rw[ij]
theorem HA(e:G0):DC e=.agg (Hw e):=by rw[DC,lK]
theorem Vb{e k:G0}(h:k∈e.kids):SizeOf.sizeOf k<SizeOf.sizeOf e:=by
 cases e with
 |mk o n nm c cs ds cd ev ks =>
  have:=List.sizeOf_lt_of_mem (show _∈ks from h)
  simp only[G0.mk.sizeOf_spec]
  omega
theorem Kg{p:G0→Prop}(h:∀e,(∀k∈e.kids,p k)→p e)(e:G0):p e :=
 h e fun k _=>Kg h k
termination_by SizeOf.sizeOf e
decreasing_by exact Vb (by assumption)
mutual
def Ym:G0→B1
 |.mk _ _ _ _ _ _ _ _ ks=>.mk 0 0 0 0 0 (bT ks)
def bT:List G0→List B1
 |[]=>[]
 |x::r=>Ym x::bT r
end
structure nL where
 name:List UInt8
 out:Bool
 x:G0
abbrev V6(c:B1):Prop:=c.op=0∧c.col=0∧c.code=0∧c.lo=0∧c.hi=0∧c.kids.length=0
abbrev OA(op:Int):Prop:=op=1∨op=13
abbrev Jm(op:Int):Prop:=op=2
abbrev Bo(op:Int):Prop:=4≤op∧op≤5∨10≤op∧op≤14
abbrev Jn(op:Int):Prop:=op=11
abbrev Jo(op:Int):Prop:=op=10
abbrev Hx(op:Int):Prop:=3≤op∧op≤5∨10≤op∧op≤14
abbrev Hy(op:Int):Prop:=op=12
abbrev Rb(op:Int):List AV:=[.b (decide (OA op)),.b (decide (Jm op)),.b (decide (Bo op)),.b (decide (Jn op)),.b (decide (Jo op)),.b (decide (Hx op)),.b (decide (Hy op))]
abbrev Cg(op:Int):Prop:=6≤op∧op≤9
abbrev ML(e:G0):Prop:=(OA e.op∨e.num=0)∧(Jm e.op∨e.name.length=0)∧(Bo e.op∨e.col=0)∧(Jn e.op∨e.cols.length=0)∧(Jo e.op∨e.dims.length=0)∧(Hx e.op∨V6 e.cnd)∧(Hy e.op∨V6 e.evt)∧(Cg e.op∨e.kids.length=0)
def P9(s:A4)(l:List Pk)(i:Nat)(d:Pk):Int:=if I4 s d≠0 then I4 s d else if (B4 s d.col).kind≠2 then 7 else if ((l.take i).any fun x=>decide (x.col=d.col))=true then 10 else 0
def L0(s:A4)(l:List Pk):Int:=if l.length<1∨3<l.length then 1 else E8 (P9 s l) 0 l
def V7(s:A4)(m:Int)(l:List Int)(i:Nat)(c:Int):Int:=if P1 s c 3=false then 7 else if c=m∨((l.take i).any fun x=>decide (x=c))=true then 10 else 0
def W2(s:A4)(m:Int)(l:List Int):Int:=if l.length<1∨3<l.length then 1 else E8 (V7 s m l) 0 l
def Gd(s:A4)(e:G0):Bool :=
 if e.op=1 then decide (-1099511627776≤e.num∧e.num≤1099511627776)else if e.op=2 then D5 e.name
 else if e.op=4∨e.op=5∨e.op=14 then P1 s e.col 3
 else if e.op=10 then decide (L0 s e.dims=0) && (decide (e.col=-1) || P1 s e.col 3)
 else if e.op=11 then P1 s e.col 3 && decide (W2 s e.col e.cols=0)
 else if e.op=12 then P1 s e.col 3 && decide (0≤(B4 s e.col).low)
 else if e.op=13 then P1 s e.col 3 && (B4 s e.col).widths.any fun x=>decide (x=e.num)
 else true
def Yn(s:A4)(e:G0):Bool:=decide (1≤e.op∧e.op≤14) && decide (ML e) && Gd s e && (decide (¬Hx e.op) || decide (J6 s e.cnd=0)) && (decide (¬Hy e.op) || decide (J6 s e.evt=0)) && (decide (¬Cg e.op) || decide (e.kids.length=2))
abbrev PJ(op:Int):Prop:=1≤op∧op≤9
mutual
def AP(s:A4):G0→Bool
 |.mk o n nm c cs ds cd ev ks=>Yn s (.mk o n nm c cs ds cd ev ks) && !(Yo s ks)
def Yo(s:A4):List G0→Bool
 |[]=>false
 |x::r=>(!decide (PJ x.op) || !AP s x) || Yo s r
end
abbrev MM(s:A4)(k:G0):Bool:=!decide (PJ k.op) || !AP s k
theorem Ws(s:A4):∀l,Yo s l=l.any (MM s)
 |[]=>rfl
 |x::r=>by rw[Yo,Ws s r];rfl
theorem Wt(s:A4)(e:G0):AP s e=(Yn s e && !(e.kids.any (MM s))):=by
 cases e
 rw[AP,Ws];rfl
def Hz(s:A4)(e:G0):Bool:=decide (C5 s=0) && AP s e
mutual
def lL(g:List UInt8→Bool):G0→Bool
 |.mk o n nm c cs ds cd ev ks=>!(decide (o=2) && !g nm) && !(lM g ks)
def lM(g:List UInt8→Bool):List G0→Bool
 |[]=>false
 |x::r=>(!lL g x) || lM g r
end
theorem OB(c:B1):A3 Tryz.prog 176 [E7 c] (.b (decide (V6 c))):=by
 rw[F8]
 refine C0 Tryz.func176 32 fun nQ E h0=>?_
 clear nQ
 repeat'((first|refine S2 ?_|(refine T6 ?_ ?_<;>intro h<;>try exact V1 h)|intro el nN nP|intro el nN|exact T4|refine T5 ?_ ?_|intro ex)<;>try conv=>whnf)
 all_goals first
  |exact A0 rfl (congrArg AV.b (by rw[decide_eq_true (by omega)]))
  |exact A0 rfl (congrArg AV.b (by rw[decide_eq_false (by omega)]))
  |exact A0 rfl (congrArg AV.b (by rw[decide_eq_decide];omega))
theorem Qi(s:A4)(col:Int):A3 Tryz.prog 177 [sA s,.i col] (.b (P1 s col 3)):=by
 refine C0 Tryz.func177 23 fun nQ E h0=>?_
 clear nQ
 repeat'((first|(refine B8 ?_ ?_;kernel_rfl) |refine S2 ?_|(refine T6 ?_ ?_<;>intro h<;>try exact V1 h)|intro el nN nP|intro el nN|exact T4|refine T5 ?_ ?_|intro ex)<;>try conv=>whnf)
 all_goals first
  |exact A0 rfl (congrArg AV.b (by unfold P1;rw[decide_eq_false (by omega)]))
  |exact A0 rfl (congrArg AV.b (by unfold P1;rw[decide_eq_decide,B7 nN];omega))
theorem RG(op:Int):A3 Tryz.prog 149 [.i op] (.b (decide (PJ op))):=by
 refine C0 Tryz.func149 9 fun nQ E h0=>?_
 clear nQ
 repeat'((first|refine S2 ?_|(refine T6 ?_ ?_<;>intro h<;>try exact V1 h)|intro el nN nP|intro el nN|exact T4|refine T5 ?_ ?_|intro ex)<;>try conv=>whnf)
 all_goals first
  |exact A0 rfl (congrArg AV.b (by rw[decide_eq_true (by omega)]))
  |exact A0 rfl (congrArg AV.b (by rw[decide_eq_false (by omega)]))
  |exact A0 rfl (congrArg AV.b (by rw[decide_eq_decide];omega))
theorem LX(op:Int):A3 Tryz.prog 146 [.i op] (.b (decide (Cg op))):=by
 refine C0 Tryz.func146 9 fun nQ E h0=>?_
 clear nQ
 repeat'((first|refine S2 ?_|(refine T6 ?_ ?_<;>intro h<;>try exact V1 h)|intro el nN nP|intro el nN|exact T4|refine T5 ?_ ?_|intro ex)<;>try conv=>whnf)
 all_goals first
  |exact A0 rfl (congrArg AV.b (by rw[decide_eq_true (by omega)]))
  |exact A0 rfl (congrArg AV.b (by rw[decide_eq_false (by omega)]))
  |exact A0 rfl (congrArg AV.b (by rw[decide_eq_decide];omega))
theorem ik{op:Int}(h:¬(1≤op∧op≤14)):(AV.tup [.agg (Rb op),.b (decide (1≤op∧op≤14))])=.tup [.agg [.b false,.b false,.b false,.b false,.b false,.b false,.b false],.b false]:=by
 unfold Rb
 rw[decide_eq_false (by omega),decide_eq_false (by omega),decide_eq_false (by omega),decide_eq_false (by omega),decide_eq_false (by omega),decide_eq_false (by omega),decide_eq_false (by omega),decide_eq_false (by omega)]
theorem Vc(op:Int):A3 Tryz.prog 143 [.i op] (.tup [.agg (Rb op),.b (decide (1≤op∧op≤14))]):=by
 refine C0 Tryz.func143 38 fun nQ E h0=>?_
 clear nQ
 repeat'((first|refine S2 ?_|(refine T6 ?_ ?_<;>intro h<;>try exact V1 h)|intro el nN nP|intro el nN|exact T4|refine T5 ?_ ?_|intro ex)<;>try conv=>whnf)
 all_goals first
  |(subst_vars;exact q9 rfl rfl rfl (.refl _) rfl (.refl _) rfl)
  |(rw[ik (by omega)];exact q9 rfl rfl rfl (.refl _) rfl (.refl _) rfl)
theorem Tz(e:G0):A3 Tryz.prog 144 [DC e,.agg (Rb e.op)] (.b (decide (ML e))):=by
 have h1:=OB e.cnd
 have h2:=OB e.evt
 have h3:=LX e.op
 rw[HA]
 refine C0 Tryz.func144 79 fun nQ E h0=>?_
 clear nQ
 repeat'((first|refine A1 h1 ?_|refine A1 h2 ?_|refine A1 h3 ?_ |refine S2 ?_|(refine T6 ?_ ?_<;>intro h<;>try exact V1 h)|intro el nN nP|intro el nN|exact T4|refine T5 ?_ ?_|intro ex)<;>try conv=>whnf)
 all_goals first
  |exact A0 rfl (congrArg AV.b (decide_eq_true (by (clear h1 h2 h3;simp only[OA,Jm,Bo,Jn,Jo,Hx,Hy,Cg,ML,V6,←List.length_eq_zero_iff]at *;omega))).symm)
  |exact A0 rfl (congrArg AV.b (decide_eq_false (by (clear h1 h2 h3;simp only[OA,Jm,Bo,Jn,Jo,Hx,Hy,Cg,ML,V6,←List.length_eq_zero_iff]at *;omega))).symm)
  |exact A0 rfl (congrArg AV.b (by rw[decide_eq_decide];(clear h1 h2 h3;simp only[OA,Jm,Bo,Jn,Jo,Hx,Hy,Cg,ML,V6,←List.length_eq_zero_iff]at *;omega)))
theorem Yp(x d:Pk):A3 Tryz.prog 203 [QJ x,.iptr (B5 d)] (.b (decide (x.col=d.col))):=by
 refine C0 Tryz.func203 9 fun nQ E h0=>?_
 clear nQ
 repeat'((first|(refine B8 ?_ ?_;kernel_rfl) |refine S2 ?_|(refine T6 ?_ ?_<;>intro h<;>try exact V1 h)|intro el nN nP|intro el nN|exact T4|refine T5 ?_ ?_|intro ex)<;>try conv=>whnf)
 all_goals first
  |exact A0 rfl rfl
theorem UA{s:A4}{p:Pk}(h:I4 s p=0):∃c,0≤p.col∧s.cols[p.col.toNat]?=some c:=by
 unfold I4 l8 F0 at h
 by_cases hc:p.col<1∨(s.cols.length:Int)≤p.col
 ·rw[if_pos hc]at h
  split at h
  ·rw[if_pos (show (-1:Int)<0 by omega)]at h
   omega
  ·exact absurd h (by assumption)
 ·exact⟨_,by omega,List.getElem?_eq_getElem (by omega)⟩
theorem eb{s:A4}{l:List Pk}(h:¬E8 (P9 s l) 0 l=0):¬L0 s l=0:=by
 unfold L0
 split
 ·omega
 ·exact h
theorem il(l:List Pk)(k:Nat)(d:Pk):A3 Tryz.prog 56 [.sl 2 ((l.map B5).take k),.fn 203 [.iptr (B5 d)]] (.b ((l.take k).any fun x=>decide (x.col=d.col))):=by
 have h:=Ni (l.take k) 203 [.iptr (B5 d)] (fun x=>decide (x.col=d.col)) (fun x _=>Yp x d)
 rw[List.map_take]at h
 exact h
theorem ee{s:A4}{l:List Pk}{k:Nat}(h:F1 (P9 s l) l k)(hk:¬(k:Int)<l.length):decide (1≤(l.length:Int)∧(l.length:Int)≤3)=decide (L0 s l=0):=by
 unfold L0
 rw[h.done hk,decide_eq_decide]
 split<;>omega
theorem bU(s:A4)(l:List Pk):A3 Tryz.prog 178 [sA s,.sl 2 (l.map B5)] (.b (decide (L0 s l=0))):=by
 have hp:=fun d=>Ng s d
 have oJ:=fun k d=>il l k d
 refine C0 Tryz.func178 42 fun nQ E h0=>?_
 have nO:l.length≤9223372036854775807:=by
  have:=(nQ (.sl 2 (l.map B5)) (by simp)).sl
  simpa using this
 clear nQ
 repeat'((first|refine S2 ?_|(refine T6 ?_ ?_<;>intro h<;>try exact V1 h)|intro el nN nP|intro el nN|exact T4|refine T5 ?_ ?_|intro ex)<;>try conv=>whnf)
 refine B2 (ι:=Nat) (fun k=>⟨[(1,.sl 2 (l.map B5)),(2,.ref 0 0),(7,.sl 2 (l.map B5)),(8,.i l.length),(9,.i k)],1,[(0,some (.box (sL s)))]⟩) (fun k=>F1 (P9 s l) l k) (fun k=>l.length-k) 0 (F1.zero _ _)
  (A6 h0) (fun k hI=>?_)
 have nZ:=hI.1
 by_cases nR:k<l.length
 ·obtain⟨d,hd⟩:∃d,l[k]?=some d:=⟨_,List.getElem?_eq_getElem nR⟩
  have h1:=hp d
  have h2:=oJ k d
  have nf:∀e:Int,P9 s l k d=e→¬e=0→false=decide (L0 s l=0):=fun e h3 h4=>(decide_eq_false (eb (by rw[←hI.hit hd (by rw[h3];exact h4),h3];exact h4))).symm
  have pm:P9 s l k d=0→F1 (P9 s l) l (k+1):=fun h=>hI.step hd h
  unfold P9 at nf pm
  by_cases qE:I4 s d=0
  ·obtain⟨c,qv,hc⟩:=UA qE
   rw[B7 hc]at nf pm
   rw[qE]at h1
   generalize ((l.take k).any fun x=>decide (x.col=d.col))=u at *
   repeat'((first|(refine A2 (x:=d) hd (by omega) ?_)|(refine A2 (x:=c) hc (by omega) ?_)|refine A1 h1 ?_|refine I6 1 ?_|refine A1 h2 ?_ |refine S2 ?_|(refine T6 ?_ ?_<;>intro h<;>try exact V1 h)|intro el nN nP|intro el nN|exact T4|refine T5 ?_ ?_|intro ex)<;>try conv=>whnf)
   all_goals first
    |exact A0 rfl (congrArg AV.b (nf 7 (by rw[if_neg (by omega),if_pos (by assumption)]) (by omega)))
    |exact A0 rfl (congrArg AV.b (nf 10 (by rw[if_neg (by omega),if_neg (by assumption),if_pos (by assumption)]) (by omega)))
    |exact⟨k+1,pm (by rw[if_neg (by omega),if_neg (by assumption),if_neg (by simp[*])]),by omega,A6 h0⟩
    |(exfalso;omega)
  ·repeat'((first|(refine A2 (x:=d) hd (by omega) ?_)|refine A1 h1 ?_|refine I6 1 ?_|refine A1 h2 ?_ |refine S2 ?_|(refine T6 ?_ ?_<;>intro h<;>try exact V1 h)|intro el nN nP|intro el nN|exact T4|refine T5 ?_ ?_|intro ex)<;>try conv=>whnf)
   all_goals first
    |exact A0 rfl (congrArg AV.b (nf (I4 s d) (by rw[if_pos (by omega)]) qE))
    |(exfalso;omega)
 ·repeat'((first|refine S2 ?_|(refine T6 ?_ ?_<;>intro h<;>try exact V1 h)|intro el nN nP|intro el nN|exact T4|refine T5 ?_ ?_|intro ex)<;>try conv=>whnf)
  all_goals first
   |(exfalso;omega)
   |(refine A0 rfl (congrArg AV.b ?_);rw[←ee hI (by omega)];first|(rw[decide_eq_decide];omega)|(rw[eq_comm,decide_eq_false_iff_not];omega))
theorem Yq(l:List Int)(v:Int):A3 Tryz.prog 175 [.sl 1 (l.map wA),.i v] (.i (E6 (fun x=>decide (x=v)) l 0)):=by
 refine C0 Tryz.func175 19 fun nQ E h0=>?_
 have nO:l.length≤9223372036854775807:=by
  have:=(nQ (.sl 1 (l.map wA)) (by simp)).sl
  simpa using this
 clear nQ
 repeat'((first|refine S2 ?_|(refine T6 ?_ ?_<;>intro h<;>try exact V1 h)|intro el nN nP|intro el nN|exact T4|refine T5 ?_ ?_|intro ex)<;>try conv=>whnf)
 refine B2 (ι:=Nat) (fun k=>⟨[(0,.sl 1 (l.map wA)),(1,.i v),(7,.i l.length),(8,.i k)],0,[]⟩) (fun k=>k≤l.length∧E6 (fun x=>decide (x=v)) l 0=E6 (fun x=>decide (x=v)) (l.drop k) k) (fun k=>l.length-k) 0 ⟨Nat.zero_le _,rfl⟩
  (A6 h0) (fun k hI=>?_)
 obtain⟨hk,hI⟩:=hI
 repeat'((first|(refine B8 ?_ ?_;kernel_rfl) |refine S2 ?_|(refine T6 ?_ ?_<;>intro h<;>try exact V1 h)|intro el nN nP|intro el nN|exact T4|refine T5 ?_ ?_|intro ex)<;>try conv=>whnf)
 all_goals first
  |exact⟨k+1,⟨by omega,by rw[hI,G6 nN,E6,if_neg (by rw[decide_eq_true_iff];omega)];rfl⟩,by omega,A6 h0⟩
  |exact A0 rfl (congrArg AV.i (by rw[hI,G6 nN,E6,if_pos (by rw[decide_eq_true_iff];omega)]))
  |exact A0 rfl (congrArg AV.i (by rw[hI,show k=l.length by omega,List.drop_length];rfl))
theorem Ii(l:List Int)(v:Int):A3 Tryz.prog 142 [.sl 1 (l.map wA),.i v] (.b (l.any fun x=>decide (x=v))):=by
 have h:=Yq l v
 refine C0 Tryz.func142 9 fun nQ E h0=>?_
 clear nQ
 repeat'((first|refine A1 h ?_ |refine S2 ?_|(refine T6 ?_ ?_<;>intro h<;>try exact V1 h)|intro el nN nP|intro el nN|exact T4|refine T5 ?_ ?_|intro ex)<;>try conv=>whnf)
 all_goals first
  |exact A0 rfl (congrArg AV.b (Bt _ l 0 (by omega)))
theorem io{s:A4}{m:Int}{l:List Int}(h:¬E8 (V7 s m l) 0 l=0):¬W2 s m l=0:=by
 unfold W2
 split
 ·omega
 ·exact h
theorem eh{s:A4}{m:Int}{l:List Int}{k:Nat}(h:F1 (V7 s m l) l k)(hk:¬(k:Int)<l.length):decide (1≤(l.length:Int)∧(l.length:Int)≤3)=decide (W2 s m l=0):=by
 unfold W2
 rw[h.done hk,decide_eq_decide]
 split<;>omega
theorem Ij(l:List Int)(k:Nat)(v:Int):A3 Tryz.prog 142 [.sl 1 ((l.map wA).take k),.i v] (.b ((l.take k).any fun x=>decide (x=v))):=by
 have h:=Ii (l.take k) v
 rw[List.map_take]at h
 exact h
theorem Yr(s:A4)(m:Int)(l:List Int):A3 Tryz.prog 179 [sA s,.i m,.sl 1 (l.map wA)] (.b (decide (W2 s m l=0))):=by
 have hm:=fun c=>Qi s c
 refine C0 Tryz.func179 41 fun nQ E h0=>?_
 have nO:l.length≤9223372036854775807:=by
  have:=(nQ (.sl 1 (l.map wA)) (by simp)).sl
  simpa using this
 clear nQ
 repeat'((first|refine S2 ?_|(refine T6 ?_ ?_<;>intro h<;>try exact V1 h)|intro el nN nP|intro el nN|exact T4|refine T5 ?_ ?_|intro ex)<;>try conv=>whnf)
 refine B2 (ι:=Nat) (fun k=>⟨[(1,.i m),(2,.sl 1 (l.map wA)),(3,.ref 0 0),(9,.sl 1 (l.map wA)),(10,.i l.length),(11,.i k)],1,[(0,some (.box (sL s)))]⟩) (fun k=>F1 (V7 s m l) l k) (fun k=>l.length-k) 0 (F1.zero _ _)
  (A6 h0) (fun k hI=>?_)
 have nZ:=hI.1
 by_cases nR:k<l.length
 ·obtain⟨c,hc⟩:∃c,l[k]?=some c:=⟨_,List.getElem?_eq_getElem nR⟩
  have h1:=hm c
  have h2:=Ij l k c
  have nf:∀e:Int,V7 s m l k c=e→¬e=0→false=decide (W2 s m l=0):=fun e h3 h4=>(decide_eq_false (io (by rw[←hI.hit hc (by rw[h3];exact h4),h3];exact h4))).symm
  have pm:V7 s m l k c=0→F1 (V7 s m l) l (k+1):=fun h=>hI.step hc h
  unfold V7 at nf pm
  generalize P1 s c 3=b at *
  generalize ((l.take k).any fun x=>decide (x=c))=u at *
  repeat'((first|(refine A2 (x:=c) hc (by omega) ?_)|refine A1 h1 ?_|refine A1 h2 ?_ |refine S2 ?_|(refine T6 ?_ ?_<;>intro h<;>try exact V1 h)|intro el nN nP|intro el nN|exact T4|refine T5 ?_ ?_|intro ex)<;>try conv=>whnf)
  all_goals first
   |exact A0 rfl (congrArg AV.b (nf 7 (by rw[if_pos (by assumption)]) (by omega)))
   |exact A0 rfl (congrArg AV.b (nf 10 (by rw[if_neg (by simp[*]),if_pos (.inl (by assumption))]) (by omega)))
   |exact A0 rfl (congrArg AV.b (nf 10 (by rw[if_neg (by simp[*]),if_pos (.inr (by assumption))]) (by omega)))
   |exact⟨k+1,pm (by rw[if_neg (by simp[*]),if_neg (by simp[*])]),by omega,A6 h0⟩
   |(exfalso;omega)
 ·repeat'((first|refine S2 ?_|(refine T6 ?_ ?_<;>intro h<;>try exact V1 h)|intro el nN nP|intro el nN|exact T4|refine T5 ?_ ?_|intro ex)<;>try conv=>whnf)
  all_goals first
   |(exfalso;omega)
   |(refine A0 rfl (congrArg AV.b ?_);rw[←eh hI (by omega)];first|(rw[decide_eq_decide];omega)|(rw[eq_comm,decide_eq_false_iff_not];omega))
theorem bV(s:A4)(e:G0):A3 Tryz.prog 145 [sA s,DC e] (.b (Gd s e)):=by
 have h1:=CP e.name
 have h2:=Qi s e.col
 have h3:=bU s e.dims
 have h4:=Yr s e.col e.cols
 rw[HA]
 unfold Gd
 by_cases hB:P1 s e.col 3=true
 ·obtain⟨pE,oo,_⟩:0≤e.col∧e.col<s.cols.length∧(B4 s e.col).kind=3:=by simpa [P1]using hB
  obtain⟨c,hc⟩:∃c,s.cols[e.col.toNat]?=some c:=⟨_,List.getElem?_eq_getElem (by omega)⟩
  have h5:=Ii c.widths e.num
  rw[B7 hc]
  rw[hB]at h2 ⊢
  generalize (c.widths.any fun x=>decide (x=e.num))=b1 at *
  generalize D5 e.name=b2 at *
  generalize decide (L0 s e.dims=0)=b3 at *
  generalize decide (W2 s e.col e.cols=0)=b4 at *
  clear hB
  refine C0 Tryz.func145 95 fun nQ E h0=>?_
  clear nQ
  repeat'((first|(refine A2 (x:=c) hc (by omega) ?_)|refine A1 h1 ?_|refine A1 h2 ?_|refine A1 h3 ?_|refine A1 h4 ?_|refine A1 h5 ?_|(refine B8 ?_ ?_;kernel_rfl) |refine S2 ?_|(refine T6 ?_ ?_<;>intro h<;>try exact V1 h)|intro el nN nP|intro el nN|exact T4|refine T5 ?_ ?_|intro ex)<;>try conv=>whnf)
  all_goals first
   |(refine A0 rfl (congrArg AV.b ?_);clear h1 h2 h3 h4 h5;(first|(simp only[*,if_true,if_false,Bool.true_eq_false,Bool.false_eq_true,or_true,or_false,true_or,false_or,and_true,true_and,and_false,false_and,not_true_eq_false,not_false_eq_true,ne_eq,reduceIte,Int.reduceEq,Int.reduceLT,Int.reduceLE,Int.reduceNeg,decide_true,decide_false,Bool.not_true,Bool.not_false,Bool.and_true,Bool.true_and,Bool.and_false,Bool.false_and,Bool.or_true,Bool.true_or,Bool.or_false,Bool.false_or,Option.some.injEq];done)|(simp only[*,if_true,if_false,Bool.true_eq_false,Bool.false_eq_true,not_true_eq_false,not_false_eq_true,ne_eq,reduceIte,Int.reduceEq];first|rfl|(repeat' split)<;>first|rfl|omega|(exfalso;omega)|contradiction)))
 ·have hB:P1 s e.col 3=false:=by simpa using hB
  rw[hB]at h2 ⊢
  generalize D5 e.name=b2 at *
  generalize decide (L0 s e.dims=0)=b3 at *
  generalize decide (W2 s e.col e.cols=0)=b4 at *
  clear hB
  refine C0 Tryz.func145 95 fun nQ E h0=>?_
  clear nQ
  repeat'((first|refine A1 h1 ?_|refine A1 h2 ?_|refine A1 h3 ?_|refine A1 h4 ?_|(refine B8 ?_ ?_;kernel_rfl) |refine S2 ?_|(refine T6 ?_ ?_<;>intro h<;>try exact V1 h)|intro el nN nP|intro el nN|exact T4|refine T5 ?_ ?_|intro ex)<;>try conv=>whnf)
  all_goals first
   |(refine A0 rfl (congrArg AV.b ?_);clear h1 h2 h3 h4;(first|(simp only[*,if_true,if_false,Bool.true_eq_false,Bool.false_eq_true,or_true,or_false,true_or,false_or,and_true,true_and,and_false,false_and,not_true_eq_false,not_false_eq_true,ne_eq,reduceIte,Int.reduceEq,Int.reduceLT,Int.reduceLE,Int.reduceNeg,decide_true,decide_false,Bool.not_true,Bool.not_false,Bool.and_true,Bool.true_and,Bool.and_false,Bool.false_and,Bool.or_true,Bool.true_or,Bool.or_false,Bool.false_or,Option.some.injEq];done)|(simp only[*,if_true,if_false,Bool.true_eq_false,Bool.false_eq_true,not_true_eq_false,not_false_eq_true,ne_eq,reduceIte,Int.reduceEq];first|rfl|(repeat' split)<;>first|rfl|omega|(exfalso;omega)|contradiction)))
theorem iq(l:List (G0))(f:Nat)(caps:List AV)(p:(G0)→Bool)(hf:∀x∈l,A3 Tryz.prog f ((fun x=>.agg (DB x)) x::caps) (.b (p x))):A3 Tryz.prog 180 [.sl 19 (l.map DB),.fn f caps] (.i (E6 p l 0)):=by
 refine C0 Tryz.func180 19 fun nQ E h0=>?_
 have nO:l.length≤9223372036854775807:=by have:=(nQ (.sl 19 (l.map DB)) (by simp)).sl;simpa using this
 repeat'((first|refine S2 ?_|(refine T6 ?_ ?_<;>intro h<;>try exact V1 h)|intro el nN nP|intro el nN|exact T4|refine T5 ?_ ?_|intro ex)<;>try conv=>whnf)
 refine B2 (ι:=Nat) (fun k=>⟨[(0,.sl 19 (l.map DB)),(1,.fn f caps),(7,.i l.length),(8,.i k)],0,[]⟩) (fun k=>k≤l.length∧E6 p l 0=E6 p (l.drop k) k) (fun k=>l.length-k) 0 ⟨Nat.zero_le _,rfl⟩ (A6 h0) (fun k hI=>?_)
 obtain⟨hk,hI⟩:=hI
 repeat'((first|refine A1 (hf _ (List.mem_of_getElem? nN)) ?_ |refine S2 ?_|(refine T6 ?_ ?_<;>intro h<;>try exact V1 h)|intro el nN nP|intro el nN|exact T4|refine T5 ?_ ?_|intro ex)<;>try conv=>whnf)
 all_goals first
  |exact⟨k+1,⟨by omega,by rw[hI,G6 nN,E6,if_neg (by simp[h])];rfl⟩,by omega,A6 h0⟩
  |exact A0 rfl (congrArg AV.i (by rw[hI,G6 nN,E6,if_pos (by simp[h])]))
  |exact A0 rfl (congrArg AV.i (by rw[hI,show k=l.length by omega,List.drop_length];rfl))
theorem ir(l:List (G0))(f:Nat)(caps:List AV)(p:(G0)→Bool)(hf:∀x∈l,A3 Tryz.prog f ((fun x=>.agg (DB x)) x::caps) (.b (p x))):A3 Tryz.prog 147 [.sl 19 (l.map DB),.fn f caps] (.b (l.any p)):=by
 refine C0 Tryz.func147 9 fun nQ E h0=>?_
 have oV:=iq l f caps p hf
 repeat'((first|refine A1 oV ?_ |refine S2 ?_|(refine T6 ?_ ?_<;>intro h<;>try exact V1 h)|intro el nN nP|intro el nN|exact T4|refine T5 ?_ ?_|intro ex)<;>try conv=>whnf)
 all_goals first
  |exact A0 rfl (congrArg AV.b (Bt p l 0 (by omega)))
theorem Vd(s:A4)(k:G0)(yD:A3 Tryz.prog 105 [sA s,DC k] (.b (AP s k))):A3 Tryz.prog 148 [DC k,.iptr (sL s)] (.b (MM s k)):=by
 have h1:=RG k.op
 unfold MM
 generalize AP s k=b at *
 refine C0 Tryz.func148 14 fun nQ E h0=>?_
 clear nQ
 repeat'((first|refine A1 h1 ?_|refine A1 yD ?_ |refine S2 ?_|(refine T6 ?_ ?_<;>intro h<;>try exact V1 h)|intro el nN nP|intro el nN|exact T4|refine T5 ?_ ?_|intro ex)<;>try conv=>whnf)
 all_goals clear yD h1
 all_goals first
  |(refine A0 rfl (congrArg AV.b ?_);simp[*];done)
theorem Ys(s:A4)(hr:C5 s=0)(e:G0):A3 Tryz.prog 105 [sA s,DC e] (.b (AP s e)):=by
 refine Kg (p:=fun e=>A3 Tryz.prog 105 [sA s,DC e] (.b (AP s e))) (fun e ih=>?_) e
 have oJ:=ir e.kids 148 [.iptr (sL s)] (MM s) fun k hk=>Vd s k (ih k hk)
 have h1:=Vc e.op
 have h2:=Tz e
 have h3:=bV s e
 have h4:=AE s e.cnd
 have h5:=AE s e.evt
 have h6:=LX e.op
 rw[Wt]
 unfold Yn
 rw[HA]at h2 h3 ⊢
 generalize decide (ML e)=b1 at *
 generalize Gd s e=b2 at *
 generalize J6 s e.cnd=n1 at *
 generalize J6 s e.evt=n2 at *
 generalize (e.kids.any (MM s))=b3 at *
 rw[show decide (e.kids.length=2)=decide ((e.kids.length:Int)=2) by rw[decide_eq_decide];omega]
 clear ih
 refine C0 Tryz.func105 61 fun nQ E h0=>?_
 clear nQ
 repeat'((first|refine A1 h1 ?_|refine A1 h2 ?_|refine A1 h3 ?_|refine A1 h4 ?_|refine A1 h5 ?_|refine A1 h6 ?_|refine I6 0 ?_|refine A1 oJ ?_|(refine B8 ?_ ?_;kernel_rfl) |refine S2 ?_|(refine T6 ?_ ?_<;>intro h<;>try exact V1 h)|intro el nN nP|intro el nN|exact T4|refine T5 ?_ ?_|intro ex)<;>try conv=>whnf)
 all_goals clear h1 h2 h3 h4 h5 h6 oJ
 all_goals first
  |(refine A0 rfl (congrArg AV.b ?_);(first|(simp only[*,if_true,if_false,Bool.true_eq_false,Bool.false_eq_true,or_true,or_false,true_or,false_or,and_true,true_and,and_false,false_and,not_true_eq_false,not_false_eq_true,ne_eq,reduceIte,Int.reduceEq,Int.reduceLT,Int.reduceLE,Int.reduceNeg,decide_true,decide_false,Bool.not_true,Bool.not_false,Bool.and_true,Bool.true_and,Bool.and_false,Bool.false_and,Bool.or_true,Bool.true_or,Bool.or_false,Bool.false_or,Option.some.injEq];done)|(simp only[*,if_true,if_false,Bool.true_eq_false,Bool.false_eq_true,not_true_eq_false,not_false_eq_true,ne_eq,reduceIte,Int.reduceEq];first|rfl|(repeat' split)<;>first|rfl|omega|(exfalso;omega)|contradiction)))
  |(refine A0 rfl (congrArg AV.b ?_);simp_all;done)
theorem Ve(s:A4)(e:G0):A3 Tryz.prog 59 [sA s,DC e] (.b (Hz s e)):=by
 have h1:=Y7 s
 have h2:=fun hr=>Ys s hr e
 unfold Hz
 generalize AP s e=b at *
 refine C0 Tryz.func59 13 fun nQ E h0=>?_
 clear nQ
 repeat'((first|refine A1 h1 ?_|refine A1 (h2 (by assumption)) ?_|(refine B8 ?_ ?_;kernel_rfl) |refine S2 ?_|(refine T6 ?_ ?_<;>intro h<;>try exact V1 h)|intro el nN nP|intro el nN|exact T4|refine T5 ?_ ?_|intro ex)<;>try conv=>whnf)
 all_goals first
  |(refine A0 rfl (congrArg AV.b ?_);simp[*];done)
instance:G2 Tryz.prog 121 false 1:=.of (by kernel_rfl) (by kernel_rfl)
end Go.Proofs.YtjkbhaaobhgkdabGreatDoor
