/- Chapter 2: schemas, and which are right. Chapter 2: which values fit, levels, coarse values. Chapter 2: rows, columns with a name, levels. Chapter 2: blocks, the least level, coarse values, values turned to another level. -/
import Derived.Test.YtiphlhoclaogjaaGreatDoorRB4
import Derived.Test.YtiphlhoclaogjaaGreatDoorRB5
set_option linter.unusedVariables false
set_option linter.unnecessarySimpa false
set_option linter.unusedSimpArgs false
set_option maxHeartbeats 64000000
namespace Go.Proofs.YtiphlhoclaogjaaGreatDoor
open Go Go.Av
attribute [local irreducible] C9 B3 C7 D1 DQ D0 C6 St.le A3 B7
set_option maxRecDepth 100000
structure D4 where
 name:List UInt8
 kind:Int
 lst:Int
 low:Int
 high:Int
 widths:List Int
 opt:Bool
deriving DecidableEq
abbrev CL:=List UInt8×List Code
structure A4 where
 lists:List CL
 cols:List D4
abbrev wA(w:Int):List AV:=[.i w]
abbrev U6(c:D4):List AV:=[.str c.name,.i c.kind,.i c.lst,.i c.low,.i c.high,.sl 1 (c.widths.map wA),.b c.opt]
abbrev z7(l:CL):List AV:=[.str l.1,.sl 2 (l.2.map cA)]
abbrev sL(s:A4):List AV:=[.sl 2 (s.lists.map z7),.sl 7 (s.cols.map U6)]
abbrev sA(s:A4):AV:=.agg (sL s)
abbrev T3(c:D4):AV:=.agg (U6 c)
abbrev jc(l:CL):AV:=.agg (z7 l)
def Dq:Int→List Int→Bool
 |_,[]=>true
 |last,w::r=>decide (last<w) && decide (w.tmod last=0) && decide (w≤1000000) && Dq w r
def R3:List Int→Bool
 |[]=>true
 |w::r=>decide (w=1) && Dq 1 r
def meaE(c:D4):Int:=if c.low < -1000000∨1000000<c.high∨c.high<c.low then 2 else if c.widths.length=0∨4<c.widths.length then 1 else if R3 c.widths=true then 0 else 2
def ET(c:D4):Bool:=decide (¬(c.kind≠2∧c.lst≠0)∧(c.kind=3∨c.low=0∧c.high=0∧c.widths.length=0∧c.opt=false))
def kindE(s:A4)(i:Nat)(c:D4):Int :=
 if c.kind=1 then (if (0:Int)<(i:Int)then 4 else 0)else if c.kind=2 then (if c.lst<0∨(s.lists.length:Int)≤c.lst then 5 else 0)else if c.kind=3 then meaE c else 4
def GF(s:A4)(i:Nat)(c:D4):Bool:=(s.cols.take i).any fun x=>decide (x.name=c.name)
def colE(s:A4)(i:Nat)(c:D4):Int :=
 if D6 c.name=false then 3 else if GF s i c=true then 10 else if kindE s i c=0 then (if ET c=true then 0 else 11)else kindE s i c
def i8(ls:List CL)(i:Nat)(l:CL):Int:=if chk l.1 l.2=0 then (if ((ls.take i).any fun x=>decide (x.1=l.1))=true then 10 else 0)else chk l.1 l.2
def C3(s:A4):Int :=
 if 6<s.lists.length∨8<s.cols.length then 1 else if F4 (i8 s.lists) 0 s.lists=0 then
  (if s.cols.head?.map (·.kind)=some 1 then F4 (colE s) 0 s.cols else 7)else F4 (i8 s.lists) 0 s.lists
def DC(ws:List Int)(k:Nat)(last:Int):Prop:=k≤ws.length∧((k=0∧last=1)∨(0<k∧1≤last∧R3 ws=Dq last (ws.drop k)))
theorem DC.pos{ws:List Int}{k:Nat}{last:Int}(h:DC ws k last):1≤last:=by rcases h.2 with h|h<;>omega
theorem DC.first{ws:List Int}{k:Nat}{last w:Int}(h:DC ws k last)(hw:ws[k]?=some w)(hk:k=0)(h1:w=1):DC ws (k+1) w:=by
 subst hk h1
 refine⟨F0 hw,.inr ⟨by omega,by omega,?_⟩⟩
 have:ws=1::ws.drop 1:=by have:=G1 hw;simpa using this
 rw[this];simp[R3]
theorem DC.next{ws:List Int}{k:Nat}{last w:Int}(h:DC ws k last)(hw:ws[k]?=some w)(hk:0<k)(h1:last<w)(h2:w.tmod last=0)(h3:w≤1000000):DC ws (k+1) w:=by
 rcases h.2 with h|h
 ·omega
 ·refine⟨F0 hw,.inr ⟨by omega,by omega,?_⟩⟩
  rw[h.2.2,G1 hw];simp[Dq,h1,h2,h3]
theorem DC.bad0{ws:List Int}{k:Nat}{last w:Int}(h:DC ws k last)(hw:ws[k]?=some w)(hk:k=0)(h1:¬w=1):R3 ws=false:=by
 subst hk
 have:ws=w::ws.drop 1:=by have:=G1 hw;simpa using this
 rw[this];simp[R3,h1]
theorem DC.bad{ws:List Int}{k:Nat}{last w:Int}(h:DC ws k last)(hw:ws[k]?=some w)(hk:0<k)(h1:¬(last<w∧w.tmod last=0∧w≤1000000)):R3 ws=false:=by
 rcases h.2 with h|h
 ·omega
 ·rw[h.2.2,G1 hw]
  simp only[Dq,Bool.and_eq_false_iff,decide_eq_false_iff_not]
  omega
theorem DC.done{ws:List Int}{k:Nat}{last:Int}(h:DC ws k last)(hk:¬(k:Int)<ws.length)(hn:ws.length≠0):R3 ws=true:=by
 rcases h.2 with h2|h2
 ·omega
 ·rw[h2.2.2,T0 hk];rfl
theorem Sg(c:D4):A3 Tryz.prog 196 [T3 c] (.i (meaE c)):=by
 refine B5 Tryz.func196 68 fun mK E h0=>?_
 have mL:c.widths.length≤9223372036854775807:=by
  have:=((mK (T3 c) (by simp)).agg (.sl 1 (c.widths.map wA)) (by simp)).sl
  simpa using this
 repeat'((first|refine S2 ?_|(refine T6 ?_ ?_<;>intro h<;>try exact V1 h)|intro el mI mJ|intro el mI|exact T4|refine T5 ?_ ?_|intro ex)<;>try conv=>whnf)
 all_goals first
  |exact A1 rfl (congrArg AV.i (by rw[meaE,if_pos (by omega)]))
  |exact A1 rfl (congrArg AV.i (by rw[meaE,if_neg (by omega),if_pos (by omega)]))
  |skip
 have hm:meaE c=if R3 c.widths=true then 0 else 2:=by rw[meaE,if_neg (by omega),if_neg (by omega)]
 have hne:c.widths.length≠0:=by omega
 rw[hm]
 refine A9 (ι:=Nat×Int) (fun x=>⟨[(3,.i x.2),(34,.sl 1 (c.widths.map wA)),(35,.i c.widths.length),(36,.i x.1)],0,[]⟩) (fun x=>DC c.widths x.1 x.2) (fun x=>c.widths.length-x.1) (0,1) ⟨Nat.zero_le _,.inl ⟨rfl,rfl⟩⟩ (A6 h0) (fun x hI=>?_)
 obtain⟨k,last⟩:=x
 have hp:=hI.pos
 have hk:=hI.1
 dsimp only at hI hp hk ⊢
 repeat'((first|refine S2 ?_|(refine T6 ?_ ?_<;>intro h<;>try exact V1 h)|intro el mI mJ|intro el mI|exact T4|refine T5 ?_ ?_|intro ex)<;>try conv=>whnf)
 all_goals first
  |exact A1 rfl (congrArg AV.i (by rw[hI.bad0 mI (by omega) (by omega)];rfl))
  |exact A1 rfl (congrArg AV.i (by rw[hI.bad mI (by omega) (fun hx=>by first|exact absurd hx.2.1 (by assumption)|omega)];rfl))
  |exact A1 rfl (congrArg AV.i (by rw[hI.done (by assumption) hne];rfl))
  |exact⟨(k+1,el),hI.first mI (by omega) (by omega),by simp only;omega,A6 h0⟩
  |exact⟨(k+1,el),hI.next mI (by omega) (by omega) (Classical.byContradiction (by assumption)) (by omega),by simp only;omega,A6 h0⟩
theorem Uq(c:D4):A3 Tryz.prog 197 [T3 c] (.b (ET c)):=by
 refine B5 Tryz.func197 35 fun mK E h0=>?_
 repeat'((first|refine S2 ?_|(refine T6 ?_ ?_<;>intro h<;>try exact V1 h)|intro el mI mJ|intro el mI|exact T4|refine T5 ?_ ?_|intro ex)<;>try conv=>whnf)
 all_goals first
  |exact A1 rfl (congrArg AV.b (by simp_all [ET]))
theorem gB(l:List (D4))(f:Nat)(caps:List AV)(p:(D4)→Bool)(hf:∀x∈l,A3 Tryz.prog f ((fun x=>T3 x) x::caps) (.b (p x))):A3 Tryz.prog 226 [.sl 7 (l.map U6),.fn f caps] (.i (E8 p l 0)):=by
 refine B5 Tryz.func226 19 fun mK E h0=>?_
 have mL:l.length≤9223372036854775807:=by have:=(mK (.sl 7 (l.map U6)) (by simp)).sl;simpa using this
 repeat'((first|refine S2 ?_|(refine T6 ?_ ?_<;>intro h<;>try exact V1 h)|intro el mI mJ|intro el mI|exact T4|refine T5 ?_ ?_|intro ex)<;>try conv=>whnf)
 refine A9 (ι:=Nat) (fun k=>⟨[(0,.sl 7 (l.map U6)),(1,.fn f caps),(7,.i l.length),(8,.i k)],0,[]⟩) (fun k=>k≤l.length∧E8 p l 0=E8 p (l.drop k) k) (fun k=>l.length-k) 0 ⟨Nat.zero_le _,rfl⟩ (A6 h0) (fun k hI=>?_)
 obtain⟨hk,hI⟩:=hI
 repeat'((first|refine A0 (hf _ (List.mem_of_getElem? mI)) ?_ |refine S2 ?_|(refine T6 ?_ ?_<;>intro h<;>try exact V1 h)|intro el mI mJ|intro el mI|exact T4|refine T5 ?_ ?_|intro ex)<;>try conv=>whnf)
 all_goals first
  |exact⟨k+1,⟨by omega,by rw[hI,G1 mI,E8,if_neg (by simp[h])];rfl⟩,by omega,A6 h0⟩
  |exact A1 rfl (congrArg AV.i (by rw[hI,G1 mI,E8,if_pos (by simp[h])]))
  |exact A1 rfl (congrArg AV.i (by rw[hI,show k=l.length by omega,List.drop_length];rfl))
theorem gC(l:List (D4))(f:Nat)(caps:List AV)(p:(D4)→Bool)(hf:∀x∈l,A3 Tryz.prog f ((fun x=>T3 x) x::caps) (.b (p x))):A3 Tryz.prog 194 [.sl 7 (l.map U6),.fn f caps] (.b (l.any p)):=by
 refine B5 Tryz.func194 9 fun mK E h0=>?_
 have nX:=gB l f caps p hf
 repeat'((first|refine A0 nX ?_ |refine S2 ?_|(refine T6 ?_ ?_<;>intro h<;>try exact V1 h)|intro el mI mJ|intro el mI|exact T4|refine T5 ?_ ?_|intro ex)<;>try conv=>whnf)
 all_goals first
  |exact A1 rfl (congrArg AV.b (Ak p l 0 (by omega)))
theorem jd(l:List (CL))(f:Nat)(caps:List AV)(p:(CL)→Bool)(hf:∀x∈l,A3 Tryz.prog f ((fun x=>jc x) x::caps) (.b (p x))):A3 Tryz.prog 193 [.sl 2 (l.map z7),.fn f caps] (.i (E8 p l 0)):=by
 refine B5 Tryz.func193 19 fun mK E h0=>?_
 have mL:l.length≤9223372036854775807:=by have:=(mK (.sl 2 (l.map z7)) (by simp)).sl;simpa using this
 repeat'((first|refine S2 ?_|(refine T6 ?_ ?_<;>intro h<;>try exact V1 h)|intro el mI mJ|intro el mI|exact T4|refine T5 ?_ ?_|intro ex)<;>try conv=>whnf)
 refine A9 (ι:=Nat) (fun k=>⟨[(0,.sl 2 (l.map z7)),(1,.fn f caps),(7,.i l.length),(8,.i k)],0,[]⟩) (fun k=>k≤l.length∧E8 p l 0=E8 p (l.drop k) k) (fun k=>l.length-k) 0 ⟨Nat.zero_le _,rfl⟩ (A6 h0) (fun k hI=>?_)
 obtain⟨hk,hI⟩:=hI
 repeat'((first|refine A0 (hf _ (List.mem_of_getElem? mI)) ?_ |refine S2 ?_|(refine T6 ?_ ?_<;>intro h<;>try exact V1 h)|intro el mI mJ|intro el mI|exact T4|refine T5 ?_ ?_|intro ex)<;>try conv=>whnf)
 all_goals first
  |exact⟨k+1,⟨by omega,by rw[hI,G1 mI,E8,if_neg (by simp[h])];rfl⟩,by omega,A6 h0⟩
  |exact A1 rfl (congrArg AV.i (by rw[hI,G1 mI,E8,if_pos (by simp[h])]))
  |exact A1 rfl (congrArg AV.i (by rw[hI,show k=l.length by omega,List.drop_length];rfl))
theorem je(l:List (CL))(f:Nat)(caps:List AV)(p:(CL)→Bool)(hf:∀x∈l,A3 Tryz.prog f ((fun x=>jc x) x::caps) (.b (p x))):A3 Tryz.prog 154 [.sl 2 (l.map z7),.fn f caps] (.b (l.any p)):=by
 refine B5 Tryz.func154 9 fun mK E h0=>?_
 have nX:=jd l f caps p hf
 repeat'((first|refine A0 nX ?_ |refine S2 ?_|(refine T6 ?_ ?_<;>intro h<;>try exact V1 h)|intro el mI mJ|intro el mI|exact T4|refine T5 ?_ ?_|intro ex)<;>try conv=>whnf)
 all_goals first
  |exact A1 rfl (congrArg AV.b (Ak p l 0 (by omega)))
theorem Si(x c:D4):A3 Tryz.prog 195 [T3 x,.iptr (U6 c)] (.b (decide (x.name=c.name))):=by
 refine B5 Tryz.func195 9 fun mK E h0=>?_
 repeat'((first|refine S2 ?_|(refine T6 ?_ ?_<;>intro h<;>try exact V1 h)|intro el mI mJ|intro el mI|exact T4|refine T5 ?_ ?_|intro ex)<;>try conv=>whnf)
 all_goals exact A1 rfl rfl
theorem Ql(x l:CL):A3 Tryz.prog 155 [jc x,.iptr (z7 l)] (.b (decide (x.1=l.1))):=by
 refine B5 Tryz.func155 9 fun mK E h0=>?_
 repeat'((first|refine S2 ?_|(refine T6 ?_ ?_<;>intro h<;>try exact V1 h)|intro el mI mJ|intro el mI|exact T4|refine T5 ?_ ?_|intro ex)<;>try conv=>whnf)
 all_goals exact A1 rfl rfl
theorem Ur(s:A4)(i:Nat)(c:D4)(hc:s.cols[i]?=some c):A3 Tryz.prog 156 [sA s,.i i] (.i (colE s i c)):=by
 have hi:=F0 hc
 have nR:=gC (s.cols.take i) 195 [.iptr (U6 c)] (fun x=>decide (x.name=c.name)) (fun x _=>Si x c)
 rw[List.map_take]at nR
 have sJ:=Uq c
 generalize hu:ET c=u at sJ
 have pY:=Sg c
 generalize hm:meaE c=m at pY
 refine B5 Tryz.func156 51 fun mK E h0=>?_
 repeat'((first|(refine A2 (x:=c) (by simpa using hc) (by omega) ?_)|refine A0 (CH _) ?_|refine A0 pY ?_|refine A0 sJ ?_|refine I4 1 ?_|refine A0 nR ?_ |refine S2 ?_|(refine T6 ?_ ?_<;>intro h<;>try exact V1 h)|intro el mI mJ|intro el mI|exact T4|refine T5 ?_ ?_|intro ex)<;>try conv=>whnf)
 all_goals
  refine A1 rfl (congrArg AV.i ?_)
  clear nR mK h0 hi hc E sJ pY
 all_goals first
  |(first|(simp only[colE,kindE,GF,hu,hm, *,if_true,if_false,Bool.true_eq_false,Bool.false_eq_true,or_true,or_false,true_or,false_or,and_true,true_and,and_false,false_and,not_true_eq_false,not_false_eq_true,ne_eq,reduceIte,Int.reduceEq,Int.reduceLT,Int.reduceLE,Int.reduceNeg,decide_true,decide_false,Bool.not_true,Bool.not_false,Bool.and_true,Bool.true_and,Bool.and_false,Bool.false_and,Bool.or_true,Bool.true_or,Bool.or_false,Bool.false_or,Option.some.injEq];done)|(simp only[colE,kindE,GF,hu,hm, *,if_true,if_false,Bool.true_eq_false,Bool.false_eq_true,not_true_eq_false,not_false_eq_true,ne_eq,reduceIte,Int.reduceEq];first|rfl|(repeat' split)<;>first|rfl|omega|(exfalso;omega)|contradiction))
theorem Z8{s:A4}(h:Rd (sA s)):s.lists.length≤9223372036854775807∧s.cols.length≤9223372036854775807∧∀l∈s.lists,l.2.length≤9223372036854775807:=by
 refine⟨by have:=(h.agg (.sl 2 (s.lists.map z7)) (by simp)).sl;simpa using this,by have:=(h.agg (.sl 7 (s.cols.map U6)) (by simp)).sl;simpa using this,fun l hl=>?_⟩
 have:=((h.agg (.sl 2 (s.lists.map z7)) (by simp)).elem (z7 l) (List.mem_map.2 ⟨l,hl,rfl⟩) (.sl 2 (l.2.map cA)) (by simp)).sl
 simpa using this
theorem f5(s:A4):A3 Tryz.prog 98 [sA s] (.i (C3 s)):=by
 refine B5 Tryz.func98 63 fun mK E h0=>?_
 obtain⟨oH,mt,oc⟩:=Z8 (s:=s) (mK _ (by simp))
 clear mK
 repeat'((first|refine S2 ?_|(refine T6 ?_ ?_<;>intro h<;>try exact V1 h)|intro el mI mJ|intro el mI|exact T4|refine T5 ?_ ?_|intro ex)<;>try conv=>whnf)
 all_goals first
  |exact A1 rfl (congrArg AV.i (by rw[C3,if_pos (by omega)]))
  |skip
 have hs:C3 s=if F4 (i8 s.lists) 0 s.lists=0 then (if s.cols.head?.map (·.kind)=some 1 then F4 (colE s) 0 s.cols else 7)else F4 (i8 s.lists) 0 s.lists:=by rw[C3,if_neg (by omega)]
 rw[hs]
 refine A9 (ι:=Nat) (fun k=>⟨[(1,.ref 0 0),(19,.sl 2 (s.lists.map z7)),(20,.i s.lists.length),(21,.i k)],1,[(0,some (.box (sL s)))]⟩) (fun k=>F2 (i8 s.lists) s.lists k) (fun k=>s.lists.length-k) 0 (F2.zero _ _) (A6 h0) (fun k hI=>?_)
 have hk:=hI.1
 have nR:=fun l:CL=>je (s.lists.take k) 155 [.iptr (z7 l)] (fun x=>decide (x.1=l.1)) (fun x _=>Ql x l)
 rw[List.map_take]at nR
 repeat'((first|refine A0 (ES _ _ (oc _ (List.mem_of_getElem? mI))) ?_|refine I4 1 ?_|refine A0 (nR _) ?_ |refine S2 ?_|(refine T6 ?_ ?_<;>intro h<;>try exact V1 h)|intro el mI mJ|intro el mI|exact T4|refine T5 ?_ ?_|intro ex)<;>try conv=>whnf)
 all_goals first
  |(refine A1 rfl (congrArg AV.i ?_)
    have he:i8 s.lists k el=chk el.1 el.2:=by rw[i8,if_neg (by assumption)]
    rw[←hI.hit mI (by rw[he];assumption),he,if_neg (by assumption)];done)
  |(refine A1 rfl (congrArg AV.i ?_)
    have he:i8 s.lists k el=10:=by rw[i8,if_pos (Classical.byContradiction (by assumption)),if_pos (by assumption)]
    rw[←hI.hit mI (by rw[he];decide),he];rfl)
  |exact⟨k+1,hI.step mI (by rw[i8,if_pos (Classical.byContradiction (by assumption)),if_neg (by rw[h];exact Bool.false_ne_true)]),by omega,A6 h0⟩
  |(have hd:=hI.done (by assumption)
    refine A1 rfl (congrArg AV.i ?_)
    rw[if_pos hd,if_neg]
    intro hx
    rw[List.head?_eq_getElem?]at hx
    first
     |(rw[show s.cols[0]?=none from List.getElem?_eq_none (by omega)]at hx;cases hx)
     |(have oL:s.cols[0]?=some el:=mI
       rw[oL]at hx
       have:=Option.some.inj hx
       exact absurd this (by assumption)))
  |skip
 have hd:=hI.done (by assumption)
 have hh:s.cols.head?.map (·.kind)=some 1:=by
  rw[List.head?_eq_getElem?]
  have oL:s.cols[0]?=some el:=mI
  rw[oL]
  exact congrArg some (Classical.byContradiction (by assumption))
 rw[if_pos hd,if_pos hh]
 refine A9 (ι:=Nat) (fun k=>⟨[(1,.ref 0 0),(52,.i s.cols.length),(53,.i k)],1,[(0,some (.box (sL s)))]⟩) (fun k=>F2 (colE s) s.cols k) (fun k=>s.cols.length-k) 0 (F2.zero _ _) (A6 h0) (fun k hI=>?_)
 have hk:=hI.1
 have qA:=fun (h:(k:Int)<s.cols.length)=>Ur s k (s.cols[k]'(by omega)) (List.getElem?_eq_getElem (by omega))
 repeat'((first|refine A0 (qA (by assumption)) ?_ |refine S2 ?_|(refine T6 ?_ ?_<;>intro h<;>try exact V1 h)|intro el mI mJ|intro el mI|exact T4|refine T5 ?_ ?_|intro ex)<;>try conv=>whnf)
 all_goals first
  |exact⟨k+1,hI.step (List.getElem?_eq_getElem (by omega)) (Classical.byContradiction (by assumption)),by omega,A6 h0⟩
  |exact A1 rfl (congrArg AV.i (hI.hit (List.getElem?_eq_getElem (by omega)) (by assumption)))
  |exact A1 rfl (congrArg AV.i (hI.done (by assumption)).symm)
theorem D3{s:A4}(h:C3 s=0):s.lists.length≤6∧s.cols.length≤8∧(∀l∈s.lists,chk l.1 l.2=0)∧(∀(i:Nat) c,s.cols[i]?=some c→colE s i c=0)∧s.cols.head?.map (·.kind)=some 1:=by
 unfold C3 at h
 split at h
 ·cases h
 ·split at h
  ·rename_i h1 h2
   split at h
   ·rename_i h3
    refine⟨by omega,by omega,fun l hl=>?_,fun i c hc=>by have:=O9 h i c hc;rwa[Nat.zero_add]at this,h3⟩
    obtain⟨i,hi,rfl⟩:=List.getElem_of_mem hl
    have:=O9 h2 i _ (List.getElem?_eq_getElem hi)
    unfold i8 at this
    split at this
    ·assumption
    ·exact this
   ·cases h
  ·rename_i h2;exact absurd h h2
theorem d6{s:A4}{i:Nat}{c:D4}(h:colE s i c=0):D6 c.name=true∧GF s i c=false∧kindE s i c=0∧ET c=true:=by
 unfold colE at h
 split at h
 ·cases h
 ·split at h
  ·cases h
  ·split at h
   ·split at h
    ·rename_i h1 h2 h3 h4;exact⟨by simpa using h1,by simpa using h2,h3,h4⟩
    ·cases h
   ·rename_i h3;exact absurd h h3
theorem NH{s:A4}{i:Nat}{c:D4}(h:kindE s i c=0)(hk:c.kind=2):0≤c.lst∧c.lst<s.lists.length:=by
 unfold kindE at h
 rw[if_neg (by omega),if_pos hk]at h
 split at h
 ·cases h
 ·omega
theorem v9{s:A4}{i:Nat}{c:D4}(h:kindE s i c=0)(hk:c.kind=3):meaE c=0:=by
 unfold kindE at h
 rw[if_neg (by omega),if_neg (by omega),if_pos hk]at h
 exact h
theorem Kl{s:A4}{i:Nat}{c:D4}(h:kindE s i c=0):(c.kind=1∧i=0)∨c.kind=2∨c.kind=3:=by
 unfold kindE at h
 split at h
 ·split at h
  ·cases h
  ·left;omega
 ·split at h
  ·omega
  ·split at h
   ·omega
   ·cases h
theorem T7{c:D4}(h:meaE c=0):-1000000≤c.low∧c.high≤1000000∧c.low≤c.high∧1≤c.widths.length∧c.widths.length≤4∧R3 c.widths=true:=by
 unfold meaE at h
 split at h
 ·cases h
 ·split at h
  ·cases h
  ·split at h
   ·rename_i h3;exact⟨by omega,by omega,by omega,by omega,by omega,h3⟩
   ·cases h
theorem Sj:∀(ws:List Int) (last:Int),1≤last→last≤1000000→Dq last ws=true→∀w∈ws,1≤w∧w≤1000000
 |[],_,_,_,_,w,hw=>by cases hw
 |x::r,last,h1,h2,h,w,hw=>by
  simp only[Dq,Bool.and_eq_true,decide_eq_true_eq]at h
  rcases List.mem_cons.1 hw with rfl|hw
  ·omega
  ·exact Sj r x (by omega) (by omega) h.2 w hw
theorem Zv{ws:List Int}(h:R3 ws=true):∀w∈ws,1≤w∧w≤1000000:=by
 cases ws with
 |nil=>intro w hw;cases hw
 |cons x r =>
  simp only[R3,Bool.and_eq_true,decide_eq_true_eq]at h
  intro w hw
  rcases List.mem_cons.1 hw with rfl|hw
  ·omega
  ·exact Sj r 1 (by omega) (by omega) h.2 w hw
def C2(s:A4)(c:D4):CL:=s.lists.getD c.lst.toNat ([],[])
def BD(s:A4)(c:D4)(v:Int):Bool :=
 if c.kind=1 then decide (1≤v∧v≤1048575)else if c.kind=2 then decide (0≤v∧v<(C2 s c).2.length) && Y7 (C2 s c).2 v else decide (c.low≤v∧v≤c.high) || (c.opt && decide (v=(-1099511627776)))
theorem D7{α:Type}{l:List α}{k:Nat}{x d:α}(h:l[k]?=some x):l.getD k d=x:=by rw[List.getD_eq_getElem?_getD,h];rfl
theorem H6{s:A4}{c:D4}{l:CL}(h:s.lists[c.lst.toNat]?=some l):C2 s c=l:=D7 h
structure z8(s:A4):Prop where
 e:C3 s=0
theorem z8.lst{s:A4}(h:C3 s=0){c:D4}(hc:c∈s.cols)(hk:c.kind=2):0≤c.lst∧c.lst<s.lists.length:=by
 obtain⟨i,hi,rfl⟩:=List.getElem_of_mem hc
 exact NH (d6 ((D3 h).2.2.2.1 i _ (List.getElem?_eq_getElem hi))).2.2.1 hk
def NI(s:A4)(p:D4×Int):Bool:=!(BD s p.1 p.2)
def NJ(s:A4)(row:List Int):Bool:=decide (row.length=s.cols.length) && !((s.cols.zip row).any (NI s))
theorem KC{α β:Type}{l:List α}{m:List β}{k:Nat}{x:α}{y:β}(h:l[k]?=some x)(h2:m[k]?=some y):(l.zip m)[k]?=some (x,y):=by
 rw[List.getElem?_zip_eq_some];exact⟨h,h2⟩
def AH(s:A4)(row:List Int):Int:=if C3 s=0 then (if NJ s row=true then 0 else 9)else C3 s
def B8(s:A4)(column:Int):D4:=s.cols.getD column.toNat ⟨[],0,0,0,0,[],false⟩
theorem C1{s:A4}{column:Int}{c:D4}(h:s.cols[column.toNat]?=some c):B8 s column=c:=D7 h
def M0(s:A4)(c:D4):Int:=if c.kind=2 then C5 (C2 s c).1 (C2 s c).2-1 else c.widths.length
def E5(s:A4)(column:Int):Int:=if column<1∨(s.cols.length:Int)≤column then -1 else M0 s (B8 s column)
def B4(s:A4)(column:Int):Int:=if C3 s=0 then E5 s column else -1
theorem n8{nm:List UInt8}{cs:List Code}(h:cs.length≤9223372036854775807):-1≤C5 nm cs∧C5 nm cs≤61:=by
 unfold C5
 split
 ·rename_i h1
  have h2:=G9 h1
  have h3:=Lc (cs:=cs) h2.1.before
  omega
 ·omega
theorem GG(s:A4)(column:Int)(hr:C3 s=0):A3 Tryz.prog 131 [sA s,.i column] (.i (E5 s column)):=by
 refine B5 Tryz.func131 34 fun mK E h0=>?_
 obtain⟨oH,mt,oc⟩:=Z8 (s:=s) (mK _ (by simp))
 have tG:=fun (l:CL) (hl:s.lists[(B8 s column).lst.toNat]?=some l)=>n8 (nm:=l.1) (oc l (List.mem_of_getElem? hl))
 clear mK
 repeat'((first|(refine A0 (Dd _ _ (oc _ (List.mem_of_getElem? (by assumption)))) ?_)|(refine o9 ?_ ?_ (fun lx nA=>?_);(have:=z8.lst hr (List.mem_of_getElem? mI) (by assumption);omega);(have:=z8.lst hr (List.mem_of_getElem? mI) (by assumption);omega))|(refine I6 ?_ ?_;(have:=tG lx (by rw[C1 mI];exact nA);omega)) |refine S2 ?_|(refine T6 ?_ ?_<;>intro h<;>try exact V1 h)|intro el mI mJ|intro el mI|exact T4|refine T5 ?_ ?_|intro ex)<;>try conv=>whnf)
 all_goals first
  |(refine A1 rfl (congrArg AV.i ?_);rw[E5,if_pos (by omega)];done)
  |(refine A1 rfl (congrArg AV.i ?_);rw[E5,if_neg (by omega),C1 mI,M0,if_pos (by assumption),H6 nA];done)
  |(refine A1 rfl (congrArg AV.i ?_);rw[E5,if_neg (by omega),C1 mI,M0,if_neg (by assumption)];done)
theorem Ch(s:A4)(column:Int):A3 Tryz.prog 71 [sA s,.i column] (.i (B4 s column)):=by
 refine B5 Tryz.func71 11 fun mK E h0=>?_
 clear mK
 repeat'((first|refine A0 (f5 s) ?_|refine A0 (GG s column (by omega)) ?_ |refine S2 ?_|(refine T6 ?_ ?_<;>intro h<;>try exact V1 h)|intro el mI mJ|intro el mI|exact T4|refine T5 ?_ ?_|intro ex)<;>try conv=>whnf)
 all_goals first
  |(refine A1 rfl (congrArg AV.i ?_);rw[B4,if_neg (by assumption)];done)
  |(refine A1 rfl (congrArg AV.i ?_);rw[B4,if_pos (by omega)];done)
def B1(c:D4)(level:Int):Int:=c.widths.getD ((c.widths.length:Int)-level).toNat 0
theorem HW(c:D4)(level:Int)(h1:1≤level)(h2:level≤c.widths.length):A3 Tryz.prog 215 [T3 c,.i level] (.i (B1 c level)):=by
 refine B5 Tryz.func215 14 fun mK E h0=>?_
 have mL:c.widths.length≤9223372036854775807:=by
  have:=((mK (T3 c) (by simp)).agg (.sl 1 (c.widths.map wA)) (by simp)).sl
  simpa using this
 clear mK
 repeat'((first|refine S2 ?_|(refine T6 ?_ ?_<;>intro h<;>try exact V1 h)|intro el mI mJ|intro el mI|exact T4|refine T5 ?_ ?_|intro ex)<;>try conv=>whnf)
 all_goals exact A1 rfl (congrArg AV.i (D7 mI).symm)
def C8(n w:Int):Int:=n-n % w
theorem Dr(n w:Int)(hw:1≤w)(wL:w≤1000000)(h1:-4000000000000≤n)(h2:n≤4000000000000):A3 Tryz.prog 216 [.i n,.i w] (.i (C8 n w)):=by
 refine B5 Tryz.func216 17 fun mK E h0=>?_
 have hm:=CJ n hw
 have hb:=KB n hw
 clear mK
 repeat'((first|refine S2 ?_|(refine T6 ?_ ?_<;>intro h<;>try exact V1 h)|intro el mI mJ|intro el mI|exact T4|refine T5 ?_ ?_|intro ex)<;>try conv=>whnf)
 all_goals first
  |(refine A1 rfl (congrArg AV.i ?_);unfold C8;omega)
theorem n9{s:A4}(h:C3 s=0){column:Int}{c:D4}(h1:1≤column)(hc:s.cols[column.toNat]?=some c):
  (c.kind=2∧0≤c.lst∧c.lst<s.lists.length)∨(c.kind=3∧-1000000≤c.low∧c.high≤1000000∧c.low≤c.high∧1≤c.widths.length∧c.widths.length≤4∧R3 c.widths=true):=by
 have hk:=(d6 ((D3 h).2.2.2.1 _ c hc)).2.2.1
 rcases Kl hk with h2|h2|h2
 ·omega
 ·exact .inl ⟨h2,NH hk h2⟩
 ·exact .inr ⟨h2,T7 (v9 hk h2)⟩
theorem f6{c:D4}{level:Int}(hw:R3 c.widths=true)(h1:1≤level)(h2:level≤c.widths.length):1≤B1 c level∧B1 c level≤1000000:=by
 have mM:((c.widths.length:Int)-level).toNat<c.widths.length:=by omega
 unfold B1
 rw[D7 (List.getElem?_eq_getElem mM)]
 exact Zv hw _ (List.getElem_mem mM)
theorem V9(n:Int){w:Int}(hw:1≤w):n-w<C8 n w∧C8 n w≤n:=by
 unfold C8
 have h1:=Int.emod_nonneg n (b:=w) (by omega)
 have h2:=Int.emod_lt_of_pos n (b:=w) (by omega)
 omega
theorem NK{a b w:Int}(hw:1≤w)(h:a≤b):C8 a w≤C8 b w:=by
 unfold C8
 have e1:a-a % w=w*(a / w):=by have:=Int.mul_ediv_add_emod a w;omega
 have e2:b-b % w=w*(b / w):=by have:=Int.mul_ediv_add_emod b w;omega
 rw[e1,e2]
 exact Int.mul_le_mul_of_nonneg_left (Int.ediv_le_ediv (by omega) h) (by omega)
theorem gD{a b:Int}(ha:0≤a)(hb:1≤b):a.tdiv b=a / b∧0≤a / b∧a / b≤a:=by
 refine⟨Int.tdiv_eq_ediv_of_nonneg ha,Int.ediv_nonneg ha (by omega),?_⟩
 exact Int.ediv_le_self b ha
def K4(s:A4)(c:D4)(level:Int):Int :=
 if c.kind=2 then (H1 (C2 s c).1 (C2 s c).2 level).length else if level=0 then 1 else (C8 c.high (B1 c level)-C8 c.low (B1 c level)) / B1 c level+1+(if c.opt=true then 1 else 0)
theorem Us(s:A4)(column level:Int)(hr:C3 s=0)(h1:1≤column)(h2:column<s.cols.length)(h3:0≤level)(h4:level≤E5 s column):A3 Tryz.prog 234 [sA s,.i column,.i level] (.i (K4 s (B8 s column) level)):=by
 obtain⟨c,hc⟩:∃c,s.cols[column.toNat]?=some c:=⟨_,List.getElem?_eq_getElem (by omega)⟩
 have mX:=C1 hc
 have nr:=n9 hr h1 hc
 rw[mX]
 rw[E5,if_neg (by omega),mX]at h4
 have walk:∀w lo hi:Int,(c.kind=2∨level=0∨(1≤w∧w≤1000000∧-2000000≤lo∧lo≤hi∧hi≤1000000∧A3 Tryz.prog 215 [T3 c,.i level] (.i w)∧A3 Tryz.prog 216 [.i c.high,.i w] (.i hi)∧A3 Tryz.prog 216 [.i c.low,.i w] (.i lo))) →
   A3 Tryz.prog 234 [sA s,.i column,.i level] (.i (if c.kind=2 then (H1 (C2 s c).1 (C2 s c).2 level).length else if level=0 then 1 else (hi-lo) / w+1+(if c.opt=true then 1 else 0))):=by
  intro w lo hi hx
  have zd:c.kind≠2→level≠0→(hi-lo).tdiv w=(hi-lo) / w∧0≤(hi-lo) / w∧(hi-lo) / w≤hi-lo:=fun h5 h6=>gD (by omega) (by omega)
  have hwc:c.kind≠2→level≠0→A3 Tryz.prog 215 [T3 c,.i level] (.i w):=fun h5 h6=>by rcases hx with hx|hx|hx<;>first|omega|exact hx.2.2.2.2.2.1
  have hdh:c.kind≠2→level≠0→A3 Tryz.prog 216 [.i c.high,.i w] (.i hi):=fun h5 h6=>by rcases hx with hx|hx|hx<;>first|omega|exact hx.2.2.2.2.2.2.1
  have pB:c.kind≠2→level≠0→A3 Tryz.prog 216 [.i c.low,.i w] (.i lo):=fun h5 h6=>by rcases hx with hx|hx|hx<;>first|omega|exact hx.2.2.2.2.2.2.2
  have pI:c.kind≠2→level≠0→w≠0∧-2000000≤lo∧lo≤hi∧hi≤1000000:=fun h5 h6=>by omega
  have pC:=fun (l:CL) (hl:s.lists[c.lst.toNat]?=some l) h=>Gg l.1 l.2 level h
  generalize hq:(hi-lo) / w=q at zd ⊢
  clear hx
  refine B5 Tryz.func234 49 fun mK E h0=>?_
  obtain⟨oH,mt,oc⟩:=Z8 (s:=s) (mK _ (by simp))
  clear mK
  repeat'((first|(refine A2 (x:=c) hc (by omega) ?_)|(refine A0 (pC _ mI (oc _ (List.mem_of_getElem? mI))) ?_)|(refine A0 (hwc (by assumption) (by assumption)) ?_)|(refine A0 (hdh (by assumption) (by assumption)) ?_)|(refine A0 (pB (by assumption) (by assumption)) ?_)|(refine I6 ?_ ?_;(have h8:=pI (by assumption) (by assumption);have h9:=zd (by assumption) (by assumption);omega))|(refine B0 ?_ ?_;kernel_rfl) |refine S2 ?_|(refine T6 ?_ ?_<;>intro h<;>try exact V1 h)|intro el mI mJ|intro el mI|exact T4|refine T5 ?_ ?_|intro ex)<;>try conv=>whnf)
  all_goals first
   |(refine A1 rfl (congrArg AV.i ?_);rw[if_pos h,H6 mI];done)
   |(refine A1 rfl (congrArg AV.i ?_);rw[if_neg (by assumption),if_pos (by assumption)];done)
   |(refine A1 rfl (congrArg AV.i ?_)
     have h9:=zd (by assumption) (by assumption)
     rw[if_neg (by assumption),if_neg (by assumption),h9.1]
     first
      |(rw[if_pos h];done)
      |(rw[if_neg (by rw[h];exact Bool.false_ne_true)];omega))
 unfold K4
 refine walk _ _ _ ?_
 rcases nr with nr|nr
 ·exact .inl nr.1
 ·by_cases hl:level=0
  ·exact .inr (.inl hl)
  ·have h5:M0 s c=c.widths.length:=by unfold M0;rw[if_neg (by omega)]
   obtain⟨vQ,wL⟩:=f6 nr.2.2.2.2.2.2 (level:=level) (by omega) (by omega)
   have d1:=V9 c.low vQ
   have d2:=V9 c.high vQ
   have d3:=NK vQ nr.2.2.2.1
   exact .inr (.inr ⟨vQ,wL,by omega,d3,by omega,HW c level (by omega) (by omega),Dr _ _ vQ wL (by omega) (by omega),Dr _ _ vQ wL (by omega) (by omega)⟩)
end Go.Proofs.YtiphlhoclaogjaaGreatDoor
