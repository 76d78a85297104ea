/- Chapter 2: schemas, and which are right. Chapter 2: which values fit, levels, coarse values. Chapter 2: rows, columns with a name, levels. Chapter 2: blocks, the least level, coarse values, values turned to another level. -/
import Derived.Test.YtiphlhoclaogjaaGreatDoorSB4
import Derived.Test.YtiphlhoclaogjaaGreatDoorSB5
set_option linter.unusedVariables false
set_option linter.unnecessarySimpa false
set_option linter.unusedSimpArgs false
set_option maxHeartbeats 64000000
namespace Go.Proofs.YtiphlhoclaogjaaGreatDoor
open Go Go.Av
attribute [local irreducible] C7 B2 D3 C9 DQ D0 C8 St.le A3 B9
set_option maxRecDepth 100000
structure D4 where
 name:List UInt8
 kind:Int
 lst:Int
 low:Int
 high:Int
 widths:List Int
 opt:Bool
deriving DecidableEq
abbrev CL:=List UInt8×List Code
structure A4 where
 lists:List CL
 cols:List D4
abbrev wA(w:Int):List AV:=[.i w]
abbrev X0(c:D4):List AV:=[.str c.name,.i c.kind,.i c.lst,.i c.low,.i c.high,.sl 1 (c.widths.map wA),.b c.opt]
abbrev AX(l:CL):List AV:=[.str l.1,.sl 2 (l.2.map cA)]
abbrev sL(s:A4):List AV:=[.sl 2 (s.lists.map AX),.sl 7 (s.cols.map X0)]
abbrev sA(s:A4):AV:=.agg (sL s)
abbrev S9(c:D4):AV:=.agg (X0 c)
abbrev jD(l:CL):AV:=.agg (AX l)
def EC:Int→List Int→Bool
 |_,[]=>true
 |last,w::r=>decide (last<w) && decide (w.tmod last=0) && decide (w≤1000000) && EC w r
def Q4:List Int→Bool
 |[]=>true
 |w::r=>decide (w=1) && EC 1 r
def meaE(c:D4):Int:=if c.low < -1000000∨1000000<c.high∨c.high<c.low then 2 else if c.widths.length=0∨4<c.widths.length then 1 else if Q4 c.widths=true then 0 else 2
def Ea(c:D4):Bool:=decide (¬(c.kind≠2∧c.lst≠0)∧(c.kind=3∨c.low=0∧c.high=0∧c.widths.length=0∧c.opt=false))
def kindE(s:A4)(i:Nat)(c:D4):Int :=
 if c.kind=1 then (if (0:Int)<(i:Int)then 4 else 0)else if c.kind=2 then (if c.lst<0∨(s.lists.length:Int)≤c.lst then 5 else 0)else if c.kind=3 then meaE c else 4
def GP(s:A4)(i:Nat)(c:D4):Bool:=(s.cols.take i).any fun x=>decide (x.name=c.name)
def colE(s:A4)(i:Nat)(c:D4):Int :=
 if D6 c.name=false then 3 else if GP s i c=true then 10 else if kindE s i c=0 then (if Ea c=true then 0 else 11)else kindE s i c
def b9(ls:List CL)(i:Nat)(l:CL):Int:=if chk l.1 l.2=0 then (if ((ls.take i).any fun x=>decide (x.1=l.1))=true then 10 else 0)else chk l.1 l.2
def C3(s:A4):Int :=
 if 6<s.lists.length∨8<s.cols.length then 1 else if F0 (b9 s.lists) 0 s.lists=0 then
  (if s.cols.head?.map (·.kind)=some 1 then F0 (colE s) 0 s.cols else 7)else F0 (b9 s.lists) 0 s.lists
def DU(ws:List Int)(k:Nat)(last:Int):Prop:=k≤ws.length∧((k=0∧last=1)∨(0<k∧1≤last∧Q4 ws=EC last (ws.drop k)))
theorem DU.pos{ws:List Int}{k:Nat}{last:Int}(h:DU ws k last):1≤last:=by rcases h.2 with h|h<;>omega
theorem DU.first{ws:List Int}{k:Nat}{last w:Int}(h:DU ws k last)(hw:ws[k]?=some w)(hk:k=0)(h1:w=1):DU ws (k+1) w:=by
 subst hk h1
 refine⟨F5 hw,.inr ⟨by omega,by omega,?_⟩⟩
 have:ws=1::ws.drop 1:=by have:=G3 hw;simpa using this
 rw[this];simp[Q4]
theorem DU.next{ws:List Int}{k:Nat}{last w:Int}(h:DU ws k last)(hw:ws[k]?=some w)(hk:0<k)(h1:last<w)(h2:w.tmod last=0)(h3:w≤1000000):DU ws (k+1) w:=by
 rcases h.2 with h|h
 ·omega
 ·refine⟨F5 hw,.inr ⟨by omega,by omega,?_⟩⟩
  rw[h.2.2,G3 hw];simp[EC,h1,h2,h3]
theorem DU.bad0{ws:List Int}{k:Nat}{last w:Int}(h:DU ws k last)(hw:ws[k]?=some w)(hk:k=0)(h1:¬w=1):Q4 ws=false:=by
 subst hk
 have:ws=w::ws.drop 1:=by have:=G3 hw;simpa using this
 rw[this];simp[Q4,h1]
theorem DU.bad{ws:List Int}{k:Nat}{last w:Int}(h:DU ws k last)(hw:ws[k]?=some w)(hk:0<k)(h1:¬(last<w∧w.tmod last=0∧w≤1000000)):Q4 ws=false:=by
 rcases h.2 with h|h
 ·omega
 ·rw[h.2.2,G3 hw]
  simp only[EC,Bool.and_eq_false_iff,decide_eq_false_iff_not]
  omega
theorem DU.done{ws:List Int}{k:Nat}{last:Int}(h:DU ws k last)(hk:¬(k:Int)<ws.length)(hn:ws.length≠0):Q4 ws=true:=by
 rcases h.2 with h2|h2
 ·omega
 ·rw[h2.2.2,S6 hk];rfl
theorem Sl(c:D4):A3 Tryz.prog 196 [S9 c] (.i (meaE c)):=by
 refine B6 Tryz.func196 68 fun lW E h0=>?_
 have lX:c.widths.length≤9223372036854775807:=by
  have:=((lW (S9 c) (by simp)).agg (.sl 1 (c.widths.map wA)) (by simp)).sl
  simpa using this
 repeat'((first|refine S2 ?_|(refine T6 ?_ ?_<;>intro h<;>try exact V1 h)|intro el lU lV|intro el lU|exact T4|refine T5 ?_ ?_|intro ex)<;>try conv=>whnf)
 all_goals first
  |exact A0 rfl (congrArg AV.i (by rw[meaE,if_pos (by omega)]))
  |exact A0 rfl (congrArg AV.i (by rw[meaE,if_neg (by omega),if_pos (by omega)]))
  |skip
 have hm:meaE c=if Q4 c.widths=true then 0 else 2:=by rw[meaE,if_neg (by omega),if_neg (by omega)]
 have hne:c.widths.length≠0:=by omega
 rw[hm]
 refine B0 (ι:=Nat×Int) (fun x=>⟨[(3,.i x.2),(34,.sl 1 (c.widths.map wA)),(35,.i c.widths.length),(36,.i x.1)],0,[]⟩) (fun x=>DU c.widths x.1 x.2) (fun x=>c.widths.length-x.1) (0,1) ⟨Nat.zero_le _,.inl ⟨rfl,rfl⟩⟩ (A6 h0) (fun x hI=>?_)
 obtain⟨k,last⟩:=x
 have hp:=hI.pos
 have hk:=hI.1
 dsimp only at hI hp hk ⊢
 repeat'((first|refine S2 ?_|(refine T6 ?_ ?_<;>intro h<;>try exact V1 h)|intro el lU lV|intro el lU|exact T4|refine T5 ?_ ?_|intro ex)<;>try conv=>whnf)
 all_goals first
  |exact A0 rfl (congrArg AV.i (by rw[hI.bad0 lU (by omega) (by omega)];rfl))
  |exact A0 rfl (congrArg AV.i (by rw[hI.bad lU (by omega) (fun hx=>by first|exact absurd hx.2.1 (by assumption)|omega)];rfl))
  |exact A0 rfl (congrArg AV.i (by rw[hI.done (by assumption) hne];rfl))
  |exact⟨(k+1,el),hI.first lU (by omega) (by omega),by simp only;omega,A6 h0⟩
  |exact⟨(k+1,el),hI.next lU (by omega) (by omega) (Classical.byContradiction (by assumption)) (by omega),by simp only;omega,A6 h0⟩
theorem Uu(c:D4):A3 Tryz.prog 197 [S9 c] (.b (Ea c)):=by
 refine B6 Tryz.func197 35 fun lW E h0=>?_
 repeat'((first|refine S2 ?_|(refine T6 ?_ ?_<;>intro h<;>try exact V1 h)|intro el lU lV|intro el lU|exact T4|refine T5 ?_ ?_|intro ex)<;>try conv=>whnf)
 all_goals first
  |exact A0 rfl (congrArg AV.b (by simp_all [Ea]))
theorem ff(l:List (D4))(f:Nat)(caps:List AV)(p:(D4)→Bool)(hf:∀x∈l,A3 Tryz.prog f ((fun x=>S9 x) x::caps) (.b (p x))):A3 Tryz.prog 226 [.sl 7 (l.map X0),.fn f caps] (.i (F4 p l 0)):=by
 refine B6 Tryz.func226 19 fun lW E h0=>?_
 have lX:l.length≤9223372036854775807:=by have:=(lW (.sl 7 (l.map X0)) (by simp)).sl;simpa using this
 repeat'((first|refine S2 ?_|(refine T6 ?_ ?_<;>intro h<;>try exact V1 h)|intro el lU lV|intro el lU|exact T4|refine T5 ?_ ?_|intro ex)<;>try conv=>whnf)
 refine B0 (ι:=Nat) (fun k=>⟨[(0,.sl 7 (l.map X0)),(1,.fn f caps),(7,.i l.length),(8,.i k)],0,[]⟩) (fun k=>k≤l.length∧F4 p l 0=F4 p (l.drop k) k) (fun k=>l.length-k) 0 ⟨Nat.zero_le _,rfl⟩ (A6 h0) (fun k hI=>?_)
 obtain⟨hk,hI⟩:=hI
 repeat'((first|refine A1 (hf _ (List.mem_of_getElem? lU)) ?_ |refine S2 ?_|(refine T6 ?_ ?_<;>intro h<;>try exact V1 h)|intro el lU lV|intro el lU|exact T4|refine T5 ?_ ?_|intro ex)<;>try conv=>whnf)
 all_goals first
  |exact⟨k+1,⟨by omega,by rw[hI,G3 lU,F4,if_neg (by simp[h])];rfl⟩,by omega,A6 h0⟩
  |exact A0 rfl (congrArg AV.i (by rw[hI,G3 lU,F4,if_pos (by simp[h])]))
  |exact A0 rfl (congrArg AV.i (by rw[hI,show k=l.length by omega,List.drop_length];rfl))
theorem fg(l:List (D4))(f:Nat)(caps:List AV)(p:(D4)→Bool)(hf:∀x∈l,A3 Tryz.prog f ((fun x=>S9 x) x::caps) (.b (p x))):A3 Tryz.prog 194 [.sl 7 (l.map X0),.fn f caps] (.b (l.any p)):=by
 refine B6 Tryz.func194 9 fun lW E h0=>?_
 have mh:=ff l f caps p hf
 repeat'((first|refine A1 mh ?_ |refine S2 ?_|(refine T6 ?_ ?_<;>intro h<;>try exact V1 h)|intro el lU lV|intro el lU|exact T4|refine T5 ?_ ?_|intro ex)<;>try conv=>whnf)
 all_goals first
  |exact A0 rfl (congrArg AV.b (CJ p l 0 (by omega)))
theorem jE(l:List (CL))(f:Nat)(caps:List AV)(p:(CL)→Bool)(hf:∀x∈l,A3 Tryz.prog f ((fun x=>jD x) x::caps) (.b (p x))):A3 Tryz.prog 193 [.sl 2 (l.map AX),.fn f caps] (.i (F4 p l 0)):=by
 refine B6 Tryz.func193 19 fun lW E h0=>?_
 have lX:l.length≤9223372036854775807:=by have:=(lW (.sl 2 (l.map AX)) (by simp)).sl;simpa using this
 repeat'((first|refine S2 ?_|(refine T6 ?_ ?_<;>intro h<;>try exact V1 h)|intro el lU lV|intro el lU|exact T4|refine T5 ?_ ?_|intro ex)<;>try conv=>whnf)
 refine B0 (ι:=Nat) (fun k=>⟨[(0,.sl 2 (l.map AX)),(1,.fn f caps),(7,.i l.length),(8,.i k)],0,[]⟩) (fun k=>k≤l.length∧F4 p l 0=F4 p (l.drop k) k) (fun k=>l.length-k) 0 ⟨Nat.zero_le _,rfl⟩ (A6 h0) (fun k hI=>?_)
 obtain⟨hk,hI⟩:=hI
 repeat'((first|refine A1 (hf _ (List.mem_of_getElem? lU)) ?_ |refine S2 ?_|(refine T6 ?_ ?_<;>intro h<;>try exact V1 h)|intro el lU lV|intro el lU|exact T4|refine T5 ?_ ?_|intro ex)<;>try conv=>whnf)
 all_goals first
  |exact⟨k+1,⟨by omega,by rw[hI,G3 lU,F4,if_neg (by simp[h])];rfl⟩,by omega,A6 h0⟩
  |exact A0 rfl (congrArg AV.i (by rw[hI,G3 lU,F4,if_pos (by simp[h])]))
  |exact A0 rfl (congrArg AV.i (by rw[hI,show k=l.length by omega,List.drop_length];rfl))
theorem jF(l:List (CL))(f:Nat)(caps:List AV)(p:(CL)→Bool)(hf:∀x∈l,A3 Tryz.prog f ((fun x=>jD x) x::caps) (.b (p x))):A3 Tryz.prog 154 [.sl 2 (l.map AX),.fn f caps] (.b (l.any p)):=by
 refine B6 Tryz.func154 9 fun lW E h0=>?_
 have mh:=jE l f caps p hf
 repeat'((first|refine A1 mh ?_ |refine S2 ?_|(refine T6 ?_ ?_<;>intro h<;>try exact V1 h)|intro el lU lV|intro el lU|exact T4|refine T5 ?_ ?_|intro ex)<;>try conv=>whnf)
 all_goals first
  |exact A0 rfl (congrArg AV.b (CJ p l 0 (by omega)))
theorem Sm(x c:D4):A3 Tryz.prog 195 [S9 x,.iptr (X0 c)] (.b (decide (x.name=c.name))):=by
 refine B6 Tryz.func195 9 fun lW E h0=>?_
 repeat'((first|refine S2 ?_|(refine T6 ?_ ?_<;>intro h<;>try exact V1 h)|intro el lU lV|intro el lU|exact T4|refine T5 ?_ ?_|intro ex)<;>try conv=>whnf)
 all_goals exact A0 rfl rfl
theorem Qq(x l:CL):A3 Tryz.prog 155 [jD x,.iptr (AX l)] (.b (decide (x.1=l.1))):=by
 refine B6 Tryz.func155 9 fun lW E h0=>?_
 repeat'((first|refine S2 ?_|(refine T6 ?_ ?_<;>intro h<;>try exact V1 h)|intro el lU lV|intro el lU|exact T4|refine T5 ?_ ?_|intro ex)<;>try conv=>whnf)
 all_goals exact A0 rfl rfl
theorem Uv(s:A4)(i:Nat)(c:D4)(hc:s.cols[i]?=some c):A3 Tryz.prog 156 [sA s,.i i] (.i (colE s i c)):=by
 have hi:=F5 hc
 have me:=fg (s.cols.take i) 195 [.iptr (X0 c)] (fun x=>decide (x.name=c.name)) (fun x _=>Sm x c)
 rw[List.map_take]at me
 have rM:=Uu c
 generalize hu:Ea c=u at rM
 have oW:=Sl c
 generalize hm:meaE c=m at oW
 refine B6 Tryz.func156 51 fun lW E h0=>?_
 repeat'((first|(refine A2 (x:=c) (by simpa using hc) (by omega) ?_)|refine A1 (CZ _) ?_|refine A1 oW ?_|refine A1 rM ?_|refine J1 1 ?_|refine A1 me ?_ |refine S2 ?_|(refine T6 ?_ ?_<;>intro h<;>try exact V1 h)|intro el lU lV|intro el lU|exact T4|refine T5 ?_ ?_|intro ex)<;>try conv=>whnf)
 all_goals
  refine A0 rfl (congrArg AV.i ?_)
  clear me lW h0 hi hc E rM oW
 all_goals first
  |(first|(simp only[colE,kindE,GP,hu,hm, *,if_true,if_false,Bool.true_eq_false,Bool.false_eq_true,or_true,or_false,true_or,false_or,and_true,true_and,and_false,false_and,not_true_eq_false,not_false_eq_true,ne_eq,reduceIte,Int.reduceEq,Int.reduceLT,Int.reduceLE,Int.reduceNeg,decide_true,decide_false,Bool.not_true,Bool.not_false,Bool.and_true,Bool.true_and,Bool.and_false,Bool.false_and,Bool.or_true,Bool.true_or,Bool.or_false,Bool.false_or,Option.some.injEq];done)|(simp only[colE,kindE,GP,hu,hm, *,if_true,if_false,Bool.true_eq_false,Bool.false_eq_true,not_true_eq_false,not_false_eq_true,ne_eq,reduceIte,Int.reduceEq];first|rfl|(repeat' split)<;>first|rfl|omega|(exfalso;omega)|contradiction))
theorem X3{s:A4}(h:Rd (sA s)):s.lists.length≤9223372036854775807∧s.cols.length≤9223372036854775807∧∀l∈s.lists,l.2.length≤9223372036854775807:=by
 refine⟨by have:=(h.agg (.sl 2 (s.lists.map AX)) (by simp)).sl;simpa using this,by have:=(h.agg (.sl 7 (s.cols.map X0)) (by simp)).sl;simpa using this,fun l hl=>?_⟩
 have:=((h.agg (.sl 2 (s.lists.map AX)) (by simp)).elem (AX l) (List.mem_map.2 ⟨l,hl,rfl⟩) (.sl 2 (l.2.map cA)) (by simp)).sl
 simpa using this
theorem a6(s:A4):A3 Tryz.prog 98 [sA s] (.i (C3 s)):=by
 refine B6 Tryz.func98 63 fun lW E h0=>?_
 obtain⟨nL,mO,nk⟩:=X3 (s:=s) (lW _ (by simp))
 clear lW
 repeat'((first|refine S2 ?_|(refine T6 ?_ ?_<;>intro h<;>try exact V1 h)|intro el lU lV|intro el lU|exact T4|refine T5 ?_ ?_|intro ex)<;>try conv=>whnf)
 all_goals first
  |exact A0 rfl (congrArg AV.i (by rw[C3,if_pos (by omega)]))
  |skip
 have hs:C3 s=if F0 (b9 s.lists) 0 s.lists=0 then (if s.cols.head?.map (·.kind)=some 1 then F0 (colE s) 0 s.cols else 7)else F0 (b9 s.lists) 0 s.lists:=by rw[C3,if_neg (by omega)]
 rw[hs]
 refine B0 (ι:=Nat) (fun k=>⟨[(1,.ref 0 0),(19,.sl 2 (s.lists.map AX)),(20,.i s.lists.length),(21,.i k)],1,[(0,some (.box (sL s)))]⟩) (fun k=>E9 (b9 s.lists) s.lists k) (fun k=>s.lists.length-k) 0 (E9.zero _ _) (A6 h0) (fun k hI=>?_)
 have hk:=hI.1
 have me:=fun l:CL=>jF (s.lists.take k) 155 [.iptr (AX l)] (fun x=>decide (x.1=l.1)) (fun x _=>Qq x l)
 rw[List.map_take]at me
 repeat'((first|refine A1 (EZ _ _ (nk _ (List.mem_of_getElem? lU))) ?_|refine J1 1 ?_|refine A1 (me _) ?_ |refine S2 ?_|(refine T6 ?_ ?_<;>intro h<;>try exact V1 h)|intro el lU lV|intro el lU|exact T4|refine T5 ?_ ?_|intro ex)<;>try conv=>whnf)
 all_goals first
  |(refine A0 rfl (congrArg AV.i ?_)
    have he:b9 s.lists k el=chk el.1 el.2:=by rw[b9,if_neg (by assumption)]
    rw[←hI.hit lU (by rw[he];assumption),he,if_neg (by assumption)];done)
  |(refine A0 rfl (congrArg AV.i ?_)
    have he:b9 s.lists k el=10:=by rw[b9,if_pos (Classical.byContradiction (by assumption)),if_pos (by assumption)]
    rw[←hI.hit lU (by rw[he];decide),he];rfl)
  |exact⟨k+1,hI.step lU (by rw[b9,if_pos (Classical.byContradiction (by assumption)),if_neg (by rw[h];exact Bool.false_ne_true)]),by omega,A6 h0⟩
  |(have hd:=hI.done (by assumption)
    refine A0 rfl (congrArg AV.i ?_)
    rw[if_pos hd,if_neg]
    intro hx
    rw[List.head?_eq_getElem?]at hx
    first
     |(rw[show s.cols[0]?=none from List.getElem?_eq_none (by omega)]at hx;cases hx)
     |(have nT:s.cols[0]?=some el:=lU
       rw[nT]at hx
       have:=Option.some.inj hx
       exact absurd this (by assumption)))
  |skip
 have hd:=hI.done (by assumption)
 have hh:s.cols.head?.map (·.kind)=some 1:=by
  rw[List.head?_eq_getElem?]
  have nT:s.cols[0]?=some el:=lU
  rw[nT]
  exact congrArg some (Classical.byContradiction (by assumption))
 rw[if_pos hd,if_pos hh]
 refine B0 (ι:=Nat) (fun k=>⟨[(1,.ref 0 0),(52,.i s.cols.length),(53,.i k)],1,[(0,some (.box (sL s)))]⟩) (fun k=>E9 (colE s) s.cols k) (fun k=>s.cols.length-k) 0 (E9.zero _ _) (A6 h0) (fun k hI=>?_)
 have hk:=hI.1
 have rA:=fun (h:(k:Int)<s.cols.length)=>Uv s k (s.cols[k]'(by omega)) (List.getElem?_eq_getElem (by omega))
 repeat'((first|refine A1 (rA (by assumption)) ?_ |refine S2 ?_|(refine T6 ?_ ?_<;>intro h<;>try exact V1 h)|intro el lU lV|intro el lU|exact T4|refine T5 ?_ ?_|intro ex)<;>try conv=>whnf)
 all_goals first
  |exact⟨k+1,hI.step (List.getElem?_eq_getElem (by omega)) (Classical.byContradiction (by assumption)),by omega,A6 h0⟩
  |exact A0 rfl (congrArg AV.i (hI.hit (List.getElem?_eq_getElem (by omega)) (by assumption)))
  |exact A0 rfl (congrArg AV.i (hI.done (by assumption)).symm)
theorem D5{s:A4}(h:C3 s=0):s.lists.length≤6∧s.cols.length≤8∧(∀l∈s.lists,chk l.1 l.2=0)∧(∀(i:Nat) c,s.cols[i]?=some c→colE s i c=0)∧s.cols.head?.map (·.kind)=some 1:=by
 unfold C3 at h
 split at h
 ·cases h
 ·split at h
  ·rename_i h1 h2
   split at h
   ·rename_i h3
    refine⟨by omega,by omega,fun l hl=>?_,fun i c hc=>by have:=R6 h i c hc;rwa[Nat.zero_add]at this,h3⟩
    obtain⟨i,hi,rfl⟩:=List.getElem_of_mem hl
    have:=R6 h2 i _ (List.getElem?_eq_getElem hi)
    unfold b9 at this
    split at this
    ·assumption
    ·exact this
   ·cases h
  ·rename_i h2;exact absurd h h2
theorem Y8{s:A4}{i:Nat}{c:D4}(h:colE s i c=0):D6 c.name=true∧GP s i c=false∧kindE s i c=0∧Ea c=true:=by
 unfold colE at h
 split at h
 ·cases h
 ·split at h
  ·cases h
  ·split at h
   ·split at h
    ·rename_i h1 h2 h3 h4;exact⟨by simpa using h1,by simpa using h2,h3,h4⟩
    ·cases h
   ·rename_i h3;exact absurd h h3
theorem NT{s:A4}{i:Nat}{c:D4}(h:kindE s i c=0)(hk:c.kind=2):0≤c.lst∧c.lst<s.lists.length:=by
 unfold kindE at h
 rw[if_neg (by omega),if_pos hk]at h
 split at h
 ·cases h
 ·omega
theorem z6{s:A4}{i:Nat}{c:D4}(h:kindE s i c=0)(hk:c.kind=3):meaE c=0:=by
 unfold kindE at h
 rw[if_neg (by omega),if_neg (by omega),if_pos hk]at h
 exact h
theorem Kx{s:A4}{i:Nat}{c:D4}(h:kindE s i c=0):(c.kind=1∧i=0)∨c.kind=2∨c.kind=3:=by
 unfold kindE at h
 split at h
 ·split at h
  ·cases h
  ·left;omega
 ·split at h
  ·omega
  ·split at h
   ·omega
   ·cases h
theorem T0{c:D4}(h:meaE c=0):-1000000≤c.low∧c.high≤1000000∧c.low≤c.high∧1≤c.widths.length∧c.widths.length≤4∧Q4 c.widths=true:=by
 unfold meaE at h
 split at h
 ·cases h
 ·split at h
  ·cases h
  ·split at h
   ·rename_i h3;exact⟨by omega,by omega,by omega,by omega,by omega,h3⟩
   ·cases h
theorem Sn:∀(ws:List Int) (last:Int),1≤last→last≤1000000→EC last ws=true→∀w∈ws,1≤w∧w≤1000000
 |[],_,_,_,_,w,hw=>by cases hw
 |x::r,last,h1,h2,h,w,hw=>by
  simp only[EC,Bool.and_eq_true,decide_eq_true_eq]at h
  rcases List.mem_cons.1 hw with rfl|hw
  ·omega
  ·exact Sn r x (by omega) (by omega) h.2 w hw
theorem Zv{ws:List Int}(h:Q4 ws=true):∀w∈ws,1≤w∧w≤1000000:=by
 cases ws with
 |nil=>intro w hw;cases hw
 |cons x r =>
  simp only[Q4,Bool.and_eq_true,decide_eq_true_eq]at h
  intro w hw
  rcases List.mem_cons.1 hw with rfl|hw
  ·omega
  ·exact Sn r 1 (by omega) (by omega) h.2 w hw
def C2(s:A4)(c:D4):CL:=s.lists.getD c.lst.toNat ([],[])
def BX(s:A4)(c:D4)(v:Int):Bool :=
 if c.kind=1 then decide (1≤v∧v≤1048575)else if c.kind=2 then decide (0≤v∧v<(C2 s c).2.length) && W5 (C2 s c).2 v else decide (c.low≤v∧v≤c.high) || (c.opt && decide (v=(-1099511627776)))
theorem E4{α:Type}{l:List α}{k:Nat}{x d:α}(h:l[k]?=some x):l.getD k d=x:=by rw[List.getD_eq_getElem?_getD,h];rfl
theorem H8{s:A4}{c:D4}{l:CL}(h:s.lists[c.lst.toNat]?=some l):C2 s c=l:=E4 h
structure AY(s:A4):Prop where
 e:C3 s=0
theorem AY.lst{s:A4}(h:C3 s=0){c:D4}(hc:c∈s.cols)(hk:c.kind=2):0≤c.lst∧c.lst<s.lists.length:=by
 obtain⟨i,hi,rfl⟩:=List.getElem_of_mem hc
 exact NT (Y8 ((D5 h).2.2.2.1 i _ (List.getElem?_eq_getElem hi))).2.2.1 hk
def NU(s:A4)(p:D4×Int):Bool:=!(BX s p.1 p.2)
def NV(s:A4)(row:List Int):Bool:=decide (row.length=s.cols.length) && !((s.cols.zip row).any (NU s))
theorem KO{α β:Type}{l:List α}{m:List β}{k:Nat}{x:α}{y:β}(h:l[k]?=some x)(h2:m[k]?=some y):(l.zip m)[k]?=some (x,y):=by
 rw[List.getElem?_zip_eq_some];exact⟨h,h2⟩
def Aj(s:A4)(row:List Int):Int:=if C3 s=0 then (if NV s row=true then 0 else 9)else C3 s
def C0(s:A4)(column:Int):D4:=s.cols.getD column.toNat ⟨[],0,0,0,0,[],false⟩
theorem C1{s:A4}{column:Int}{c:D4}(h:s.cols[column.toNat]?=some c):C0 s column=c:=E4 h
def M7(s:A4)(c:D4):Int:=if c.kind=2 then C4 (C2 s c).1 (C2 s c).2-1 else c.widths.length
def E5(s:A4)(column:Int):Int:=if column<1∨(s.cols.length:Int)≤column then -1 else M7 s (C0 s column)
def B7(s:A4)(column:Int):Int:=if C3 s=0 then E5 s column else -1
theorem n9{nm:List UInt8}{cs:List Code}(h:cs.length≤9223372036854775807):-1≤C4 nm cs∧C4 nm cs≤61:=by
 unfold C4
 split
 ·rename_i h1
  have h2:=I1 h1
  have h3:=Ll (cs:=cs) h2.1.before
  omega
 ·omega
theorem GQ(s:A4)(column:Int)(hr:C3 s=0):A3 Tryz.prog 131 [sA s,.i column] (.i (E5 s column)):=by
 refine B6 Tryz.func131 34 fun lW E h0=>?_
 obtain⟨nL,mO,nk⟩:=X3 (s:=s) (lW _ (by simp))
 have sN:=fun (l:CL) (hl:s.lists[(C0 s column).lst.toNat]?=some l)=>n9 (nm:=l.1) (nk l (List.mem_of_getElem? hl))
 clear lW
 repeat'((first|(refine A1 (Du _ _ (nk _ (List.mem_of_getElem? (by assumption)))) ?_)|(refine o8 ?_ ?_ (fun lx mZ=>?_);(have:=AY.lst hr (List.mem_of_getElem? lU) (by assumption);omega);(have:=AY.lst hr (List.mem_of_getElem? lU) (by assumption);omega))|(refine I4 ?_ ?_;(have:=sN lx (by rw[C1 lU];exact mZ);omega)) |refine S2 ?_|(refine T6 ?_ ?_<;>intro h<;>try exact V1 h)|intro el lU lV|intro el lU|exact T4|refine T5 ?_ ?_|intro ex)<;>try conv=>whnf)
 all_goals first
  |(refine A0 rfl (congrArg AV.i ?_);rw[E5,if_pos (by omega)];done)
  |(refine A0 rfl (congrArg AV.i ?_);rw[E5,if_neg (by omega),C1 lU,M7,if_pos (by assumption),H8 mZ];done)
  |(refine A0 rfl (congrArg AV.i ?_);rw[E5,if_neg (by omega),C1 lU,M7,if_neg (by assumption)];done)
theorem Cy(s:A4)(column:Int):A3 Tryz.prog 71 [sA s,.i column] (.i (B7 s column)):=by
 refine B6 Tryz.func71 11 fun lW E h0=>?_
 clear lW
 repeat'((first|refine A1 (a6 s) ?_|refine A1 (GQ s column (by omega)) ?_ |refine S2 ?_|(refine T6 ?_ ?_<;>intro h<;>try exact V1 h)|intro el lU lV|intro el lU|exact T4|refine T5 ?_ ?_|intro ex)<;>try conv=>whnf)
 all_goals first
  |(refine A0 rfl (congrArg AV.i ?_);rw[B7,if_neg (by assumption)];done)
  |(refine A0 rfl (congrArg AV.i ?_);rw[B7,if_pos (by omega)];done)
def A7(c:D4)(level:Int):Int:=c.widths.getD ((c.widths.length:Int)-level).toNat 0
theorem Hb(c:D4)(level:Int)(h1:1≤level)(h2:level≤c.widths.length):A3 Tryz.prog 215 [S9 c,.i level] (.i (A7 c level)):=by
 refine B6 Tryz.func215 14 fun lW E h0=>?_
 have lX:c.widths.length≤9223372036854775807:=by
  have:=((lW (S9 c) (by simp)).agg (.sl 1 (c.widths.map wA)) (by simp)).sl
  simpa using this
 clear lW
 repeat'((first|refine S2 ?_|(refine T6 ?_ ?_<;>intro h<;>try exact V1 h)|intro el lU lV|intro el lU|exact T4|refine T5 ?_ ?_|intro ex)<;>try conv=>whnf)
 all_goals exact A0 rfl (congrArg AV.i (E4 lU).symm)
def C5(n w:Int):Int:=n-n % w
theorem ED(n w:Int)(hw:1≤w)(vr:w≤1000000)(h1:-4000000000000≤n)(h2:n≤4000000000000):A3 Tryz.prog 216 [.i n,.i w] (.i (C5 n w)):=by
 refine B6 Tryz.func216 17 fun lW E h0=>?_
 have hm:=Fq n hw
 have hb:=Of n hw
 clear lW
 repeat'((first|refine S2 ?_|(refine T6 ?_ ?_<;>intro h<;>try exact V1 h)|intro el lU lV|intro el lU|exact T4|refine T5 ?_ ?_|intro ex)<;>try conv=>whnf)
 all_goals first
  |(refine A0 rfl (congrArg AV.i ?_);unfold C5;omega)
theorem o0{s:A4}(h:C3 s=0){column:Int}{c:D4}(h1:1≤column)(hc:s.cols[column.toNat]?=some c):
  (c.kind=2∧0≤c.lst∧c.lst<s.lists.length)∨(c.kind=3∧-1000000≤c.low∧c.high≤1000000∧c.low≤c.high∧1≤c.widths.length∧c.widths.length≤4∧Q4 c.widths=true):=by
 have hk:=(Y8 ((D5 h).2.2.2.1 _ c hc)).2.2.1
 rcases Kx hk with h2|h2|h2
 ·omega
 ·exact .inl ⟨h2,NT hk h2⟩
 ·exact .inr ⟨h2,T0 (z6 hk h2)⟩
theorem a7{c:D4}{level:Int}(hw:Q4 c.widths=true)(h1:1≤level)(h2:level≤c.widths.length):1≤A7 c level∧A7 c level≤1000000:=by
 have lY:((c.widths.length:Int)-level).toNat<c.widths.length:=by omega
 unfold A7
 rw[E4 (List.getElem?_eq_getElem lY)]
 exact Zv hw _ (List.getElem_mem lY)
theorem V3(n:Int){w:Int}(hw:1≤w):n-w<C5 n w∧C5 n w≤n:=by
 unfold C5
 have h1:=Int.emod_nonneg n (b:=w) (by omega)
 have h2:=Int.emod_lt_of_pos n (b:=w) (by omega)
 omega
theorem NW{a b w:Int}(hw:1≤w)(h:a≤b):C5 a w≤C5 b w:=by
 unfold C5
 have e1:a-a % w=w*(a / w):=by have:=Int.mul_ediv_add_emod a w;omega
 have e2:b-b % w=w*(b / w):=by have:=Int.mul_ediv_add_emod b w;omega
 rw[e1,e2]
 exact Int.mul_le_mul_of_nonneg_left (Int.ediv_le_ediv (by omega) h) (by omega)
theorem fh{a b:Int}(ha:0≤a)(hb:1≤b):a.tdiv b=a / b∧0≤a / b∧a / b≤a:=by
 refine⟨Int.tdiv_eq_ediv_of_nonneg ha,Int.ediv_nonneg ha (by omega),?_⟩
 exact Int.ediv_le_self b ha
def K4(s:A4)(c:D4)(level:Int):Int :=
 if c.kind=2 then (K3 (C2 s c).1 (C2 s c).2 level).length else if level=0 then 1 else (C5 c.high (A7 c level)-C5 c.low (A7 c level)) / A7 c level+1+(if c.opt=true then 1 else 0)
theorem Uw(s:A4)(column level:Int)(hr:C3 s=0)(h1:1≤column)(h2:column<s.cols.length)(h3:0≤level)(h4:level≤E5 s column):A3 Tryz.prog 234 [sA s,.i column,.i level] (.i (K4 s (C0 s column) level)):=by
 obtain⟨c,hc⟩:∃c,s.cols[column.toNat]?=some c:=⟨_,List.getElem?_eq_getElem (by omega)⟩
 have lm:=C1 hc
 have nA:=o0 hr h1 hc
 rw[lm]
 rw[E5,if_neg (by omega),lm]at h4
 have walk:∀w lo hi:Int,(c.kind=2∨level=0∨(1≤w∧w≤1000000∧-2000000≤lo∧lo≤hi∧hi≤1000000∧A3 Tryz.prog 215 [S9 c,.i level] (.i w)∧A3 Tryz.prog 216 [.i c.high,.i w] (.i hi)∧A3 Tryz.prog 216 [.i c.low,.i w] (.i lo))) →
   A3 Tryz.prog 234 [sA s,.i column,.i level] (.i (if c.kind=2 then (K3 (C2 s c).1 (C2 s c).2 level).length else if level=0 then 1 else (hi-lo) / w+1+(if c.opt=true then 1 else 0))):=by
  intro w lo hi hx
  have yJ:c.kind≠2→level≠0→(hi-lo).tdiv w=(hi-lo) / w∧0≤(hi-lo) / w∧(hi-lo) / w≤hi-lo:=fun h5 h6=>fh (by omega) (by omega)
  have zr:c.kind≠2→level≠0→A3 Tryz.prog 215 [S9 c,.i level] (.i w):=fun h5 h6=>by rcases hx with hx|hx|hx<;>first|omega|exact hx.2.2.2.2.2.1
  have zp:c.kind≠2→level≠0→A3 Tryz.prog 216 [.i c.high,.i w] (.i hi):=fun h5 h6=>by rcases hx with hx|hx|hx<;>first|omega|exact hx.2.2.2.2.2.2.1
  have oa:c.kind≠2→level≠0→A3 Tryz.prog 216 [.i c.low,.i w] (.i lo):=fun h5 h6=>by rcases hx with hx|hx|hx<;>first|omega|exact hx.2.2.2.2.2.2.2
  have oK:c.kind≠2→level≠0→w≠0∧-2000000≤lo∧lo≤hi∧hi≤1000000:=fun h5 h6=>by omega
  have oy:=fun (l:CL) (hl:s.lists[c.lst.toNat]?=some l) h=>Gp l.1 l.2 level h
  generalize hq:(hi-lo) / w=q at yJ ⊢
  clear hx
  refine B6 Tryz.func234 49 fun lW E h0=>?_
  obtain⟨nL,mO,nk⟩:=X3 (s:=s) (lW _ (by simp))
  clear lW
  repeat'((first|(refine A2 (x:=c) hc (by omega) ?_)|(refine A1 (oy _ lU (nk _ (List.mem_of_getElem? lU))) ?_)|(refine A1 (zr (by assumption) (by assumption)) ?_)|(refine A1 (zp (by assumption) (by assumption)) ?_)|(refine A1 (oa (by assumption) (by assumption)) ?_)|(refine I4 ?_ ?_;(have h8:=oK (by assumption) (by assumption);have h9:=yJ (by assumption) (by assumption);omega))|(refine B3 ?_ ?_;kernel_rfl) |refine S2 ?_|(refine T6 ?_ ?_<;>intro h<;>try exact V1 h)|intro el lU lV|intro el lU|exact T4|refine T5 ?_ ?_|intro ex)<;>try conv=>whnf)
  all_goals first
   |(refine A0 rfl (congrArg AV.i ?_);rw[if_pos h,H8 lU];done)
   |(refine A0 rfl (congrArg AV.i ?_);rw[if_neg (by assumption),if_pos (by assumption)];done)
   |(refine A0 rfl (congrArg AV.i ?_)
     have h9:=yJ (by assumption) (by assumption)
     rw[if_neg (by assumption),if_neg (by assumption),h9.1]
     first
      |(rw[if_pos h];done)
      |(rw[if_neg (by rw[h];exact Bool.false_ne_true)];omega))
 unfold K4
 refine walk _ _ _ ?_
 rcases nA with nA|nA
 ·exact .inl nA.1
 ·by_cases hl:level=0
  ·exact .inr (.inl hl)
  ·have h5:M7 s c=c.widths.length:=by unfold M7;rw[if_neg (by omega)]
   obtain⟨uK,vr⟩:=a7 nA.2.2.2.2.2.2 (level:=level) (by omega) (by omega)
   have d1:=V3 c.low uK
   have d2:=V3 c.high uK
   have d3:=NW uK nA.2.2.2.1
   exact .inr (.inr ⟨uK,vr,by omega,d3,by omega,Hb c level (by omega) (by omega),ED _ _ uK vr (by omega) (by omega),ED _ _ uK vr (by omega) (by omega)⟩)
end Go.Proofs.YtiphlhoclaogjaaGreatDoor
