/- Chapter 2: schemas, and which are right. Chapter 2: which values fit, levels, coarse values. Chapter 2: rows, columns with a name, levels. Chapter 2: blocks, the least level, coarse values, values turned to another level. -/
import Derived.Test.YtjkbhaaobhgkdabGreatDoorRB4
import Derived.Test.YtjkbhaaobhgkdabGreatDoorRB5
set_option linter.unusedVariables false
set_option linter.unnecessarySimpa false
set_option linter.unusedSimpArgs false
set_option maxHeartbeats 64000000
namespace Go.Proofs.YtjkbhaaobhgkdabGreatDoor
open Go Go.Av
attribute [local irreducible] D0 B0 D2 C7 DQ D1 C8 St.le A3 B6
set_option maxRecDepth 100000
structure D4 where
 name:List UInt8
 kind:Int
 lst:Int
 low:Int
 high:Int
 widths:List Int
 opt:Bool
deriving DecidableEq
abbrev CL:=List UInt8×List Code
structure A4 where
 lists:List CL
 cols:List D4
abbrev wA(w:Int):List AV:=[.i w]
abbrev W5(c:D4):List AV:=[.str c.name,.i c.kind,.i c.lst,.i c.low,.i c.high,.sl 1 (c.widths.map wA),.b c.opt]
abbrev z1(l:CL):List AV:=[.str l.1,.sl 2 (l.2.map cA)]
abbrev sL(s:A4):List AV:=[.sl 2 (s.lists.map z1),.sl 7 (s.cols.map W5)]
abbrev sA(s:A4):AV:=.agg (sL s)
abbrev W6(c:D4):AV:=.agg (W5 c)
abbrev kW(l:CL):AV:=.agg (z1 l)
def EB:Int→List Int→Bool
 |_,[]=>true
 |last,w::r=>decide (last<w) && decide (w.tmod last=0) && decide (w≤1000000) && EB w r
def P6:List Int→Bool
 |[]=>true
 |w::r=>decide (w=1) && EB 1 r
def meaE(c:D4):Int:=if c.low < -1000000∨1000000<c.high∨c.high<c.low then 2 else if c.widths.length=0∨4<c.widths.length then 1 else if P6 c.widths=true then 0 else 2
def Ei(c:D4):Bool:=decide (¬(c.kind≠2∧c.lst≠0)∧(c.kind=3∨c.low=0∧c.high=0∧c.widths.length=0∧c.opt=false))
def kindE(s:A4)(i:Nat)(c:D4):Int :=
 if c.kind=1 then (if (0:Int)<(i:Int)then 4 else 0)else if c.kind=2 then (if c.lst<0∨(s.lists.length:Int)≤c.lst then 5 else 0)else if c.kind=3 then meaE c else 4
def GU(s:A4)(i:Nat)(c:D4):Bool:=(s.cols.take i).any fun x=>decide (x.name=c.name)
def colE(s:A4)(i:Nat)(c:D4):Int :=
 if D5 c.name=false then 3 else if GU s i c=true then 10 else if kindE s i c=0 then (if Ei c=true then 0 else 11)else kindE s i c
def Z9(ls:List CL)(i:Nat)(l:CL):Int:=if chk l.1 l.2=0 then (if ((ls.take i).any fun x=>decide (x.1=l.1))=true then 10 else 0)else chk l.1 l.2
def C5(s:A4):Int :=
 if 6<s.lists.length∨8<s.cols.length then 1 else if E8 (Z9 s.lists) 0 s.lists=0 then
  (if s.cols.head?.map (·.kind)=some 1 then E8 (colE s) 0 s.cols else 7)else E8 (Z9 s.lists) 0 s.lists
def DT(ws:List Int)(k:Nat)(last:Int):Prop:=k≤ws.length∧((k=0∧last=1)∨(0<k∧1≤last∧P6 ws=EB last (ws.drop k)))
theorem DT.pos{ws:List Int}{k:Nat}{last:Int}(h:DT ws k last):1≤last:=by rcases h.2 with h|h<;>omega
theorem DT.first{ws:List Int}{k:Nat}{last w:Int}(h:DT ws k last)(hw:ws[k]?=some w)(hk:k=0)(h1:w=1):DT ws (k+1) w:=by
 subst hk h1
 refine⟨D6 hw,.inr ⟨by omega,by omega,?_⟩⟩
 have:ws=1::ws.drop 1:=by have:=G6 hw;simpa using this
 rw[this];simp[P6]
theorem DT.next{ws:List Int}{k:Nat}{last w:Int}(h:DT ws k last)(hw:ws[k]?=some w)(hk:0<k)(h1:last<w)(h2:w.tmod last=0)(h3:w≤1000000):DT ws (k+1) w:=by
 rcases h.2 with h|h
 ·omega
 ·refine⟨D6 hw,.inr ⟨by omega,by omega,?_⟩⟩
  rw[h.2.2,G6 hw];simp[EB,h1,h2,h3]
theorem DT.bad0{ws:List Int}{k:Nat}{last w:Int}(h:DT ws k last)(hw:ws[k]?=some w)(hk:k=0)(h1:¬w=1):P6 ws=false:=by
 subst hk
 have:ws=w::ws.drop 1:=by have:=G6 hw;simpa using this
 rw[this];simp[P6,h1]
theorem DT.bad{ws:List Int}{k:Nat}{last w:Int}(h:DT ws k last)(hw:ws[k]?=some w)(hk:0<k)(h1:¬(last<w∧w.tmod last=0∧w≤1000000)):P6 ws=false:=by
 rcases h.2 with h|h
 ·omega
 ·rw[h.2.2,G6 hw]
  simp only[EB,Bool.and_eq_false_iff,decide_eq_false_iff_not]
  omega
theorem DT.done{ws:List Int}{k:Nat}{last:Int}(h:DT ws k last)(hk:¬(k:Int)<ws.length)(hn:ws.length≠0):P6 ws=true:=by
 rcases h.2 with h2|h2
 ·omega
 ·rw[h2.2.2,W4 hk];rfl
theorem Sw(c:D4):A3 Tryz.prog 130 [W6 c] (.i (meaE c)):=by
 refine C0 Tryz.func130 68 fun nQ E h0=>?_
 have nO:c.widths.length≤9223372036854775807:=by
  have:=((nQ (W6 c) (by simp)).agg (.sl 1 (c.widths.map wA)) (by simp)).sl
  simpa using this
 repeat'((first|refine S2 ?_|(refine T6 ?_ ?_<;>intro h<;>try exact V1 h)|intro el nN nP|intro el nN|exact T4|refine T5 ?_ ?_|intro ex)<;>try conv=>whnf)
 all_goals first
  |exact A0 rfl (congrArg AV.i (by rw[meaE,if_pos (by omega)]))
  |exact A0 rfl (congrArg AV.i (by rw[meaE,if_neg (by omega),if_pos (by omega)]))
  |skip
 have hm:meaE c=if P6 c.widths=true then 0 else 2:=by rw[meaE,if_neg (by omega),if_neg (by omega)]
 have hne:c.widths.length≠0:=by omega
 rw[hm]
 refine B2 (ι:=Nat×Int) (fun x=>⟨[(3,.i x.2),(34,.sl 1 (c.widths.map wA)),(35,.i c.widths.length),(36,.i x.1)],0,[]⟩) (fun x=>DT c.widths x.1 x.2) (fun x=>c.widths.length-x.1) (0,1) ⟨Nat.zero_le _,.inl ⟨rfl,rfl⟩⟩ (A6 h0) (fun x hI=>?_)
 obtain⟨k,last⟩:=x
 have hp:=hI.pos
 have hk:=hI.1
 dsimp only at hI hp hk ⊢
 repeat'((first|refine S2 ?_|(refine T6 ?_ ?_<;>intro h<;>try exact V1 h)|intro el nN nP|intro el nN|exact T4|refine T5 ?_ ?_|intro ex)<;>try conv=>whnf)
 all_goals first
  |exact A0 rfl (congrArg AV.i (by rw[hI.bad0 nN (by omega) (by omega)];rfl))
  |exact A0 rfl (congrArg AV.i (by rw[hI.bad nN (by omega) (fun hx=>by first|exact absurd hx.2.1 (by assumption)|omega)];rfl))
  |exact A0 rfl (congrArg AV.i (by rw[hI.done (by assumption) hne];rfl))
  |exact⟨(k+1,el),hI.first nN (by omega) (by omega),by simp only;omega,A6 h0⟩
  |exact⟨(k+1,el),hI.next nN (by omega) (by omega) (Classical.byContradiction (by assumption)) (by omega),by simp only;omega,A6 h0⟩
theorem VO(c:D4):A3 Tryz.prog 131 [W6 c] (.b (Ei c)):=by
 refine C0 Tryz.func131 35 fun nQ E h0=>?_
 repeat'((first|refine S2 ?_|(refine T6 ?_ ?_<;>intro h<;>try exact V1 h)|intro el nN nP|intro el nN|exact T4|refine T5 ?_ ?_|intro ex)<;>try conv=>whnf)
 all_goals first
  |exact A0 rfl (congrArg AV.b (by simp_all [Ei]))
theorem hH(l:List (D4))(f:Nat)(caps:List AV)(p:(D4)→Bool)(hf:∀x∈l,A3 Tryz.prog f ((fun x=>W6 x) x::caps) (.b (p x))):A3 Tryz.prog 171 [.sl 7 (l.map W5),.fn f caps] (.i (E6 p l 0)):=by
 refine C0 Tryz.func171 19 fun nQ E h0=>?_
 have nO:l.length≤9223372036854775807:=by have:=(nQ (.sl 7 (l.map W5)) (by simp)).sl;simpa using this
 repeat'((first|refine S2 ?_|(refine T6 ?_ ?_<;>intro h<;>try exact V1 h)|intro el nN nP|intro el nN|exact T4|refine T5 ?_ ?_|intro ex)<;>try conv=>whnf)
 refine B2 (ι:=Nat) (fun k=>⟨[(0,.sl 7 (l.map W5)),(1,.fn f caps),(7,.i l.length),(8,.i k)],0,[]⟩) (fun k=>k≤l.length∧E6 p l 0=E6 p (l.drop k) k) (fun k=>l.length-k) 0 ⟨Nat.zero_le _,rfl⟩ (A6 h0) (fun k hI=>?_)
 obtain⟨hk,hI⟩:=hI
 repeat'((first|refine A1 (hf _ (List.mem_of_getElem? nN)) ?_ |refine S2 ?_|(refine T6 ?_ ?_<;>intro h<;>try exact V1 h)|intro el nN nP|intro el nN|exact T4|refine T5 ?_ ?_|intro ex)<;>try conv=>whnf)
 all_goals first
  |exact⟨k+1,⟨by omega,by rw[hI,G6 nN,E6,if_neg (by simp[h])];rfl⟩,by omega,A6 h0⟩
  |exact A0 rfl (congrArg AV.i (by rw[hI,G6 nN,E6,if_pos (by simp[h])]))
  |exact A0 rfl (congrArg AV.i (by rw[hI,show k=l.length by omega,List.drop_length];rfl))
theorem iB(l:List (D4))(f:Nat)(caps:List AV)(p:(D4)→Bool)(hf:∀x∈l,A3 Tryz.prog f ((fun x=>W6 x) x::caps) (.b (p x))):A3 Tryz.prog 128 [.sl 7 (l.map W5),.fn f caps] (.b (l.any p)):=by
 refine C0 Tryz.func128 9 fun nQ E h0=>?_
 have oV:=hH l f caps p hf
 repeat'((first|refine A1 oV ?_ |refine S2 ?_|(refine T6 ?_ ?_<;>intro h<;>try exact V1 h)|intro el nN nP|intro el nN|exact T4|refine T5 ?_ ?_|intro ex)<;>try conv=>whnf)
 all_goals first
  |exact A0 rfl (congrArg AV.b (Bt p l 0 (by omega)))
theorem kX(l:List (CL))(f:Nat)(caps:List AV)(p:(CL)→Bool)(hf:∀x∈l,A3 Tryz.prog f ((fun x=>kW x) x::caps) (.b (p x))):A3 Tryz.prog 127 [.sl 2 (l.map z1),.fn f caps] (.i (E6 p l 0)):=by
 refine C0 Tryz.func127 19 fun nQ E h0=>?_
 have nO:l.length≤9223372036854775807:=by have:=(nQ (.sl 2 (l.map z1)) (by simp)).sl;simpa using this
 repeat'((first|refine S2 ?_|(refine T6 ?_ ?_<;>intro h<;>try exact V1 h)|intro el nN nP|intro el nN|exact T4|refine T5 ?_ ?_|intro ex)<;>try conv=>whnf)
 refine B2 (ι:=Nat) (fun k=>⟨[(0,.sl 2 (l.map z1)),(1,.fn f caps),(7,.i l.length),(8,.i k)],0,[]⟩) (fun k=>k≤l.length∧E6 p l 0=E6 p (l.drop k) k) (fun k=>l.length-k) 0 ⟨Nat.zero_le _,rfl⟩ (A6 h0) (fun k hI=>?_)
 obtain⟨hk,hI⟩:=hI
 repeat'((first|refine A1 (hf _ (List.mem_of_getElem? nN)) ?_ |refine S2 ?_|(refine T6 ?_ ?_<;>intro h<;>try exact V1 h)|intro el nN nP|intro el nN|exact T4|refine T5 ?_ ?_|intro ex)<;>try conv=>whnf)
 all_goals first
  |exact⟨k+1,⟨by omega,by rw[hI,G6 nN,E6,if_neg (by simp[h])];rfl⟩,by omega,A6 h0⟩
  |exact A0 rfl (congrArg AV.i (by rw[hI,G6 nN,E6,if_pos (by simp[h])]))
  |exact A0 rfl (congrArg AV.i (by rw[hI,show k=l.length by omega,List.drop_length];rfl))
theorem kY(l:List (CL))(f:Nat)(caps:List AV)(p:(CL)→Bool)(hf:∀x∈l,A3 Tryz.prog f ((fun x=>kW x) x::caps) (.b (p x))):A3 Tryz.prog 96 [.sl 2 (l.map z1),.fn f caps] (.b (l.any p)):=by
 refine C0 Tryz.func96 9 fun nQ E h0=>?_
 have oV:=kX l f caps p hf
 repeat'((first|refine A1 oV ?_ |refine S2 ?_|(refine T6 ?_ ?_<;>intro h<;>try exact V1 h)|intro el nN nP|intro el nN|exact T4|refine T5 ?_ ?_|intro ex)<;>try conv=>whnf)
 all_goals first
  |exact A0 rfl (congrArg AV.b (Bt p l 0 (by omega)))
theorem Sx(x c:D4):A3 Tryz.prog 129 [W6 x,.iptr (W5 c)] (.b (decide (x.name=c.name))):=by
 refine C0 Tryz.func129 9 fun nQ E h0=>?_
 repeat'((first|refine S2 ?_|(refine T6 ?_ ?_<;>intro h<;>try exact V1 h)|intro el nN nP|intro el nN|exact T4|refine T5 ?_ ?_|intro ex)<;>try conv=>whnf)
 all_goals exact A0 rfl rfl
theorem RC(x l:CL):A3 Tryz.prog 97 [kW x,.iptr (z1 l)] (.b (decide (x.1=l.1))):=by
 refine C0 Tryz.func97 9 fun nQ E h0=>?_
 repeat'((first|refine S2 ?_|(refine T6 ?_ ?_<;>intro h<;>try exact V1 h)|intro el nN nP|intro el nN|exact T4|refine T5 ?_ ?_|intro ex)<;>try conv=>whnf)
 all_goals exact A0 rfl rfl
theorem VP(s:A4)(i:Nat)(c:D4)(hc:s.cols[i]?=some c):A3 Tryz.prog 98 [sA s,.i i] (.i (colE s i c)):=by
 have hi:=D6 hc
 have oJ:=iB (s.cols.take i) 129 [.iptr (W5 c)] (fun x=>decide (x.name=c.name)) (fun x _=>Sx x c)
 rw[List.map_take]at oJ
 have tB:=VO c
 generalize hu:Ei c=u at tB
 have qN:=Sw c
 generalize hm:meaE c=m at qN
 refine C0 Tryz.func98 51 fun nQ E h0=>?_
 repeat'((first|(refine A2 (x:=c) (by simpa using hc) (by omega) ?_)|refine A1 (CP _) ?_|refine A1 qN ?_|refine A1 tB ?_|refine I6 1 ?_|refine A1 oJ ?_ |refine S2 ?_|(refine T6 ?_ ?_<;>intro h<;>try exact V1 h)|intro el nN nP|intro el nN|exact T4|refine T5 ?_ ?_|intro ex)<;>try conv=>whnf)
 all_goals
  refine A0 rfl (congrArg AV.i ?_)
  clear oJ nQ h0 hi hc E tB qN
 all_goals first
  |(first|(simp only[colE,kindE,GU,hu,hm, *,if_true,if_false,Bool.true_eq_false,Bool.false_eq_true,or_true,or_false,true_or,false_or,and_true,true_and,and_false,false_and,not_true_eq_false,not_false_eq_true,ne_eq,reduceIte,Int.reduceEq,Int.reduceLT,Int.reduceLE,Int.reduceNeg,decide_true,decide_false,Bool.not_true,Bool.not_false,Bool.and_true,Bool.true_and,Bool.and_false,Bool.false_and,Bool.or_true,Bool.true_or,Bool.or_false,Bool.false_or,Option.some.injEq];done)|(simp only[colE,kindE,GU,hu,hm, *,if_true,if_false,Bool.true_eq_false,Bool.false_eq_true,not_true_eq_false,not_false_eq_true,ne_eq,reduceIte,Int.reduceEq];first|rfl|(repeat' split)<;>first|rfl|omega|(exfalso;omega)|contradiction))
theorem W7{s:A4}(h:Rd (sA s)):s.lists.length≤9223372036854775807∧s.cols.length≤9223372036854775807∧∀l∈s.lists,l.2.length≤9223372036854775807:=by
 refine⟨by have:=(h.agg (.sl 2 (s.lists.map z1)) (by simp)).sl;simpa using this,by have:=(h.agg (.sl 7 (s.cols.map W5)) (by simp)).sl;simpa using this,fun l hl=>?_⟩
 have:=((h.agg (.sl 2 (s.lists.map z1)) (by simp)).elem (z1 l) (List.mem_map.2 ⟨l,hl,rfl⟩) (.sl 2 (l.2.map cA)) (by simp)).sl
 simpa using this
theorem Y7(s:A4):A3 Tryz.prog 51 [sA s] (.i (C5 s)):=by
 refine C0 Tryz.func51 63 fun nQ E h0=>?_
 obtain⟨om,oF,pV⟩:=W7 (s:=s) (nQ _ (by simp))
 clear nQ
 repeat'((first|refine S2 ?_|(refine T6 ?_ ?_<;>intro h<;>try exact V1 h)|intro el nN nP|intro el nN|exact T4|refine T5 ?_ ?_|intro ex)<;>try conv=>whnf)
 all_goals first
  |exact A0 rfl (congrArg AV.i (by rw[C5,if_pos (by omega)]))
  |skip
 have hs:C5 s=if E8 (Z9 s.lists) 0 s.lists=0 then (if s.cols.head?.map (·.kind)=some 1 then E8 (colE s) 0 s.cols else 7)else E8 (Z9 s.lists) 0 s.lists:=by rw[C5,if_neg (by omega)]
 rw[hs]
 refine B2 (ι:=Nat) (fun k=>⟨[(1,.ref 0 0),(19,.sl 2 (s.lists.map z1)),(20,.i s.lists.length),(21,.i k)],1,[(0,some (.box (sL s)))]⟩) (fun k=>F1 (Z9 s.lists) s.lists k) (fun k=>s.lists.length-k) 0 (F1.zero _ _) (A6 h0) (fun k hI=>?_)
 have hk:=hI.1
 have oJ:=fun l:CL=>kY (s.lists.take k) 97 [.iptr (z1 l)] (fun x=>decide (x.1=l.1)) (fun x _=>RC x l)
 rw[List.map_take]at oJ
 repeat'((first|refine A1 (Eh _ _ (pV _ (List.mem_of_getElem? nN))) ?_|refine I6 1 ?_|refine A1 (oJ _) ?_ |refine S2 ?_|(refine T6 ?_ ?_<;>intro h<;>try exact V1 h)|intro el nN nP|intro el nN|exact T4|refine T5 ?_ ?_|intro ex)<;>try conv=>whnf)
 all_goals first
  |(refine A0 rfl (congrArg AV.i ?_)
    have he:Z9 s.lists k el=chk el.1 el.2:=by rw[Z9,if_neg (by assumption)]
    rw[←hI.hit nN (by rw[he];assumption),he,if_neg (by assumption)];done)
  |(refine A0 rfl (congrArg AV.i ?_)
    have he:Z9 s.lists k el=10:=by rw[Z9,if_pos (Classical.byContradiction (by assumption)),if_pos (by assumption)]
    rw[←hI.hit nN (by rw[he];decide),he];rfl)
  |exact⟨k+1,hI.step nN (by rw[Z9,if_pos (Classical.byContradiction (by assumption)),if_neg (by rw[h];exact Bool.false_ne_true)]),by omega,A6 h0⟩
  |(have hd:=hI.done (by assumption)
    refine A0 rfl (congrArg AV.i ?_)
    rw[if_pos hd,if_neg]
    intro hx
    rw[List.head?_eq_getElem?]at hx
    first
     |(rw[show s.cols[0]?=none from List.getElem?_eq_none (by omega)]at hx;cases hx)
     |(have pH:s.cols[0]?=some el:=nN
       rw[pH]at hx
       have:=Option.some.inj hx
       exact absurd this (by assumption)))
  |skip
 have hd:=hI.done (by assumption)
 have hh:s.cols.head?.map (·.kind)=some 1:=by
  rw[List.head?_eq_getElem?]
  have pH:s.cols[0]?=some el:=nN
  rw[pH]
  exact congrArg some (Classical.byContradiction (by assumption))
 rw[if_pos hd,if_pos hh]
 refine B2 (ι:=Nat) (fun k=>⟨[(1,.ref 0 0),(52,.i s.cols.length),(53,.i k)],1,[(0,some (.box (sL s)))]⟩) (fun k=>F1 (colE s) s.cols k) (fun k=>s.cols.length-k) 0 (F1.zero _ _) (A6 h0) (fun k hI=>?_)
 have hk:=hI.1
 have sq:=fun (h:(k:Int)<s.cols.length)=>VP s k (s.cols[k]'(by omega)) (List.getElem?_eq_getElem (by omega))
 repeat'((first|refine A1 (sq (by assumption)) ?_ |refine S2 ?_|(refine T6 ?_ ?_<;>intro h<;>try exact V1 h)|intro el nN nP|intro el nN|exact T4|refine T5 ?_ ?_|intro ex)<;>try conv=>whnf)
 all_goals first
  |exact⟨k+1,hI.step (List.getElem?_eq_getElem (by omega)) (Classical.byContradiction (by assumption)),by omega,A6 h0⟩
  |exact A0 rfl (congrArg AV.i (hI.hit (List.getElem?_eq_getElem (by omega)) (by assumption)))
  |exact A0 rfl (congrArg AV.i (hI.done (by assumption)).symm)
theorem F2{s:A4}(h:C5 s=0):s.lists.length≤6∧s.cols.length≤8∧(∀l∈s.lists,chk l.1 l.2=0)∧(∀(i:Nat) c,s.cols[i]?=some c→colE s i c=0)∧s.cols.head?.map (·.kind)=some 1:=by
 unfold C5 at h
 split at h
 ·cases h
 ·split at h
  ·rename_i h1 h2
   split at h
   ·rename_i h3
    refine⟨by omega,by omega,fun l hl=>?_,fun i c hc=>by have:=N5 h i c hc;rwa[Nat.zero_add]at this,h3⟩
    obtain⟨i,hi,rfl⟩:=List.getElem_of_mem hl
    have:=N5 h2 i _ (List.getElem?_eq_getElem hi)
    unfold Z9 at this
    split at this
    ·assumption
    ·exact this
   ·cases h
  ·rename_i h2;exact absurd h h2
theorem BF{s:A4}{i:Nat}{c:D4}(h:colE s i c=0):D5 c.name=true∧GU s i c=false∧kindE s i c=0∧Ei c=true:=by
 unfold colE at h
 split at h
 ·cases h
 ·split at h
  ·cases h
  ·split at h
   ·split at h
    ·rename_i h1 h2 h3 h4;exact⟨by simpa using h1,by simpa using h2,h3,h4⟩
    ·cases h
   ·rename_i h3;exact absurd h h3
theorem Nc{s:A4}{i:Nat}{c:D4}(h:kindE s i c=0)(hk:c.kind=2):0≤c.lst∧c.lst<s.lists.length:=by
 unfold kindE at h
 rw[if_neg (by omega),if_pos hk]at h
 split at h
 ·cases h
 ·omega
theorem EC{s:A4}{i:Nat}{c:D4}(h:kindE s i c=0)(hk:c.kind=3):meaE c=0:=by
 unfold kindE at h
 rw[if_neg (by omega),if_neg (by omega),if_pos hk]at h
 exact h
theorem LK{s:A4}{i:Nat}{c:D4}(h:kindE s i c=0):(c.kind=1∧i=0)∨c.kind=2∨c.kind=3:=by
 unfold kindE at h
 split at h
 ·split at h
  ·cases h
  ·left;omega
 ·split at h
  ·omega
  ·split at h
   ·omega
   ·cases h
theorem l6{c:D4}(h:meaE c=0):-1000000≤c.low∧c.high≤1000000∧c.low≤c.high∧1≤c.widths.length∧c.widths.length≤4∧P6 c.widths=true:=by
 unfold meaE at h
 split at h
 ·cases h
 ·split at h
  ·cases h
  ·split at h
   ·rename_i h3;exact⟨by omega,by omega,by omega,by omega,by omega,h3⟩
   ·cases h
theorem Sy:∀(ws:List Int) (last:Int),1≤last→last≤1000000→EB last ws=true→∀w∈ws,1≤w∧w≤1000000
 |[],_,_,_,_,w,hw=>by cases hw
 |x::r,last,h1,h2,h,w,hw=>by
  simp only[EB,Bool.and_eq_true,decide_eq_true_eq]at h
  rcases List.mem_cons.1 hw with rfl|hw
  ·omega
  ·exact Sy r x (by omega) (by omega) h.2 w hw
theorem aZ{ws:List Int}(h:P6 ws=true):∀w∈ws,1≤w∧w≤1000000:=by
 cases ws with
 |nil=>intro w hw;cases hw
 |cons x r =>
  simp only[P6,Bool.and_eq_true,decide_eq_true_eq]at h
  intro w hw
  rcases List.mem_cons.1 hw with rfl|hw
  ·omega
  ·exact Sy r 1 (by omega) (by omega) h.2 w hw
def C1(s:A4)(c:D4):CL:=s.lists.getD c.lst.toNat ([],[])
def BG(s:A4)(c:D4)(v:Int):Bool :=
 if c.kind=1 then decide (1≤v∧v≤1048575)else if c.kind=2 then decide (0≤v∧v<(C1 s c).2.length) && W0 (C1 s c).2 v else decide (c.low≤v∧v≤c.high) || (c.opt && decide (v=(-1099511627776)))
theorem D3{α:Type}{l:List α}{k:Nat}{x d:α}(h:l[k]?=some x):l.getD k d=x:=by rw[List.getD_eq_getElem?_getD,h];rfl
theorem I7{s:A4}{c:D4}{l:CL}(h:s.lists[c.lst.toNat]?=some l):C1 s c=l:=D3 h
structure Ap(s:A4):Prop where
 e:C5 s=0
theorem Ap.lst{s:A4}(h:C5 s=0){c:D4}(hc:c∈s.cols)(hk:c.kind=2):0≤c.lst∧c.lst<s.lists.length:=by
 obtain⟨i,hi,rfl⟩:=List.getElem_of_mem hc
 exact Nc (BF ((F2 h).2.2.2.1 i _ (List.getElem?_eq_getElem hi))).2.2.1 hk
def KY(s:A4)(p:D4×Int):Bool:=!(BG s p.1 p.2)
def KZ(s:A4)(row:List Int):Bool:=decide (row.length=s.cols.length) && !((s.cols.zip row).any (KY s))
theorem WT{α β:Type}{l:List α}{m:List β}{k:Nat}{x:α}{y:β}(h:l[k]?=some x)(h2:m[k]?=some y):(l.zip m)[k]?=some (x,y):=by
 rw[List.getElem?_zip_eq_some];exact⟨h,h2⟩
def s6(s:A4)(row:List Int):Int:=if C5 s=0 then (if KZ s row=true then 0 else 9)else C5 s
def B4(s:A4)(column:Int):D4:=s.cols.getD column.toNat ⟨[],0,0,0,0,[],false⟩
theorem B7{s:A4}{column:Int}{c:D4}(h:s.cols[column.toNat]?=some c):B4 s column=c:=D3 h
def N7(s:A4)(c:D4):Int:=if c.kind=2 then C3 (C1 s c).1 (C1 s c).2-1 else c.widths.length
def F0(s:A4)(column:Int):Int:=if column<1∨(s.cols.length:Int)≤column then -1 else N7 s (B4 s column)
def B9(s:A4)(column:Int):Int:=if C5 s=0 then F0 s column else -1
theorem l7{nm:List UInt8}{cs:List Code}(h:cs.length≤9223372036854775807):-1≤C3 nm cs∧C3 nm cs≤61:=by
 unfold C3
 split
 ·rename_i h1
  have h2:=H9 h1
  have h3:=Lz (cs:=cs) h2.1.before
  omega
 ·omega
theorem GV(s:A4)(column:Int)(hr:C5 s=0):A3 Tryz.prog 112 [sA s,.i column] (.i (F0 s column)):=by
 refine C0 Tryz.func112 34 fun nQ E h0=>?_
 obtain⟨om,oF,pV⟩:=W7 (s:=s) (nQ _ (by simp))
 have tx:=fun (l:CL) (hl:s.lists[(B4 s column).lst.toNat]?=some l)=>l7 (nm:=l.1) (pV l (List.mem_of_getElem? hl))
 clear nQ
 repeat'((first|(refine A1 (Dq _ _ (pV _ (List.mem_of_getElem? (by assumption)))) ?_)|(refine n9 ?_ ?_ (fun lx ol=>?_);(have:=Ap.lst hr (List.mem_of_getElem? nN) (by assumption);omega);(have:=Ap.lst hr (List.mem_of_getElem? nN) (by assumption);omega))|(refine J4 ?_ ?_;(have:=tx lx (by rw[B7 nN];exact ol);omega)) |refine S2 ?_|(refine T6 ?_ ?_<;>intro h<;>try exact V1 h)|intro el nN nP|intro el nN|exact T4|refine T5 ?_ ?_|intro ex)<;>try conv=>whnf)
 all_goals first
  |(refine A0 rfl (congrArg AV.i ?_);rw[F0,if_pos (by omega)];done)
  |(refine A0 rfl (congrArg AV.i ?_);rw[F0,if_neg (by omega),B7 nN,N7,if_pos (by assumption),I7 ol];done)
  |(refine A0 rfl (congrArg AV.i ?_);rw[F0,if_neg (by omega),B7 nN,N7,if_neg (by assumption)];done)
theorem Co(s:A4)(column:Int):A3 Tryz.prog 68 [sA s,.i column] (.i (B9 s column)):=by
 refine C0 Tryz.func68 11 fun nQ E h0=>?_
 clear nQ
 repeat'((first|refine A1 (Y7 s) ?_|refine A1 (GV s column (by omega)) ?_ |refine S2 ?_|(refine T6 ?_ ?_<;>intro h<;>try exact V1 h)|intro el nN nP|intro el nN|exact T4|refine T5 ?_ ?_|intro ex)<;>try conv=>whnf)
 all_goals first
  |(refine A0 rfl (congrArg AV.i ?_);rw[B9,if_neg (by assumption)];done)
  |(refine A0 rfl (congrArg AV.i ?_);rw[B9,if_pos (by omega)];done)
def A9(c:D4)(level:Int):Int:=c.widths.getD ((c.widths.length:Int)-level).toNat 0
theorem Hc(c:D4)(level:Int)(h1:1≤level)(h2:level≤c.widths.length):A3 Tryz.prog 156 [W6 c,.i level] (.i (A9 c level)):=by
 refine C0 Tryz.func156 14 fun nQ E h0=>?_
 have nO:c.widths.length≤9223372036854775807:=by
  have:=((nQ (W6 c) (by simp)).agg (.sl 1 (c.widths.map wA)) (by simp)).sl
  simpa using this
 clear nQ
 repeat'((first|refine S2 ?_|(refine T6 ?_ ?_<;>intro h<;>try exact V1 h)|intro el nN nP|intro el nN|exact T4|refine T5 ?_ ?_|intro ex)<;>try conv=>whnf)
 all_goals exact A0 rfl (congrArg AV.i (D3 nN).symm)
def C6(n w:Int):Int:=n-n % w
theorem ED(n w:Int)(hw:1≤w)(xg:w≤1000000)(h1:-4000000000000≤n)(h2:n≤4000000000000):A3 Tryz.prog 157 [.i n,.i w] (.i (C6 n w)):=by
 refine C0 Tryz.func157 17 fun nQ E h0=>?_
 have hm:=Fw n hw
 have hb:=Ok n hw
 clear nQ
 repeat'((first|refine S2 ?_|(refine T6 ?_ ?_<;>intro h<;>try exact V1 h)|intro el nN nP|intro el nN|exact T4|refine T5 ?_ ?_|intro ex)<;>try conv=>whnf)
 all_goals first
  |(refine A0 rfl (congrArg AV.i ?_);unfold C6;omega)
theorem CR{s:A4}(h:C5 s=0){column:Int}{c:D4}(h1:1≤column)(hc:s.cols[column.toNat]?=some c):
  (c.kind=2∧0≤c.lst∧c.lst<s.lists.length)∨(c.kind=3∧-1000000≤c.low∧c.high≤1000000∧c.low≤c.high∧1≤c.widths.length∧c.widths.length≤4∧P6 c.widths=true):=by
 have hk:=(BF ((F2 h).2.2.2.1 _ c hc)).2.2.1
 rcases LK hk with h2|h2|h2
 ·omega
 ·exact .inl ⟨h2,Nc hk h2⟩
 ·exact .inr ⟨h2,l6 (EC hk h2)⟩
theorem v8{c:D4}{level:Int}(hw:P6 c.widths=true)(h1:1≤level)(h2:level≤c.widths.length):1≤A9 c level∧A9 c level≤1000000:=by
 have nR:((c.widths.length:Int)-level).toNat<c.widths.length:=by omega
 unfold A9
 rw[D3 (List.getElem?_eq_getElem nR)]
 exact aZ hw _ (List.getElem_mem nR)
theorem T9(n:Int){w:Int}(hw:1≤w):n-w<C6 n w∧C6 n w≤n:=by
 unfold C6
 have h1:=Int.emod_nonneg n (b:=w) (by omega)
 have h2:=Int.emod_lt_of_pos n (b:=w) (by omega)
 omega
theorem Nd{a b w:Int}(hw:1≤w)(h:a≤b):C6 a w≤C6 b w:=by
 unfold C6
 have e1:a-a % w=w*(a / w):=by have:=Int.mul_ediv_add_emod a w;omega
 have e2:b-b % w=w*(b / w):=by have:=Int.mul_ediv_add_emod b w;omega
 rw[e1,e2]
 exact Int.mul_le_mul_of_nonneg_left (Int.ediv_le_ediv (by omega) h) (by omega)
theorem iC{a b:Int}(ha:0≤a)(hb:1≤b):a.tdiv b=a / b∧0≤a / b∧a / b≤a:=by
 refine⟨Int.tdiv_eq_ediv_of_nonneg ha,Int.ediv_nonneg ha (by omega),?_⟩
 exact Int.ediv_le_self b ha
def K1(s:A4)(c:D4)(level:Int):Int :=
 if c.kind=2 then (H6 (C1 s c).1 (C1 s c).2 level).length else if level=0 then 1 else (C6 c.high (A9 c level)-C6 c.low (A9 c level)) / A9 c level+1+(if c.opt=true then 1 else 0)
theorem VQ(s:A4)(column level:Int)(hr:C5 s=0)(h1:1≤column)(h2:column<s.cols.length)(h3:0≤level)(h4:level≤F0 s column):A3 Tryz.prog 181 [sA s,.i column,.i level] (.i (K1 s (B4 s column) level)):=by
 obtain⟨c,hc⟩:∃c,s.cols[column.toNat]?=some c:=⟨_,List.getElem?_eq_getElem (by omega)⟩
 have nh:=B7 hc
 have ow:=CR hr h1 hc
 rw[nh]
 rw[F0,if_neg (by omega),nh]at h4
 have walk:∀w lo hi:Int,(c.kind=2∨level=0∨(1≤w∧w≤1000000∧-2000000≤lo∧lo≤hi∧hi≤1000000∧A3 Tryz.prog 156 [W6 c,.i level] (.i w)∧A3 Tryz.prog 157 [.i c.high,.i w] (.i hi)∧A3 Tryz.prog 157 [.i c.low,.i w] (.i lo))) →
   A3 Tryz.prog 181 [sA s,.i column,.i level] (.i (if c.kind=2 then (H6 (C1 s c).1 (C1 s c).2 level).length else if level=0 then 1 else (hi-lo) / w+1+(if c.opt=true then 1 else 0))):=by
  intro w lo hi hx
  have htd:c.kind≠2→level≠0→(hi-lo).tdiv w=(hi-lo) / w∧0≤(hi-lo) / w∧(hi-lo) / w≤hi-lo:=fun h5 h6=>iC (by omega) (by omega)
  have wB:c.kind≠2→level≠0→A3 Tryz.prog 156 [W6 c,.i level] (.i w):=fun h5 h6=>by rcases hx with hx|hx|hx<;>first|omega|exact hx.2.2.2.2.2.1
  have hdh:c.kind≠2→level≠0→A3 Tryz.prog 157 [.i c.high,.i w] (.i hi):=fun h5 h6=>by rcases hx with hx|hx|hx<;>first|omega|exact hx.2.2.2.2.2.2.1
  have qI:c.kind≠2→level≠0→A3 Tryz.prog 157 [.i c.low,.i w] (.i lo):=fun h5 h6=>by rcases hx with hx|hx|hx<;>first|omega|exact hx.2.2.2.2.2.2.2
  have qX:c.kind≠2→level≠0→w≠0∧-2000000≤lo∧lo≤hi∧hi≤1000000:=fun h5 h6=>by omega
  have qB:=fun (l:CL) (hl:s.lists[c.lst.toNat]?=some l) h=>Gs l.1 l.2 level h
  generalize hq:(hi-lo) / w=q at htd ⊢
  clear hx
  refine C0 Tryz.func181 49 fun nQ E h0=>?_
  obtain⟨om,oF,pV⟩:=W7 (s:=s) (nQ _ (by simp))
  clear nQ
  repeat'((first|(refine A2 (x:=c) hc (by omega) ?_)|(refine A1 (qB _ nN (pV _ (List.mem_of_getElem? nN))) ?_)|(refine A1 (wB (by assumption) (by assumption)) ?_)|(refine A1 (hdh (by assumption) (by assumption)) ?_)|(refine A1 (qI (by assumption) (by assumption)) ?_)|(refine J4 ?_ ?_;(have h8:=qX (by assumption) (by assumption);have h9:=htd (by assumption) (by assumption);omega))|(refine B8 ?_ ?_;kernel_rfl) |refine S2 ?_|(refine T6 ?_ ?_<;>intro h<;>try exact V1 h)|intro el nN nP|intro el nN|exact T4|refine T5 ?_ ?_|intro ex)<;>try conv=>whnf)
  all_goals first
   |(refine A0 rfl (congrArg AV.i ?_);rw[if_pos h,I7 nN];done)
   |(refine A0 rfl (congrArg AV.i ?_);rw[if_neg (by assumption),if_pos (by assumption)];done)
   |(refine A0 rfl (congrArg AV.i ?_)
     have h9:=htd (by assumption) (by assumption)
     rw[if_neg (by assumption),if_neg (by assumption),h9.1]
     first
      |(rw[if_pos h];done)
      |(rw[if_neg (by rw[h];exact Bool.false_ne_true)];omega))
 unfold K1
 refine walk _ _ _ ?_
 rcases ow with ow|ow
 ·exact .inl ow.1
 ·by_cases hl:level=0
  ·exact .inr (.inl hl)
  ·have h5:N7 s c=c.widths.length:=by unfold N7;rw[if_neg (by omega)]
   obtain⟨vr,xg⟩:=v8 ow.2.2.2.2.2.2 (level:=level) (by omega) (by omega)
   have d1:=T9 c.low vr
   have d2:=T9 c.high vr
   have d3:=Nd vr ow.2.2.2.1
   exact .inr (.inr ⟨vr,xg,by omega,d3,by omega,Hc c level (by omega) (by omega),ED _ _ vr xg (by omega) (by omega),ED _ _ vr xg (by omega) (by omega)⟩)
end Go.Proofs.YtjkbhaaobhgkdabGreatDoor
