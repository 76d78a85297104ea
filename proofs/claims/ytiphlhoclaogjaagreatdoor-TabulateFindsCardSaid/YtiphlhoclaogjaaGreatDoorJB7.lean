/- Chapter 2: schemas, and which are right. Chapter 2: which values fit, levels, coarse values. Chapter 2: rows, columns with a name, levels. Chapter 2: blocks, the least level, coarse values, values turned to another level. -/
import Derived.Test.YtiphlhoclaogjaaGreatDoorJB4
import Derived.Test.YtiphlhoclaogjaaGreatDoorJB5
set_option linter.unusedVariables false
set_option linter.unnecessarySimpa false
set_option linter.unusedSimpArgs false
set_option maxHeartbeats 64000000
namespace Go.Proofs.YtiphlhoclaogjaaGreatDoor
open Go Go.Av
attribute [local irreducible] C9 B3 C8 D1 DQ D0 C7 St.le A3 B8
set_option maxRecDepth 100000
structure D3 where
 name:List UInt8
 kind:Int
 lst:Int
 low:Int
 high:Int
 widths:List Int
 opt:Bool
deriving DecidableEq
abbrev CL:=List UInt8×List Code
structure A4 where
 lists:List CL
 cols:List D3
abbrev wA(w:Int):List AV:=[.i w]
abbrev U6(c:D3):List AV:=[.str c.name,.i c.kind,.i c.lst,.i c.low,.i c.high,.sl 1 (c.widths.map wA),.b c.opt]
abbrev As(l:CL):List AV:=[.str l.1,.sl 2 (l.2.map cA)]
abbrev sL(s:A4):List AV:=[.sl 2 (s.lists.map As),.sl 7 (s.cols.map U6)]
abbrev sA(s:A4):AV:=.agg (sL s)
abbrev U0(c:D3):AV:=.agg (U6 c)
abbrev kc(l:CL):AV:=.agg (As l)
def Eh:Int→List Int→Bool
 |_,[]=>true
 |last,w::r=>decide (last<w) && decide (w.tmod last=0) && decide (w≤1000000) && Eh w r
def R7:List Int→Bool
 |[]=>true
 |w::r=>decide (w=1) && Eh 1 r
def meaE(c:D3):Int:=if c.low < -1000000∨1000000<c.high∨c.high<c.low then 2 else if c.widths.length=0∨4<c.widths.length then 1 else if R7 c.widths=true then 0 else 2
def FO(c:D3):Bool:=decide (¬(c.kind≠2∧c.lst≠0)∧(c.kind=3∨c.low=0∧c.high=0∧c.widths.length=0∧c.opt=false))
def kindE(s:A4)(i:Nat)(c:D3):Int :=
 if c.kind=1 then (if (0:Int)<(i:Int)then 4 else 0)else if c.kind=2 then (if c.lst<0∨(s.lists.length:Int)≤c.lst then 5 else 0)else if c.kind=3 then meaE c else 4
def Gz(s:A4)(i:Nat)(c:D3):Bool:=(s.cols.take i).any fun x=>decide (x.name=c.name)
def colE(s:A4)(i:Nat)(c:D3):Int :=
 if D6 c.name=false then 3 else if Gz s i c=true then 10 else if kindE s i c=0 then (if FO c=true then 0 else 11)else kindE s i c
def l8(ls:List CL)(i:Nat)(l:CL):Int:=if chk l.1 l.2=0 then (if ((ls.take i).any fun x=>decide (x.1=l.1))=true then 10 else 0)else chk l.1 l.2
def C3(s:A4):Int :=
 if 6<s.lists.length∨8<s.cols.length then 1 else if F3 (l8 s.lists) 0 s.lists=0 then
  (if s.cols.head?.map (·.kind)=some 1 then F3 (colE s) 0 s.cols else 7)else F3 (l8 s.lists) 0 s.lists
def Du(ws:List Int)(k:Nat)(last:Int):Prop:=k≤ws.length∧((k=0∧last=1)∨(0<k∧1≤last∧R7 ws=Eh last (ws.drop k)))
theorem Du.pos{ws:List Int}{k:Nat}{last:Int}(h:Du ws k last):1≤last:=by rcases h.2 with h|h<;>omega
theorem Du.first{ws:List Int}{k:Nat}{last w:Int}(h:Du ws k last)(hw:ws[k]?=some w)(hk:k=0)(h1:w=1):Du ws (k+1) w:=by
 subst hk h1
 refine⟨E9 hw,.inr ⟨by omega,by omega,?_⟩⟩
 have:ws=1::ws.drop 1:=by have:=F7 hw;simpa using this
 rw[this];simp[R7]
theorem Du.next{ws:List Int}{k:Nat}{last w:Int}(h:Du ws k last)(hw:ws[k]?=some w)(hk:0<k)(h1:last<w)(h2:w.tmod last=0)(h3:w≤1000000):Du ws (k+1) w:=by
 rcases h.2 with h|h
 ·omega
 ·refine⟨E9 hw,.inr ⟨by omega,by omega,?_⟩⟩
  rw[h.2.2,F7 hw];simp[Eh,h1,h2,h3]
theorem Du.bad0{ws:List Int}{k:Nat}{last w:Int}(h:Du ws k last)(hw:ws[k]?=some w)(hk:k=0)(h1:¬w=1):R7 ws=false:=by
 subst hk
 have:ws=w::ws.drop 1:=by have:=F7 hw;simpa using this
 rw[this];simp[R7,h1]
theorem Du.bad{ws:List Int}{k:Nat}{last w:Int}(h:Du ws k last)(hw:ws[k]?=some w)(hk:0<k)(h1:¬(last<w∧w.tmod last=0∧w≤1000000)):R7 ws=false:=by
 rcases h.2 with h|h
 ·omega
 ·rw[h.2.2,F7 hw]
  simp only[Eh,Bool.and_eq_false_iff,decide_eq_false_iff_not]
  omega
theorem Du.done{ws:List Int}{k:Nat}{last:Int}(h:Du ws k last)(hk:¬(k:Int)<ws.length)(hn:ws.length≠0):R7 ws=true:=by
 rcases h.2 with h2|h2
 ·omega
 ·rw[h2.2.2,T8 hk];rfl
theorem Td(c:D3):A3 Tryz.prog 196 [U0 c] (.i (meaE c)):=by
 refine B5 Tryz.func196 68 fun nL E h0=>?_
 have nM:c.widths.length≤9223372036854775807:=by
  have:=((nL (U0 c) (by simp)).agg (.sl 1 (c.widths.map wA)) (by simp)).sl
  simpa using this
 repeat'((first|refine S2 ?_|(refine T6 ?_ ?_<;>intro h<;>try exact V1 h)|intro el nJ nK|intro el nJ|exact T4|refine T5 ?_ ?_|intro ex)<;>try conv=>whnf)
 all_goals first
  |exact A1 rfl (congrArg AV.i (by rw[meaE,if_pos (by omega)]))
  |exact A1 rfl (congrArg AV.i (by rw[meaE,if_neg (by omega),if_pos (by omega)]))
  |skip
 have hm:meaE c=if R7 c.widths=true then 0 else 2:=by rw[meaE,if_neg (by omega),if_neg (by omega)]
 have hne:c.widths.length≠0:=by omega
 rw[hm]
 refine B0 (ι:=Nat×Int) (fun x=>⟨[(3,.i x.2),(34,.sl 1 (c.widths.map wA)),(35,.i c.widths.length),(36,.i x.1)],0,[]⟩) (fun x=>Du c.widths x.1 x.2) (fun x=>c.widths.length-x.1) (0,1) ⟨Nat.zero_le _,.inl ⟨rfl,rfl⟩⟩ (A6 h0) (fun x hI=>?_)
 obtain⟨k,last⟩:=x
 have hp:=hI.pos
 have hk:=hI.1
 dsimp only at hI hp hk ⊢
 repeat'((first|refine S2 ?_|(refine T6 ?_ ?_<;>intro h<;>try exact V1 h)|intro el nJ nK|intro el nJ|exact T4|refine T5 ?_ ?_|intro ex)<;>try conv=>whnf)
 all_goals first
  |exact A1 rfl (congrArg AV.i (by rw[hI.bad0 nJ (by omega) (by omega)];rfl))
  |exact A1 rfl (congrArg AV.i (by rw[hI.bad nJ (by omega) (fun hx=>by first|exact absurd hx.2.1 (by assumption)|omega)];rfl))
  |exact A1 rfl (congrArg AV.i (by rw[hI.done (by assumption) hne];rfl))
  |exact⟨(k+1,el),hI.first nJ (by omega) (by omega),by simp only;omega,A6 h0⟩
  |exact⟨(k+1,el),hI.next nJ (by omega) (by omega) (Classical.byContradiction (by assumption)) (by omega),by simp only;omega,A6 h0⟩
theorem Vm(c:D3):A3 Tryz.prog 197 [U0 c] (.b (FO c)):=by
 refine B5 Tryz.func197 35 fun nL E h0=>?_
 repeat'((first|refine S2 ?_|(refine T6 ?_ ?_<;>intro h<;>try exact V1 h)|intro el nJ nK|intro el nJ|exact T4|refine T5 ?_ ?_|intro ex)<;>try conv=>whnf)
 all_goals first
  |exact A1 rfl (congrArg AV.b (by simp_all [FO]))
theorem iI(l:List (D3))(f:Nat)(caps:List AV)(p:(D3)→Bool)(hf:∀x∈l,A3 Tryz.prog f ((fun x=>U0 x) x::caps) (.b (p x))):A3 Tryz.prog 226 [.sl 7 (l.map U6),.fn f caps] (.i (D9 p l 0)):=by
 refine B5 Tryz.func226 19 fun nL E h0=>?_
 have nM:l.length≤9223372036854775807:=by have:=(nL (.sl 7 (l.map U6)) (by simp)).sl;simpa using this
 repeat'((first|refine S2 ?_|(refine T6 ?_ ?_<;>intro h<;>try exact V1 h)|intro el nJ nK|intro el nJ|exact T4|refine T5 ?_ ?_|intro ex)<;>try conv=>whnf)
 refine B0 (ι:=Nat) (fun k=>⟨[(0,.sl 7 (l.map U6)),(1,.fn f caps),(7,.i l.length),(8,.i k)],0,[]⟩) (fun k=>k≤l.length∧D9 p l 0=D9 p (l.drop k) k) (fun k=>l.length-k) 0 ⟨Nat.zero_le _,rfl⟩ (A6 h0) (fun k hI=>?_)
 obtain⟨hk,hI⟩:=hI
 repeat'((first|refine A0 (hf _ (List.mem_of_getElem? nJ)) ?_ |refine S2 ?_|(refine T6 ?_ ?_<;>intro h<;>try exact V1 h)|intro el nJ nK|intro el nJ|exact T4|refine T5 ?_ ?_|intro ex)<;>try conv=>whnf)
 all_goals first
  |exact⟨k+1,⟨by omega,by rw[hI,F7 nJ,D9,if_neg (by simp[h])];rfl⟩,by omega,A6 h0⟩
  |exact A1 rfl (congrArg AV.i (by rw[hI,F7 nJ,D9,if_pos (by simp[h])]))
  |exact A1 rfl (congrArg AV.i (by rw[hI,show k=l.length by omega,List.drop_length];rfl))
theorem iJ(l:List (D3))(f:Nat)(caps:List AV)(p:(D3)→Bool)(hf:∀x∈l,A3 Tryz.prog f ((fun x=>U0 x) x::caps) (.b (p x))):A3 Tryz.prog 194 [.sl 7 (l.map U6),.fn f caps] (.b (l.any p)):=by
 refine B5 Tryz.func194 9 fun nL E h0=>?_
 have oZ:=iI l f caps p hf
 repeat'((first|refine A0 oZ ?_ |refine S2 ?_|(refine T6 ?_ ?_<;>intro h<;>try exact V1 h)|intro el nJ nK|intro el nJ|exact T4|refine T5 ?_ ?_|intro ex)<;>try conv=>whnf)
 all_goals first
  |exact A1 rfl (congrArg AV.b (Bf p l 0 (by omega)))
theorem kd(l:List (CL))(f:Nat)(caps:List AV)(p:(CL)→Bool)(hf:∀x∈l,A3 Tryz.prog f ((fun x=>kc x) x::caps) (.b (p x))):A3 Tryz.prog 193 [.sl 2 (l.map As),.fn f caps] (.i (D9 p l 0)):=by
 refine B5 Tryz.func193 19 fun nL E h0=>?_
 have nM:l.length≤9223372036854775807:=by have:=(nL (.sl 2 (l.map As)) (by simp)).sl;simpa using this
 repeat'((first|refine S2 ?_|(refine T6 ?_ ?_<;>intro h<;>try exact V1 h)|intro el nJ nK|intro el nJ|exact T4|refine T5 ?_ ?_|intro ex)<;>try conv=>whnf)
 refine B0 (ι:=Nat) (fun k=>⟨[(0,.sl 2 (l.map As)),(1,.fn f caps),(7,.i l.length),(8,.i k)],0,[]⟩) (fun k=>k≤l.length∧D9 p l 0=D9 p (l.drop k) k) (fun k=>l.length-k) 0 ⟨Nat.zero_le _,rfl⟩ (A6 h0) (fun k hI=>?_)
 obtain⟨hk,hI⟩:=hI
 repeat'((first|refine A0 (hf _ (List.mem_of_getElem? nJ)) ?_ |refine S2 ?_|(refine T6 ?_ ?_<;>intro h<;>try exact V1 h)|intro el nJ nK|intro el nJ|exact T4|refine T5 ?_ ?_|intro ex)<;>try conv=>whnf)
 all_goals first
  |exact⟨k+1,⟨by omega,by rw[hI,F7 nJ,D9,if_neg (by simp[h])];rfl⟩,by omega,A6 h0⟩
  |exact A1 rfl (congrArg AV.i (by rw[hI,F7 nJ,D9,if_pos (by simp[h])]))
  |exact A1 rfl (congrArg AV.i (by rw[hI,show k=l.length by omega,List.drop_length];rfl))
theorem ke(l:List (CL))(f:Nat)(caps:List AV)(p:(CL)→Bool)(hf:∀x∈l,A3 Tryz.prog f ((fun x=>kc x) x::caps) (.b (p x))):A3 Tryz.prog 154 [.sl 2 (l.map As),.fn f caps] (.b (l.any p)):=by
 refine B5 Tryz.func154 9 fun nL E h0=>?_
 have oZ:=kd l f caps p hf
 repeat'((first|refine A0 oZ ?_ |refine S2 ?_|(refine T6 ?_ ?_<;>intro h<;>try exact V1 h)|intro el nJ nK|intro el nJ|exact T4|refine T5 ?_ ?_|intro ex)<;>try conv=>whnf)
 all_goals first
  |exact A1 rfl (congrArg AV.b (Bf p l 0 (by omega)))
theorem Te(x c:D3):A3 Tryz.prog 195 [U0 x,.iptr (U6 c)] (.b (decide (x.name=c.name))):=by
 refine B5 Tryz.func195 9 fun nL E h0=>?_
 repeat'((first|refine S2 ?_|(refine T6 ?_ ?_<;>intro h<;>try exact V1 h)|intro el nJ nK|intro el nJ|exact T4|refine T5 ?_ ?_|intro ex)<;>try conv=>whnf)
 all_goals exact A1 rfl rfl
theorem Ri(x l:CL):A3 Tryz.prog 155 [kc x,.iptr (As l)] (.b (decide (x.1=l.1))):=by
 refine B5 Tryz.func155 9 fun nL E h0=>?_
 repeat'((first|refine S2 ?_|(refine T6 ?_ ?_<;>intro h<;>try exact V1 h)|intro el nJ nK|intro el nJ|exact T4|refine T5 ?_ ?_|intro ex)<;>try conv=>whnf)
 all_goals exact A1 rfl rfl
theorem Vn(s:A4)(i:Nat)(c:D3)(hc:s.cols[i]?=some c):A3 Tryz.prog 156 [sA s,.i i] (.i (colE s i c)):=by
 have hi:=E9 hc
 have oV:=iJ (s.cols.take i) 195 [.iptr (U6 c)] (fun x=>decide (x.name=c.name)) (fun x _=>Te x c)
 rw[List.map_take]at oV
 have td:=Vm c
 generalize hu:FO c=u at td
 have qb:=Td c
 generalize hm:meaE c=m at qb
 refine B5 Tryz.func156 51 fun nL E h0=>?_
 repeat'((first|(refine A2 (x:=c) (by simpa using hc) (by omega) ?_)|refine A0 (DC _) ?_|refine A0 qb ?_|refine A0 td ?_|refine I6 1 ?_|refine A0 oV ?_ |refine S2 ?_|(refine T6 ?_ ?_<;>intro h<;>try exact V1 h)|intro el nJ nK|intro el nJ|exact T4|refine T5 ?_ ?_|intro ex)<;>try conv=>whnf)
 all_goals
  refine A1 rfl (congrArg AV.i ?_)
  clear oV nL h0 hi hc E td qb
 all_goals first
  |(first|(simp only[colE,kindE,Gz,hu,hm, *,if_true,if_false,Bool.true_eq_false,Bool.false_eq_true,or_true,or_false,true_or,false_or,and_true,true_and,and_false,false_and,not_true_eq_false,not_false_eq_true,ne_eq,reduceIte,Int.reduceEq,Int.reduceLT,Int.reduceLE,Int.reduceNeg,decide_true,decide_false,Bool.not_true,Bool.not_false,Bool.and_true,Bool.true_and,Bool.and_false,Bool.false_and,Bool.or_true,Bool.true_or,Bool.or_false,Bool.false_or,Option.some.injEq];done)|(simp only[colE,kindE,Gz,hu,hm, *,if_true,if_false,Bool.true_eq_false,Bool.false_eq_true,not_true_eq_false,not_false_eq_true,ne_eq,reduceIte,Int.reduceEq];first|rfl|(repeat' split)<;>first|rfl|omega|(exfalso;omega)|contradiction))
theorem Z9{s:A4}(h:Rd (sA s)):s.lists.length≤9223372036854775807∧s.cols.length≤9223372036854775807∧∀l∈s.lists,l.2.length≤9223372036854775807:=by
 refine⟨by have:=(h.agg (.sl 2 (s.lists.map As)) (by simp)).sl;simpa using this,by have:=(h.agg (.sl 7 (s.cols.map U6)) (by simp)).sl;simpa using this,fun l hl=>?_⟩
 have:=((h.agg (.sl 2 (s.lists.map As)) (by simp)).elem (As l) (List.mem_map.2 ⟨l,hl,rfl⟩) (.sl 2 (l.2.map cA)) (by simp)).sl
 simpa using this
theorem k6(s:A4):A3 Tryz.prog 98 [sA s] (.i (C3 s)):=by
 refine B5 Tryz.func98 63 fun nL E h0=>?_
 obtain⟨pL,nv,pU⟩:=Z9 (s:=s) (nL _ (by simp))
 clear nL
 repeat'((first|refine S2 ?_|(refine T6 ?_ ?_<;>intro h<;>try exact V1 h)|intro el nJ nK|intro el nJ|exact T4|refine T5 ?_ ?_|intro ex)<;>try conv=>whnf)
 all_goals first
  |exact A1 rfl (congrArg AV.i (by rw[C3,if_pos (by omega)]))
  |skip
 have hs:C3 s=if F3 (l8 s.lists) 0 s.lists=0 then (if s.cols.head?.map (·.kind)=some 1 then F3 (colE s) 0 s.cols else 7)else F3 (l8 s.lists) 0 s.lists:=by rw[C3,if_neg (by omega)]
 rw[hs]
 refine B0 (ι:=Nat) (fun k=>⟨[(1,.ref 0 0),(19,.sl 2 (s.lists.map As)),(20,.i s.lists.length),(21,.i k)],1,[(0,some (.box (sL s)))]⟩) (fun k=>F2 (l8 s.lists) s.lists k) (fun k=>s.lists.length-k) 0 (F2.zero _ _) (A6 h0) (fun k hI=>?_)
 have hk:=hI.1
 have oV:=fun l:CL=>ke (s.lists.take k) 155 [.iptr (As l)] (fun x=>decide (x.1=l.1)) (fun x _=>Ri x l)
 rw[List.map_take]at oV
 repeat'((first|refine A0 (FN _ _ (pU _ (List.mem_of_getElem? nJ))) ?_|refine I6 1 ?_|refine A0 (oV _) ?_ |refine S2 ?_|(refine T6 ?_ ?_<;>intro h<;>try exact V1 h)|intro el nJ nK|intro el nJ|exact T4|refine T5 ?_ ?_|intro ex)<;>try conv=>whnf)
 all_goals first
  |(refine A1 rfl (congrArg AV.i ?_)
    have he:l8 s.lists k el=chk el.1 el.2:=by rw[l8,if_neg (by assumption)]
    rw[←hI.hit nJ (by rw[he];assumption),he,if_neg (by assumption)];done)
  |(refine A1 rfl (congrArg AV.i ?_)
    have he:l8 s.lists k el=10:=by rw[l8,if_pos (Classical.byContradiction (by assumption)),if_pos (by assumption)]
    rw[←hI.hit nJ (by rw[he];decide),he];rfl)
  |exact⟨k+1,hI.step nJ (by rw[l8,if_pos (Classical.byContradiction (by assumption)),if_neg (by rw[h];exact Bool.false_ne_true)]),by omega,A6 h0⟩
  |(have hd:=hI.done (by assumption)
    refine A1 rfl (congrArg AV.i ?_)
    rw[if_pos hd,if_neg]
    intro hx
    rw[List.head?_eq_getElem?]at hx
    first
     |(rw[show s.cols[0]?=none from List.getElem?_eq_none (by omega)]at hx;cases hx)
     |(have pP:s.cols[0]?=some el:=nJ
       rw[pP]at hx
       have:=Option.some.inj hx
       exact absurd this (by assumption)))
  |skip
 have hd:=hI.done (by assumption)
 have hh:s.cols.head?.map (·.kind)=some 1:=by
  rw[List.head?_eq_getElem?]
  have pP:s.cols[0]?=some el:=nJ
  rw[pP]
  exact congrArg some (Classical.byContradiction (by assumption))
 rw[if_pos hd,if_pos hh]
 refine B0 (ι:=Nat) (fun k=>⟨[(1,.ref 0 0),(52,.i s.cols.length),(53,.i k)],1,[(0,some (.box (sL s)))]⟩) (fun k=>F2 (colE s) s.cols k) (fun k=>s.cols.length-k) 0 (F2.zero _ _) (A6 h0) (fun k hI=>?_)
 have hk:=hI.1
 have qx:=fun (h:(k:Int)<s.cols.length)=>Vn s k (s.cols[k]'(by omega)) (List.getElem?_eq_getElem (by omega))
 repeat'((first|refine A0 (qx (by assumption)) ?_ |refine S2 ?_|(refine T6 ?_ ?_<;>intro h<;>try exact V1 h)|intro el nJ nK|intro el nJ|exact T4|refine T5 ?_ ?_|intro ex)<;>try conv=>whnf)
 all_goals first
  |exact⟨k+1,hI.step (List.getElem?_eq_getElem (by omega)) (Classical.byContradiction (by assumption)),by omega,A6 h0⟩
  |exact A1 rfl (congrArg AV.i (hI.hit (List.getElem?_eq_getElem (by omega)) (by assumption)))
  |exact A1 rfl (congrArg AV.i (hI.done (by assumption)).symm)
theorem D2{s:A4}(h:C3 s=0):s.lists.length≤6∧s.cols.length≤8∧(∀l∈s.lists,chk l.1 l.2=0)∧(∀(i:Nat) c,s.cols[i]?=some c→colE s i c=0)∧s.cols.head?.map (·.kind)=some 1:=by
 unfold C3 at h
 split at h
 ·cases h
 ·split at h
  ·rename_i h1 h2
   split at h
   ·rename_i h3
    refine⟨by omega,by omega,fun l hl=>?_,fun i c hc=>by have:=P2 h i c hc;rwa[Nat.zero_add]at this,h3⟩
    obtain⟨i,hi,rfl⟩:=List.getElem_of_mem hl
    have:=P2 h2 i _ (List.getElem?_eq_getElem hi)
    unfold l8 at this
    split at this
    ·assumption
    ·exact this
   ·cases h
  ·rename_i h2;exact absurd h h2
theorem j5{s:A4}{i:Nat}{c:D3}(h:colE s i c=0):D6 c.name=true∧Gz s i c=false∧kindE s i c=0∧FO c=true:=by
 unfold colE at h
 split at h
 ·cases h
 ·split at h
  ·cases h
  ·split at h
   ·split at h
    ·rename_i h1 h2 h3 h4;exact⟨by simpa using h1,by simpa using h2,h3,h4⟩
    ·cases h
   ·rename_i h3;exact absurd h h3
theorem OH{s:A4}{i:Nat}{c:D3}(h:kindE s i c=0)(hk:c.kind=2):0≤c.lst∧c.lst<s.lists.length:=by
 unfold kindE at h
 rw[if_neg (by omega),if_pos hk]at h
 split at h
 ·cases h
 ·omega
theorem AZ{s:A4}{i:Nat}{c:D3}(h:kindE s i c=0)(hk:c.kind=3):meaE c=0:=by
 unfold kindE at h
 rw[if_neg (by omega),if_neg (by omega),if_pos hk]at h
 exact h
theorem Li{s:A4}{i:Nat}{c:D3}(h:kindE s i c=0):(c.kind=1∧i=0)∨c.kind=2∨c.kind=3:=by
 unfold kindE at h
 split at h
 ·split at h
  ·cases h
  ·left;omega
 ·split at h
  ·omega
  ·split at h
   ·omega
   ·cases h
theorem U1{c:D3}(h:meaE c=0):-1000000≤c.low∧c.high≤1000000∧c.low≤c.high∧1≤c.widths.length∧c.widths.length≤4∧R7 c.widths=true:=by
 unfold meaE at h
 split at h
 ·cases h
 ·split at h
  ·cases h
  ·split at h
   ·rename_i h3;exact⟨by omega,by omega,by omega,by omega,by omega,h3⟩
   ·cases h
theorem Tf:∀(ws:List Int) (last:Int),1≤last→last≤1000000→Eh last ws=true→∀w∈ws,1≤w∧w≤1000000
 |[],_,_,_,_,w,hw=>by cases hw
 |x::r,last,h1,h2,h,w,hw=>by
  simp only[Eh,Bool.and_eq_true,decide_eq_true_eq]at h
  rcases List.mem_cons.1 hw with rfl|hw
  ·omega
  ·exact Tf r x (by omega) (by omega) h.2 w hw
theorem aq{ws:List Int}(h:R7 ws=true):∀w∈ws,1≤w∧w≤1000000:=by
 cases ws with
 |nil=>intro w hw;cases hw
 |cons x r =>
  simp only[R7,Bool.and_eq_true,decide_eq_true_eq]at h
  intro w hw
  rcases List.mem_cons.1 hw with rfl|hw
  ·omega
  ·exact Tf r 1 (by omega) (by omega) h.2 w hw
def C2(s:A4)(c:D3):CL:=s.lists.getD c.lst.toNat ([],[])
def Bx(s:A4)(c:D3)(v:Int):Bool :=
 if c.kind=1 then decide (1≤v∧v≤1048575)else if c.kind=2 then decide (0≤v∧v<(C2 s c).2.length) && Y8 (C2 s c).2 v else decide (c.low≤v∧v≤c.high) || (c.opt && decide (v=(-1099511627776)))
theorem D7{α:Type}{l:List α}{k:Nat}{x d:α}(h:l[k]?=some x):l.getD k d=x:=by rw[List.getD_eq_getElem?_getD,h];rfl
theorem H5{s:A4}{c:D3}{l:CL}(h:s.lists[c.lst.toNat]?=some l):C2 s c=l:=D7 h
structure At(s:A4):Prop where
 e:C3 s=0
theorem At.lst{s:A4}(h:C3 s=0){c:D3}(hc:c∈s.cols)(hk:c.kind=2):0≤c.lst∧c.lst<s.lists.length:=by
 obtain⟨i,hi,rfl⟩:=List.getElem_of_mem hc
 exact OH (j5 ((D2 h).2.2.2.1 i _ (List.getElem?_eq_getElem hi))).2.2.1 hk
def OI(s:A4)(p:D3×Int):Bool:=!(Bx s p.1 p.2)
def OJ(s:A4)(row:List Int):Bool:=decide (row.length=s.cols.length) && !((s.cols.zip row).any (OI s))
theorem Kw{α β:Type}{l:List α}{m:List β}{k:Nat}{x:α}{y:β}(h:l[k]?=some x)(h2:m[k]?=some y):(l.zip m)[k]?=some (x,y):=by
 rw[List.getElem?_zip_eq_some];exact⟨h,h2⟩
def BD(s:A4)(row:List Int):Int:=if C3 s=0 then (if OJ s row=true then 0 else 9)else C3 s
def B6(s:A4)(column:Int):D3:=s.cols.getD column.toNat ⟨[],0,0,0,0,[],false⟩
theorem B9{s:A4}{column:Int}{c:D3}(h:s.cols[column.toNat]?=some c):B6 s column=c:=D7 h
def M1(s:A4)(c:D3):Int:=if c.kind=2 then C5 (C2 s c).1 (C2 s c).2-1 else c.widths.length
def E6(s:A4)(column:Int):Int:=if column<1∨(s.cols.length:Int)≤column then -1 else M1 s (B6 s column)
def B4(s:A4)(column:Int):Int:=if C3 s=0 then E6 s column else -1
theorem u4{nm:List UInt8}{cs:List Code}(h:cs.length≤9223372036854775807):-1≤C5 nm cs∧C5 nm cs≤61:=by
 unfold C5
 split
 ·rename_i h1
  have h2:=G9 h1
  have h3:=MZ (cs:=cs) h2.1.before
  omega
 ·omega
theorem HA(s:A4)(column:Int)(hr:C3 s=0):A3 Tryz.prog 131 [sA s,.i column] (.i (E6 s column)):=by
 refine B5 Tryz.func131 34 fun nL E h0=>?_
 obtain⟨pL,nv,pU⟩:=Z9 (s:=s) (nL _ (by simp))
 have ue:=fun (l:CL) (hl:s.lists[(B6 s column).lst.toNat]?=some l)=>u4 (nm:=l.1) (pU l (List.mem_of_getElem? hl))
 clear nL
 repeat'((first|(refine A0 (EU _ _ (pU _ (List.mem_of_getElem? (by assumption)))) ?_)|(refine w6 ?_ ?_ (fun lx oD=>?_);(have:=At.lst hr (List.mem_of_getElem? nJ) (by assumption);omega);(have:=At.lst hr (List.mem_of_getElem? nJ) (by assumption);omega))|(refine J0 ?_ ?_;(have:=ue lx (by rw[B9 nJ];exact oD);omega)) |refine S2 ?_|(refine T6 ?_ ?_<;>intro h<;>try exact V1 h)|intro el nJ nK|intro el nJ|exact T4|refine T5 ?_ ?_|intro ex)<;>try conv=>whnf)
 all_goals first
  |(refine A1 rfl (congrArg AV.i ?_);rw[E6,if_pos (by omega)];done)
  |(refine A1 rfl (congrArg AV.i ?_);rw[E6,if_neg (by omega),B9 nJ,M1,if_pos (by assumption),H5 oD];done)
  |(refine A1 rfl (congrArg AV.i ?_);rw[E6,if_neg (by omega),B9 nJ,M1,if_neg (by assumption)];done)
theorem Db(s:A4)(column:Int):A3 Tryz.prog 71 [sA s,.i column] (.i (B4 s column)):=by
 refine B5 Tryz.func71 11 fun nL E h0=>?_
 clear nL
 repeat'((first|refine A0 (k6 s) ?_|refine A0 (HA s column (by omega)) ?_ |refine S2 ?_|(refine T6 ?_ ?_<;>intro h<;>try exact V1 h)|intro el nJ nK|intro el nJ|exact T4|refine T5 ?_ ?_|intro ex)<;>try conv=>whnf)
 all_goals first
  |(refine A1 rfl (congrArg AV.i ?_);rw[B4,if_neg (by assumption)];done)
  |(refine A1 rfl (congrArg AV.i ?_);rw[B4,if_pos (by omega)];done)
def B1(c:D3)(level:Int):Int:=c.widths.getD ((c.widths.length:Int)-level).toNat 0
theorem IV(c:D3)(level:Int)(h1:1≤level)(h2:level≤c.widths.length):A3 Tryz.prog 215 [U0 c,.i level] (.i (B1 c level)):=by
 refine B5 Tryz.func215 14 fun nL E h0=>?_
 have nM:c.widths.length≤9223372036854775807:=by
  have:=((nL (U0 c) (by simp)).agg (.sl 1 (c.widths.map wA)) (by simp)).sl
  simpa using this
 clear nL
 repeat'((first|refine S2 ?_|(refine T6 ?_ ?_<;>intro h<;>try exact V1 h)|intro el nJ nK|intro el nJ|exact T4|refine T5 ?_ ?_|intro ex)<;>try conv=>whnf)
 all_goals exact A1 rfl (congrArg AV.i (D7 nJ).symm)
def C6(n w:Int):Int:=n-n % w
theorem Ei(n w:Int)(hw:1≤w)(yR:w≤1000000)(h1:-4000000000000≤n)(h2:n≤4000000000000):A3 Tryz.prog 216 [.i n,.i w] (.i (C6 n w)):=by
 refine B5 Tryz.func216 17 fun nL E h0=>?_
 have hm:=DF n hw
 have hb:=Kv n hw
 clear nL
 repeat'((first|refine S2 ?_|(refine T6 ?_ ?_<;>intro h<;>try exact V1 h)|intro el nJ nK|intro el nJ|exact T4|refine T5 ?_ ?_|intro ex)<;>try conv=>whnf)
 all_goals first
  |(refine A1 rfl (congrArg AV.i ?_);unfold C6;omega)
theorem u5{s:A4}(h:C3 s=0){column:Int}{c:D3}(h1:1≤column)(hc:s.cols[column.toNat]?=some c):
  (c.kind=2∧0≤c.lst∧c.lst<s.lists.length)∨(c.kind=3∧-1000000≤c.low∧c.high≤1000000∧c.low≤c.high∧1≤c.widths.length∧c.widths.length≤4∧R7 c.widths=true):=by
 have hk:=(j5 ((D2 h).2.2.2.1 _ c hc)).2.2.1
 rcases Li hk with h2|h2|h2
 ·omega
 ·exact .inl ⟨h2,OH hk h2⟩
 ·exact .inr ⟨h2,U1 (AZ hk h2)⟩
theorem k7{c:D3}{level:Int}(hw:R7 c.widths=true)(h1:1≤level)(h2:level≤c.widths.length):1≤B1 c level∧B1 c level≤1000000:=by
 have nN:((c.widths.length:Int)-level).toNat<c.widths.length:=by omega
 unfold B1
 rw[D7 (List.getElem?_eq_getElem nN)]
 exact aq hw _ (List.getElem_mem nN)
theorem W3(n:Int){w:Int}(hw:1≤w):n-w<C6 n w∧C6 n w≤n:=by
 unfold C6
 have h1:=Int.emod_nonneg n (b:=w) (by omega)
 have h2:=Int.emod_lt_of_pos n (b:=w) (by omega)
 omega
theorem OK{a b w:Int}(hw:1≤w)(h:a≤b):C6 a w≤C6 b w:=by
 unfold C6
 have e1:a-a % w=w*(a / w):=by have:=Int.mul_ediv_add_emod a w;omega
 have e2:b-b % w=w*(b / w):=by have:=Int.mul_ediv_add_emod b w;omega
 rw[e1,e2]
 exact Int.mul_le_mul_of_nonneg_left (Int.ediv_le_ediv (by omega) h) (by omega)
theorem iK{a b:Int}(ha:0≤a)(hb:1≤b):a.tdiv b=a / b∧0≤a / b∧a / b≤a:=by
 refine⟨Int.tdiv_eq_ediv_of_nonneg ha,Int.ediv_nonneg ha (by omega),?_⟩
 exact Int.ediv_le_self b ha
def K6(s:A4)(c:D3)(level:Int):Int :=
 if c.kind=2 then (H1 (C2 s c).1 (C2 s c).2 level).length else if level=0 then 1 else (C6 c.high (B1 c level)-C6 c.low (B1 c level)) / B1 c level+1+(if c.opt=true then 1 else 0)
theorem Vo(s:A4)(column level:Int)(hr:C3 s=0)(h1:1≤column)(h2:column<s.cols.length)(h3:0≤level)(h4:level≤E6 s column):A3 Tryz.prog 234 [sA s,.i column,.i level] (.i (K6 s (B6 s column) level)):=by
 obtain⟨c,hc⟩:∃c,s.cols[column.toNat]?=some c:=⟨_,List.getElem?_eq_getElem (by omega)⟩
 have nY:=B9 hc
 have ov:=u5 hr h1 hc
 rw[nY]
 rw[E6,if_neg (by omega),nY]at h4
 have walk:∀w lo hi:Int,(c.kind=2∨level=0∨(1≤w∧w≤1000000∧-2000000≤lo∧lo≤hi∧hi≤1000000∧A3 Tryz.prog 215 [U0 c,.i level] (.i w)∧A3 Tryz.prog 216 [.i c.high,.i w] (.i hi)∧A3 Tryz.prog 216 [.i c.low,.i w] (.i lo))) →
   A3 Tryz.prog 234 [sA s,.i column,.i level] (.i (if c.kind=2 then (H1 (C2 s c).1 (C2 s c).2 level).length else if level=0 then 1 else (hi-lo) / w+1+(if c.opt=true then 1 else 0))):=by
  intro w lo hi hx
  have htd:c.kind≠2→level≠0→(hi-lo).tdiv w=(hi-lo) / w∧0≤(hi-lo) / w∧(hi-lo) / w≤hi-lo:=fun h5 h6=>iK (by omega) (by omega)
  have hwc:c.kind≠2→level≠0→A3 Tryz.prog 215 [U0 c,.i level] (.i w):=fun h5 h6=>by rcases hx with hx|hx|hx<;>first|omega|exact hx.2.2.2.2.2.1
  have hdh:c.kind≠2→level≠0→A3 Tryz.prog 216 [.i c.high,.i w] (.i hi):=fun h5 h6=>by rcases hx with hx|hx|hx<;>first|omega|exact hx.2.2.2.2.2.2.1
  have qC:c.kind≠2→level≠0→A3 Tryz.prog 216 [.i c.low,.i w] (.i lo):=fun h5 h6=>by rcases hx with hx|hx|hx<;>first|omega|exact hx.2.2.2.2.2.2.2
  have qH:c.kind≠2→level≠0→w≠0∧-2000000≤lo∧lo≤hi∧hi≤1000000:=fun h5 h6=>by omega
  have pt:=fun (l:CL) (hl:s.lists[c.lst.toNat]?=some l) h=>Hb l.1 l.2 level h
  generalize hq:(hi-lo) / w=q at htd ⊢
  clear hx
  refine B5 Tryz.func234 49 fun nL E h0=>?_
  obtain⟨pL,nv,pU⟩:=Z9 (s:=s) (nL _ (by simp))
  clear nL
  repeat'((first|(refine A2 (x:=c) hc (by omega) ?_)|(refine A0 (pt _ nJ (pU _ (List.mem_of_getElem? nJ))) ?_)|(refine A0 (hwc (by assumption) (by assumption)) ?_)|(refine A0 (hdh (by assumption) (by assumption)) ?_)|(refine A0 (qC (by assumption) (by assumption)) ?_)|(refine J0 ?_ ?_;(have h8:=qH (by assumption) (by assumption);have h9:=htd (by assumption) (by assumption);omega))|(refine A9 ?_ ?_;kernel_rfl) |refine S2 ?_|(refine T6 ?_ ?_<;>intro h<;>try exact V1 h)|intro el nJ nK|intro el nJ|exact T4|refine T5 ?_ ?_|intro ex)<;>try conv=>whnf)
  all_goals first
   |(refine A1 rfl (congrArg AV.i ?_);rw[if_pos h,H5 nJ];done)
   |(refine A1 rfl (congrArg AV.i ?_);rw[if_neg (by assumption),if_pos (by assumption)];done)
   |(refine A1 rfl (congrArg AV.i ?_)
     have h9:=htd (by assumption) (by assumption)
     rw[if_neg (by assumption),if_neg (by assumption),h9.1]
     first
      |(rw[if_pos h];done)
      |(rw[if_neg (by rw[h];exact Bool.false_ne_true)];omega))
 unfold K6
 refine walk _ _ _ ?_
 rcases ov with ov|ov
 ·exact .inl ov.1
 ·by_cases hl:level=0
  ·exact .inr (.inl hl)
  ·have h5:M1 s c=c.widths.length:=by unfold M1;rw[if_neg (by omega)]
   obtain⟨wV,yR⟩:=k7 ov.2.2.2.2.2.2 (level:=level) (by omega) (by omega)
   have d1:=W3 c.low wV
   have d2:=W3 c.high wV
   have d3:=OK wV ov.2.2.2.1
   exact .inr (.inr ⟨wV,yR,by omega,d3,by omega,IV c level (by omega) (by omega),Ei _ _ wV yR (by omega) (by omega),Ei _ _ wV yR (by omega) (by omega)⟩)
end Go.Proofs.YtiphlhoclaogjaaGreatDoor
