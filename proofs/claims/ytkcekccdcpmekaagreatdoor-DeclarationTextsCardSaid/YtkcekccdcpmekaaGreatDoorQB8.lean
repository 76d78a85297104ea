/- Chapter 2: schemas, and which are right. Chapter 2: which values fit, levels, coarse values. Chapter 2: rows, columns with a name, levels. Chapter 2: blocks, the least level, coarse values, values turned to another level. -/
import Derived.Test.YtkcekccdcpmekaaGreatDoorQB4
import Derived.Test.YtkcekccdcpmekaaGreatDoorQB5
set_option linter.unusedVariables false
set_option linter.unnecessarySimpa false
set_option linter.unusedSimpArgs false
set_option maxHeartbeats 64000000
namespace Go.Proofs.YtkcekccdcpmekaaGreatDoor
open Go Go.Av
attribute [local irreducible] E8 B5 E5 E1 DQ E7 E9 St.le A4 A9
set_option maxRecDepth 100000
structure H2 where
 name:List UInt8
 kind:Int
 lst:Int
 low:Int
 high:Int
 widths:List Int
 opt:Bool
deriving DecidableEq
abbrev CL:=List UInt8×List Code
structure A5 where
 lists:List CL
 cols:List H2
abbrev wA(w:Int):List AV:=[.i w]
abbrev M7(c:H2):List AV:=[.str c.name,.i c.kind,.i c.lst,.i c.low,.i c.high,.sl 1 (c.widths.map wA),.b c.opt]
abbrev R0(l:CL):List AV:=[.str l.1,.sl 2 (l.2.map cA)]
abbrev sL(s:A5):List AV:=[.sl 2 (s.lists.map R0),.sl 7 (s.cols.map M7)]
abbrev sA(s:A5):AV:=.agg (sL s)
abbrev GW(c:H2):AV:=.agg (M7 c)
abbrev gg(l:CL):AV:=.agg (R0 l)
def Gu:Int→List Int→Bool
 |_,[]=>true
 |last,w::r=>decide (last<w) && decide (w.tmod last=0) && decide (w≤1000000) && Gu w r
def y5:List Int→Bool
 |[]=>true
 |w::r=>decide (w=1) && Gu 1 r
def meaE(c:H2):Int:=if c.low < -1000000∨1000000<c.high∨c.high<c.low then 2 else if c.widths.length=0∨4<c.widths.length then 1 else if y5 c.widths=true then 0 else 2
def Eu(c:H2):Bool:=decide (¬(c.kind≠2∧c.lst≠0)∧(c.kind=3∨c.low=0∧c.high=0∧c.widths.length=0∧c.opt=false))
def kindE(s:A5)(i:Nat)(c:H2):Int :=
 if c.kind=1 then (if (0:Int)<(i:Int)then 4 else 0)else if c.kind=2 then (if c.lst<0∨(s.lists.length:Int)≤c.lst then 5 else 0)else if c.kind=3 then meaE c else 4
def Eh(s:A5)(i:Nat)(c:H2):Bool:=(s.cols.take i).any fun x=>decide (x.name=c.name)
def colE(s:A5)(i:Nat)(c:H2):Int :=
 if D8 c.name=false then 3 else if Eh s i c=true then 10 else if kindE s i c=0 then (if Eu c=true then 0 else 11)else kindE s i c
def u4(ls:List CL)(i:Nat)(l:CL):Int:=if chk l.1 l.2=0 then (if ((ls.take i).any fun x=>decide (x.1=l.1))=true then 10 else 0)else chk l.1 l.2
def C8(s:A5):Int :=
 if 6<s.lists.length∨8<s.cols.length then 1 else if J1 (u4 s.lists) 0 s.lists=0 then
  (if s.cols.head?.map (·.kind)=some 1 then J1 (colE s) 0 s.cols else 7)else J1 (u4 s.lists) 0 s.lists
def Dg(ws:List Int)(k:Nat)(last:Int):Prop:=k≤ws.length∧((k=0∧last=1)∨(0<k∧1≤last∧y5 ws=Gu last (ws.drop k)))
theorem Dg.pos{ws:List Int}{k:Nat}{last:Int}(h:Dg ws k last):1≤last:=by rcases h.2 with h|h<;>omega
theorem Dg.first{ws:List Int}{k:Nat}{last w:Int}(h:Dg ws k last)(hw:ws[k]?=some w)(hk:k=0)(h1:w=1):Dg ws (k+1) w:=by
 subst hk h1
 refine⟨S8 hw,.inr ⟨by omega,by omega,?_⟩⟩
 have:ws=1::ws.drop 1:=by have:=O6 hw;simpa using this
 rw[this];simp[y5]
theorem Dg.next{ws:List Int}{k:Nat}{last w:Int}(h:Dg ws k last)(hw:ws[k]?=some w)(hk:0<k)(h1:last<w)(h2:w.tmod last=0)(h3:w≤1000000):Dg ws (k+1) w:=by
 rcases h.2 with h|h
 ·omega
 ·refine⟨S8 hw,.inr ⟨by omega,by omega,?_⟩⟩
  rw[h.2.2,O6 hw];simp[Gu,h1,h2,h3]
theorem Dg.bad0{ws:List Int}{k:Nat}{last w:Int}(h:Dg ws k last)(hw:ws[k]?=some w)(hk:k=0)(h1:¬w=1):y5 ws=false:=by
 subst hk
 have:ws=w::ws.drop 1:=by have:=O6 hw;simpa using this
 rw[this];simp[y5,h1]
theorem Dg.bad{ws:List Int}{k:Nat}{last w:Int}(h:Dg ws k last)(hw:ws[k]?=some w)(hk:0<k)(h1:¬(last<w∧w.tmod last=0∧w≤1000000)):y5 ws=false:=by
 rcases h.2 with h|h
 ·omega
 ·rw[h.2.2,O6 hw]
  simp only[Gu,Bool.and_eq_false_iff,decide_eq_false_iff_not]
  omega
theorem Dg.done{ws:List Int}{k:Nat}{last:Int}(h:Dg ws k last)(hk:¬(k:Int)<ws.length)(hn:ws.length≠0):y5 ws=true:=by
 rcases h.2 with h2|h2
 ·omega
 ·rw[h2.2.2,Bh hk];rfl
theorem Qy(c:H2):A4 Tryz.prog 105 [GW c] (.i (meaE c)):=by
 refine D0 Tryz.func105 68 fun ki E h0=>?_
 have kf:c.widths.length≤9223372036854775807:=by
  have:=((ki (GW c) (by simp)).agg (.sl 1 (c.widths.map wA)) (by simp)).sl
  simpa using this
 repeat'((first|refine S2 ?_|(refine T6 ?_ ?_<;>intro h<;>try exact V1 h)|intro el ke kg|intro el ke|exact T4|refine T5 ?_ ?_|intro ex)<;>try conv=>whnf)
 all_goals first
  |exact A3 rfl (congrArg AV.i (by rw[meaE,if_pos (by omega)]))
  |exact A3 rfl (congrArg AV.i (by rw[meaE,if_neg (by omega),if_pos (by omega)]))
  |skip
 have hm:meaE c=if y5 c.widths=true then 0 else 2:=by rw[meaE,if_neg (by omega),if_neg (by omega)]
 have hne:c.widths.length≠0:=by omega
 rw[hm]
 refine D5 (ι:=Nat×Int) (fun x=>⟨[(3,.i x.2),(34,.sl 1 (c.widths.map wA)),(35,.i c.widths.length),(36,.i x.1)],0,[]⟩) (fun x=>Dg c.widths x.1 x.2) (fun x=>c.widths.length-x.1) (0,1) ⟨Nat.zero_le _,.inl ⟨rfl,rfl⟩⟩ (B2 h0) (fun x hI=>?_)
 obtain⟨k,last⟩:=x
 have hp:=hI.pos
 have hk:=hI.1
 dsimp only at hI hp hk ⊢
 repeat'((first|refine S2 ?_|(refine T6 ?_ ?_<;>intro h<;>try exact V1 h)|intro el ke kg|intro el ke|exact T4|refine T5 ?_ ?_|intro ex)<;>try conv=>whnf)
 all_goals first
  |exact A3 rfl (congrArg AV.i (by rw[hI.bad0 ke (by omega) (by omega)];rfl))
  |exact A3 rfl (congrArg AV.i (by rw[hI.bad ke (by omega) (fun hx=>by first|exact absurd hx.2.1 (by assumption)|omega)];rfl))
  |exact A3 rfl (congrArg AV.i (by rw[hI.done (by assumption) hne];rfl))
  |exact⟨(k+1,el),hI.first ke (by omega) (by omega),by simp only;omega,B2 h0⟩
  |exact⟨(k+1,el),hI.next ke (by omega) (by omega) (Classical.byContradiction (by assumption)) (by omega),by simp only;omega,B2 h0⟩
theorem TE(c:H2):A4 Tryz.prog 106 [GW c] (.b (Eu c)):=by
 refine D0 Tryz.func106 35 fun ki E h0=>?_
 repeat'((first|refine S2 ?_|(refine T6 ?_ ?_<;>intro h<;>try exact V1 h)|intro el ke kg|intro el ke|exact T4|refine T5 ?_ ?_|intro ex)<;>try conv=>whnf)
 all_goals first
  |exact A3 rfl (congrArg AV.b (by simp_all [Eu]))
theorem UC(l:List (H2))(f:Nat)(caps:List AV)(p:(H2)→Bool)(hf:∀x∈l,A4 Tryz.prog f ((fun x=>GW x) x::caps) (.b (p x))):A4 Tryz.prog 149 [.sl 7 (l.map M7),.fn f caps] (.i (K6 p l 0)):=by
 refine D0 Tryz.func149 19 fun ki E h0=>?_
 have kf:l.length≤9223372036854775807:=by have:=(ki (.sl 7 (l.map M7)) (by simp)).sl;simpa using this
 repeat'((first|refine S2 ?_|(refine T6 ?_ ?_<;>intro h<;>try exact V1 h)|intro el ke kg|intro el ke|exact T4|refine T5 ?_ ?_|intro ex)<;>try conv=>whnf)
 refine D5 (ι:=Nat) (fun k=>⟨[(0,.sl 7 (l.map M7)),(1,.fn f caps),(7,.i l.length),(8,.i k)],0,[]⟩) (fun k=>k≤l.length∧K6 p l 0=K6 p (l.drop k) k) (fun k=>l.length-k) 0 ⟨Nat.zero_le _,rfl⟩ (B2 h0) (fun k hI=>?_)
 obtain⟨hk,hI⟩:=hI
 repeat'((first|refine A0 (hf _ (List.mem_of_getElem? ke)) ?_ |refine S2 ?_|(refine T6 ?_ ?_<;>intro h<;>try exact V1 h)|intro el ke kg|intro el ke|exact T4|refine T5 ?_ ?_|intro ex)<;>try conv=>whnf)
 all_goals first
  |exact⟨k+1,⟨by omega,by rw[hI,O6 ke,K6,if_neg (by simp[h])];rfl⟩,by omega,B2 h0⟩
  |exact A3 rfl (congrArg AV.i (by rw[hI,O6 ke,K6,if_pos (by simp[h])]))
  |exact A3 rfl (congrArg AV.i (by rw[hI,show k=l.length by omega,List.drop_length];rfl))
theorem dm(l:List (H2))(f:Nat)(caps:List AV)(p:(H2)→Bool)(hf:∀x∈l,A4 Tryz.prog f ((fun x=>GW x) x::caps) (.b (p x))):A4 Tryz.prog 103 [.sl 7 (l.map M7),.fn f caps] (.b (l.any p)):=by
 refine D0 Tryz.func103 9 fun ki E h0=>?_
 have mB:=UC l f caps p hf
 repeat'((first|refine A0 mB ?_ |refine S2 ?_|(refine T6 ?_ ?_<;>intro h<;>try exact V1 h)|intro el ke kg|intro el ke|exact T4|refine T5 ?_ ?_|intro ex)<;>try conv=>whnf)
 all_goals first
  |exact A3 rfl (congrArg AV.b (Ds p l 0 (by omega)))
theorem gh(l:List (CL))(f:Nat)(caps:List AV)(p:(CL)→Bool)(hf:∀x∈l,A4 Tryz.prog f ((fun x=>gg x) x::caps) (.b (p x))):A4 Tryz.prog 102 [.sl 2 (l.map R0),.fn f caps] (.i (K6 p l 0)):=by
 refine D0 Tryz.func102 19 fun ki E h0=>?_
 have kf:l.length≤9223372036854775807:=by have:=(ki (.sl 2 (l.map R0)) (by simp)).sl;simpa using this
 repeat'((first|refine S2 ?_|(refine T6 ?_ ?_<;>intro h<;>try exact V1 h)|intro el ke kg|intro el ke|exact T4|refine T5 ?_ ?_|intro ex)<;>try conv=>whnf)
 refine D5 (ι:=Nat) (fun k=>⟨[(0,.sl 2 (l.map R0)),(1,.fn f caps),(7,.i l.length),(8,.i k)],0,[]⟩) (fun k=>k≤l.length∧K6 p l 0=K6 p (l.drop k) k) (fun k=>l.length-k) 0 ⟨Nat.zero_le _,rfl⟩ (B2 h0) (fun k hI=>?_)
 obtain⟨hk,hI⟩:=hI
 repeat'((first|refine A0 (hf _ (List.mem_of_getElem? ke)) ?_ |refine S2 ?_|(refine T6 ?_ ?_<;>intro h<;>try exact V1 h)|intro el ke kg|intro el ke|exact T4|refine T5 ?_ ?_|intro ex)<;>try conv=>whnf)
 all_goals first
  |exact⟨k+1,⟨by omega,by rw[hI,O6 ke,K6,if_neg (by simp[h])];rfl⟩,by omega,B2 h0⟩
  |exact A3 rfl (congrArg AV.i (by rw[hI,O6 ke,K6,if_pos (by simp[h])]))
  |exact A3 rfl (congrArg AV.i (by rw[hI,show k=l.length by omega,List.drop_length];rfl))
theorem gj(l:List (CL))(f:Nat)(caps:List AV)(p:(CL)→Bool)(hf:∀x∈l,A4 Tryz.prog f ((fun x=>gg x) x::caps) (.b (p x))):A4 Tryz.prog 57 [.sl 2 (l.map R0),.fn f caps] (.b (l.any p)):=by
 refine D0 Tryz.func57 9 fun ki E h0=>?_
 have mB:=gh l f caps p hf
 repeat'((first|refine A0 mB ?_ |refine S2 ?_|(refine T6 ?_ ?_<;>intro h<;>try exact V1 h)|intro el ke kg|intro el ke|exact T4|refine T5 ?_ ?_|intro ex)<;>try conv=>whnf)
 all_goals first
  |exact A3 rfl (congrArg AV.b (Ds p l 0 (by omega)))
theorem Qz(x c:H2):A4 Tryz.prog 104 [GW x,.iptr (M7 c)] (.b (decide (x.name=c.name))):=by
 refine D0 Tryz.func104 9 fun ki E h0=>?_
 repeat'((first|refine S2 ?_|(refine T6 ?_ ?_<;>intro h<;>try exact V1 h)|intro el ke kg|intro el ke|exact T4|refine T5 ?_ ?_|intro ex)<;>try conv=>whnf)
 all_goals exact A3 rfl rfl
theorem PM(x l:CL):A4 Tryz.prog 58 [gg x,.iptr (R0 l)] (.b (decide (x.1=l.1))):=by
 refine D0 Tryz.func58 9 fun ki E h0=>?_
 repeat'((first|refine S2 ?_|(refine T6 ?_ ?_<;>intro h<;>try exact V1 h)|intro el ke kg|intro el ke|exact T4|refine T5 ?_ ?_|intro ex)<;>try conv=>whnf)
 all_goals exact A3 rfl rfl
theorem TF(s:A5)(i:Nat)(c:H2)(hc:s.cols[i]?=some c):A4 Tryz.prog 59 [sA s,.i i] (.i (colE s i c)):=by
 have hi:=S8 hc
 have lu:=dm (s.cols.take i) 104 [.iptr (M7 c)] (fun x=>decide (x.name=c.name)) (fun x _=>Qz x c)
 rw[List.map_take]at lu
 have pb:=TE c
 generalize hu:Eu c=u at pb
 have nL:=Qy c
 generalize hm:meaE c=m at nL
 refine D0 Tryz.func59 51 fun ki E h0=>?_
 repeat'((first|(refine A2 (x:=c) (by simpa using hc) (by omega) ?_)|refine A0 (Cu _) ?_|refine A0 nL ?_|refine A0 pb ?_|refine s4 1 ?_|refine A0 lu ?_ |refine S2 ?_|(refine T6 ?_ ?_<;>intro h<;>try exact V1 h)|intro el ke kg|intro el ke|exact T4|refine T5 ?_ ?_|intro ex)<;>try conv=>whnf)
 all_goals
  refine A3 rfl (congrArg AV.i ?_)
  clear lu ki h0 hi hc E pb nL
 all_goals first
  |(first|(simp only[colE,kindE,Eh,hu,hm, *,if_true,if_false,Bool.true_eq_false,Bool.false_eq_true,or_true,or_false,true_or,false_or,and_true,true_and,and_false,false_and,not_true_eq_false,not_false_eq_true,ne_eq,reduceIte,Int.reduceEq,Int.reduceLT,Int.reduceLE,Int.reduceNeg,decide_true,decide_false,Bool.not_true,Bool.not_false,Bool.and_true,Bool.true_and,Bool.and_false,Bool.false_and,Bool.or_true,Bool.true_or,Bool.or_false,Bool.false_or,Option.some.injEq];done)|(simp only[colE,kindE,Eh,hu,hm, *,if_true,if_false,Bool.true_eq_false,Bool.false_eq_true,not_true_eq_false,not_false_eq_true,ne_eq,reduceIte,Int.reduceEq];first|rfl|(repeat' split)<;>first|rfl|omega|(exfalso;omega)|contradiction))
theorem Ch{s:A5}(h:Rd (sA s)):s.lists.length≤9223372036854775807∧s.cols.length≤9223372036854775807∧∀l∈s.lists,l.2.length≤9223372036854775807:=by
 refine⟨by have:=(h.agg (.sl 2 (s.lists.map R0)) (by simp)).sl;simpa using this,by have:=(h.agg (.sl 7 (s.cols.map M7)) (by simp)).sl;simpa using this,fun l hl=>?_⟩
 have:=((h.agg (.sl 2 (s.lists.map R0)) (by simp)).elem (R0 l) (List.mem_map.2 ⟨l,hl,rfl⟩) (.sl 2 (l.2.map cA)) (by simp)).sl
 simpa using this
theorem BJ(s:A5):A4 Tryz.prog 28 [sA s] (.i (C8 s)):=by
 refine D0 Tryz.func28 63 fun ki E h0=>?_
 obtain⟨mI,lk,pA⟩:=Ch (s:=s) (ki _ (by simp))
 clear ki
 repeat'((first|refine S2 ?_|(refine T6 ?_ ?_<;>intro h<;>try exact V1 h)|intro el ke kg|intro el ke|exact T4|refine T5 ?_ ?_|intro ex)<;>try conv=>whnf)
 all_goals first
  |exact A3 rfl (congrArg AV.i (by rw[C8,if_pos (by omega)]))
  |skip
 have hs:C8 s=if J1 (u4 s.lists) 0 s.lists=0 then (if s.cols.head?.map (·.kind)=some 1 then J1 (colE s) 0 s.cols else 7)else J1 (u4 s.lists) 0 s.lists:=by rw[C8,if_neg (by omega)]
 rw[hs]
 refine D5 (ι:=Nat) (fun k=>⟨[(1,.ref 0 0),(19,.sl 2 (s.lists.map R0)),(20,.i s.lists.length),(21,.i k)],1,[(0,some (.box (sL s)))]⟩) (fun k=>M6 (u4 s.lists) s.lists k) (fun k=>s.lists.length-k) 0 (M6.zero _ _) (B2 h0) (fun k hI=>?_)
 have hk:=hI.1
 have lu:=fun l:CL=>gj (s.lists.take k) 58 [.iptr (R0 l)] (fun x=>decide (x.1=l.1)) (fun x _=>PM x l)
 rw[List.map_take]at lu
 repeat'((first|refine A0 (Hi _ _ (pA _ (List.mem_of_getElem? ke))) ?_|refine s4 1 ?_|refine A0 (lu _) ?_ |refine S2 ?_|(refine T6 ?_ ?_<;>intro h<;>try exact V1 h)|intro el ke kg|intro el ke|exact T4|refine T5 ?_ ?_|intro ex)<;>try conv=>whnf)
 all_goals first
  |(refine A3 rfl (congrArg AV.i ?_)
    have he:u4 s.lists k el=chk el.1 el.2:=by rw[u4,if_neg (by assumption)]
    rw[←hI.hit ke (by rw[he];assumption),he,if_neg (by assumption)];done)
  |(refine A3 rfl (congrArg AV.i ?_)
    have he:u4 s.lists k el=10:=by rw[u4,if_pos (Classical.byContradiction (by assumption)),if_pos (by assumption)]
    rw[←hI.hit ke (by rw[he];decide),he];rfl)
  |exact⟨k+1,hI.step ke (by rw[u4,if_pos (Classical.byContradiction (by assumption)),if_neg (by rw[h];exact Bool.false_ne_true)]),by omega,B2 h0⟩
  |(have hd:=hI.done (by assumption)
    refine A3 rfl (congrArg AV.i ?_)
    rw[if_pos hd,if_neg]
    intro hx
    rw[List.head?_eq_getElem?]at hx
    first
     |(rw[show s.cols[0]?=none from List.getElem?_eq_none (by omega)]at hx;cases hx)
     |(have mH:s.cols[0]?=some el:=ke
       rw[mH]at hx
       have:=Option.some.inj hx
       exact absurd this (by assumption)))
  |skip
 have hd:=hI.done (by assumption)
 have hh:s.cols.head?.map (·.kind)=some 1:=by
  rw[List.head?_eq_getElem?]
  have mH:s.cols[0]?=some el:=ke
  rw[mH]
  exact congrArg some (Classical.byContradiction (by assumption))
 rw[if_pos hd,if_pos hh]
 refine D5 (ι:=Nat) (fun k=>⟨[(1,.ref 0 0),(52,.i s.cols.length),(53,.i k)],1,[(0,some (.box (sL s)))]⟩) (fun k=>M6 (colE s) s.cols k) (fun k=>s.cols.length-k) 0 (M6.zero _ _) (B2 h0) (fun k hI=>?_)
 have hk:=hI.1
 have lz:=fun (h:(k:Int)<s.cols.length)=>TF s k (s.cols[k]'(by omega)) (List.getElem?_eq_getElem (by omega))
 repeat'((first|refine A0 (lz (by assumption)) ?_ |refine S2 ?_|(refine T6 ?_ ?_<;>intro h<;>try exact V1 h)|intro el ke kg|intro el ke|exact T4|refine T5 ?_ ?_|intro ex)<;>try conv=>whnf)
 all_goals first
  |exact⟨k+1,hI.step (List.getElem?_eq_getElem (by omega)) (Classical.byContradiction (by assumption)),by omega,B2 h0⟩
  |exact A3 rfl (congrArg AV.i (hI.hit (List.getElem?_eq_getElem (by omega)) (by assumption)))
  |exact A3 rfl (congrArg AV.i (hI.done (by assumption)).symm)
theorem Q5{s:A5}(h:C8 s=0):s.lists.length≤6∧s.cols.length≤8∧(∀l∈s.lists,chk l.1 l.2=0)∧(∀(i:Nat) c,s.cols[i]?=some c→colE s i c=0)∧s.cols.head?.map (·.kind)=some 1:=by
 unfold C8 at h
 split at h
 ·cases h
 ·split at h
  ·rename_i h1 h2
   split at h
   ·rename_i h3
    refine⟨by omega,by omega,fun l hl=>?_,fun i c hc=>by have:=BI h i c hc;rwa[Nat.zero_add]at this,h3⟩
    obtain⟨i,hi,rfl⟩:=List.getElem_of_mem hl
    have:=BI h2 i _ (List.getElem?_eq_getElem hi)
    unfold u4 at this
    split at this
    ·assumption
    ·exact this
   ·cases h
  ·rename_i h2;exact absurd h h2
theorem Hj{s:A5}{i:Nat}{c:H2}(h:colE s i c=0):D8 c.name=true∧Eh s i c=false∧kindE s i c=0∧Eu c=true:=by
 unfold colE at h
 split at h
 ·cases h
 ·split at h
  ·cases h
  ·split at h
   ·split at h
    ·rename_i h1 h2 h3 h4;exact⟨by simpa using h1,by simpa using h2,h3,h4⟩
    ·cases h
   ·rename_i h3;exact absurd h h3
theorem Mj{s:A5}{i:Nat}{c:H2}(h:kindE s i c=0)(hk:c.kind=2):0≤c.lst∧c.lst<s.lists.length:=by
 unfold kindE at h
 rw[if_neg (by omega),if_pos hk]at h
 split at h
 ·cases h
 ·omega
theorem Oh{s:A5}{i:Nat}{c:H2}(h:kindE s i c=0)(hk:c.kind=3):meaE c=0:=by
 unfold kindE at h
 rw[if_neg (by omega),if_neg (by omega),if_pos hk]at h
 exact h
theorem TG{s:A5}{i:Nat}{c:H2}(h:kindE s i c=0):(c.kind=1∧i=0)∨c.kind=2∨c.kind=3:=by
 unfold kindE at h
 split at h
 ·split at h
  ·cases h
  ·left;omega
 ·split at h
  ·omega
  ·split at h
   ·omega
   ·cases h
theorem Vg{c:H2}(h:meaE c=0):-1000000≤c.low∧c.high≤1000000∧c.low≤c.high∧1≤c.widths.length∧c.widths.length≤4∧y5 c.widths=true:=by
 unfold meaE at h
 split at h
 ·cases h
 ·split at h
  ·cases h
  ·split at h
   ·rename_i h3;exact⟨by omega,by omega,by omega,by omega,by omega,h3⟩
   ·cases h
def E2(s:A5)(c:H2):CL:=s.lists.getD c.lst.toNat ([],[])
def Vh(s:A5)(c:H2)(v:Int):Bool :=
 if c.kind=1 then decide (1≤v∧v≤1048575)else if c.kind=2 then decide (0≤v∧v<(E2 s c).2.length) && z6 (E2 s c).2 v else decide (c.low≤v∧v≤c.high) || (c.opt && decide (v=(-1099511627776)))
theorem S5{α:Type}{l:List α}{k:Nat}{x d:α}(h:l[k]?=some x):l.getD k d=x:=by rw[List.getD_eq_getElem?_getD,h];rfl
theorem M8{s:A5}{c:H2}{l:CL}(h:s.lists[c.lst.toNat]?=some l):E2 s c=l:=S5 h
structure AA(s:A5):Prop where
 e:C8 s=0
theorem AA.lst{s:A5}(h:C8 s=0){c:H2}(hc:c∈s.cols)(hk:c.kind=2):0≤c.lst∧c.lst<s.lists.length:=by
 obtain⟨i,hi,rfl⟩:=List.getElem_of_mem hc
 exact Mj (Hj ((Q5 h).2.2.2.1 i _ (List.getElem?_eq_getElem hi))).2.2.1 hk
def F0(s:A5)(n:List UInt8):Int:=K6 (fun c:H2=>decide (c.name=n)) s.cols 0
theorem RA(c:H2)(n:List UInt8):A4 Tryz.prog 161 [GW c,.iptr [.str n]] (.b (decide (c.name=n))):=by
 refine D0 Tryz.func161 8 fun ki E h0=>?_
 repeat'((first|refine S2 ?_|(refine T6 ?_ ?_<;>intro h<;>try exact V1 h)|intro el ke kg|intro el ke|exact T4|refine T5 ?_ ?_|intro ex)<;>try conv=>whnf)
 all_goals exact A3 rfl rfl
theorem Ev(s:A5)(n:List UInt8):A4 Tryz.prog 125 [sA s,.str n] (.i (F0 s n)):=by
 have mB:=UC s.cols 161 [.iptr [.str n]] (fun c=>decide (c.name=n)) (fun x _=>RA x n)
 refine D0 Tryz.func125 9 fun ki E h0=>?_
 repeat'((first|refine s4 1 ?_|refine A0 mB ?_ |refine S2 ?_|(refine T6 ?_ ?_<;>intro h<;>try exact V1 h)|intro el ke kg|intro el ke|exact T4|refine T5 ?_ ?_|intro ex)<;>try conv=>whnf)
 all_goals exact A3 rfl rfl
def C7(s:A5)(column:Int):H2:=s.cols.getD column.toNat ⟨[],0,0,0,0,[],false⟩
theorem D4{s:A5}{column:Int}{c:H2}(h:s.cols[column.toNat]?=some c):C7 s column=c:=S5 h
def CH(s:A5)(c:H2):Int:=if c.kind=2 then H3 (E2 s c).1 (E2 s c).2-1 else c.widths.length
def U6(s:A5)(column:Int):Int:=if column<1∨(s.cols.length:Int)≤column then -1 else CH s (C7 s column)
def J2(s:A5)(column:Int):Int:=if C8 s=0 then U6 s column else -1
theorem Hk{nm:List UInt8}{cs:List Code}(h:cs.length≤9223372036854775807):-1≤H3 nm cs∧H3 nm cs≤61:=by
 unfold H3
 split
 ·rename_i h1
  have h2:=AK h1
  have h3:=LI (cs:=cs) h2.1.before
  omega
 ·omega
theorem TH(s:A5)(column:Int)(hr:C8 s=0):A4 Tryz.prog 152 [sA s,.i column] (.i (U6 s column)):=by
 refine D0 Tryz.func152 34 fun ki E h0=>?_
 obtain⟨mI,lk,pA⟩:=Ch (s:=s) (ki _ (by simp))
 have uj:=fun (l:CL) (hl:s.lists[(C7 s column).lst.toNat]?=some l)=>Hk (nm:=l.1) (pA l (List.mem_of_getElem? hl))
 clear ki
 repeat'((first|(refine A0 (TC _ _ (pA _ (List.mem_of_getElem? (by assumption)))) ?_)|(refine Do ?_ ?_ (fun lx lr=>?_);(have:=AA.lst hr (List.mem_of_getElem? ke) (by assumption);omega);(have:=AA.lst hr (List.mem_of_getElem? ke) (by assumption);omega))|(refine E0 ?_ ?_;(have:=uj lx (by rw[D4 ke];exact lr);omega)) |refine S2 ?_|(refine T6 ?_ ?_<;>intro h<;>try exact V1 h)|intro el ke kg|intro el ke|exact T4|refine T5 ?_ ?_|intro ex)<;>try conv=>whnf)
 all_goals first
  |(refine A3 rfl (congrArg AV.i ?_);rw[U6,if_pos (by omega)];done)
  |(refine A3 rfl (congrArg AV.i ?_);rw[U6,if_neg (by omega),D4 ke,CH,if_pos (by assumption),M8 lr];done)
  |(refine A3 rfl (congrArg AV.i ?_);rw[U6,if_neg (by omega),D4 ke,CH,if_neg (by assumption)];done)
def G3(c:H2)(km:Int):Int:=c.widths.getD ((c.widths.length:Int)-km).toNat 0
def G7(n w:Int):Int:=n-n % w
theorem Oi{s:A5}(h:C8 s=0){column:Int}{c:H2}(h1:1≤column)(hc:s.cols[column.toNat]?=some c):
  (c.kind=2∧0≤c.lst∧c.lst<s.lists.length)∨(c.kind=3∧-1000000≤c.low∧c.high≤1000000∧c.low≤c.high∧1≤c.widths.length∧c.widths.length≤4∧y5 c.widths=true):=by
 have hk:=(Hj ((Q5 h).2.2.2.1 _ c hc)).2.2.1
 rcases TG hk with h2|h2|h2
 ·omega
 ·exact .inl ⟨h2,Mj hk h2⟩
 ·exact .inr ⟨h2,Vg (Oh hk h2)⟩
theorem Ci(n:Int){w:Int}(hw:1≤w):n-w<G7 n w∧G7 n w≤n:=by
 unfold G7
 have h1:=Int.emod_nonneg n (b:=w) (by omega)
 have h2:=Int.emod_lt_of_pos n (b:=w) (by omega)
 omega
theorem Vi{a b w:Int}(hw:1≤w)(h:a≤b):G7 a w≤G7 b w:=by
 unfold G7
 have e1:a-a % w=w*(a / w):=by have:=Int.mul_ediv_add_emod a w;omega
 have e2:b-b % w=w*(b / w):=by have:=Int.mul_ediv_add_emod b w;omega
 rw[e1,e2]
 exact Int.mul_le_mul_of_nonneg_left (Int.ediv_le_ediv (by omega) h) (by omega)
def CI(s:A5)(c:H2)(km:Int):Int :=
 if c.kind=2 then (Y0 (E2 s c).1 (E2 s c).2 km).length else if km=0 then 1 else (G7 c.high (G3 c km)-G7 c.low (G3 c km)) / G3 c km+1+(if c.opt=true then 1 else 0)
def Xi(s:A5)(c:H2):Nat→Nat
 |0=>0
 |k+1=>if CI s c k=CI s c (k+1:Nat)then Xi s c k else k+1
def RB(s:A5)(column km:Int):Int:=if km<0∨J2 s column<km then -1 else Xi s (C7 s column) km.toNat
theorem dn{s:A5}(h:C8 s=0)(column:Int):U6 s column≤61:=by
 unfold U6
 split
 ·omega
 ·have hc:s.cols[column.toNat]?=some s.cols[column.toNat]:=List.getElem?_eq_getElem (by omega)
  have nw:=Oi h (by omega) hc
  rw[D4 hc]
  generalize s.cols[column.toNat]=c at nw
  unfold CH
  rcases nw with nw|nw
  ·rw[if_pos nw.1]
   have hl:s.lists[c.lst.toNat]?=some (s.lists[c.lst.toNat]'(by omega)):=List.getElem?_eq_getElem (by omega)
   have hk:=(Q5 h).2.2.1 _ (List.mem_of_getElem? hl)
   rw[M8 hl]
   have h1:=(AK hk).2.2
   have:=Hk (nm:=(s.lists[c.lst.toNat]'(by omega)).1) (cs:=(s.lists[c.lst.toNat]'(by omega)).2) (by omega)
   omega
  ·rw[if_neg (by omega)];omega
def q8(s:A5)(c:H2)(km v:Int):Int:=if c.kind=2 then (if Vh s c v=true then CQ (E2 s c).1 (E2 s c).2 v km else -1)else if v≠(-1099511627776)∧(v < -1000000∨1000000<v)then -1 else if km=0 then 0 else if v=(-1099511627776)then (-1099511627776)else G7 v (G3 c km)
def Na(s:A5)(column km v:Int):Int:=if km<0∨J2 s column<km then -1 else q8 s (C7 s column) km v
def Hl(c:H2)(km v:Int):Int×Int×Bool :=
 if km=0 then (c.low,c.high,decide (v=0))else if v < -2000000∨1000000<v then (0,0,false)else (max v c.low,min (v+G3 c km-1) c.high,decide (G7 v (G3 c km)=v) && decide (max v c.low≤min (v+G3 c km-1) c.high))
def Hm(c:H2)(fr v to:Int):Int×Bool :=
 if 0<fr∧v=(-1099511627776)then (if to=0 then (0,c.opt)else (v,c.opt))else
  if (Hl c fr v).2.2=false then (0,false)else if to=0 then (0,true)else if fr=0∧c.opt=true then (0,false)else
   (G7 (Hl c fr v).1 (G3 c to),decide (G7 (Hl c fr v).1 (G3 c to)=G7 (Hl c fr v).2.1 (G3 c to)))
def Jx(nm:List UInt8)(cs:List Code)(fr v to:Int):List Nat→Int→Bool→Int×Bool
 |[],out,sm=>(out,sm)
 |leaf::r,out,sm=>if CQ nm cs leaf fr=v then (if sm=true∧CQ nm cs leaf to≠out then (0,false)else Jx nm cs fr v to r (CQ nm cs leaf to) true)else Jx nm cs fr v to r out sm
def Hn(nm:List UInt8)(cs:List Code)(fr v to:Int):Int×Bool:=Jx nm cs fr v to (Y0 nm cs (H3 nm cs-1)) 0 false
theorem Vj(nm:List UInt8)(cs:List Code)(km:Int):(Y0 nm cs km).length≤cs.length:=by
 unfold Y0
 split
 ·exact gb _ _ _
 ·simp
def UD(s:A5)(column fr v to:Int):Int×Bool :=
 if fr<0∨U6 s column<fr∨to<0∨U6 s column<to then (0,false)else
  if (if (C7 s column).kind=2 then Hn (E2 s (C7 s column)).1 (E2 s (C7 s column)).2 fr v to else Hm (C7 s column) fr v to).2=true then ((if (C7 s column).kind=2 then Hn (E2 s (C7 s column)).1 (E2 s (C7 s column)).2 fr v to else Hm (C7 s column) fr v to).1,true)else (0,false)
def cY(s:A5)(column fr v to:Int):Int×Bool:=if C8 s=0 then UD s column fr v to else (0,false)
structure Pk where
 col:Int
 lev:Int
deriving DecidableEq
abbrev N7(p:Pk):List AV:=[.i p.col,.i p.lev]
abbrev RC(p:Pk):AV:=.agg (N7 p)
def Gv(s:A5)(p:Pk):Int:=if U6 s p.col<0 then 7 else if p.lev<0∨U6 s p.col<p.lev then 8 else 0
theorem Xj(s:A5)(p:Pk)(hr:C8 s=0):A4 Tryz.prog 108 [sA s,RC p] (.i (Gv s p)):=by
 have pS:=TH s p.col hr
 refine D0 Tryz.func108 23 fun ki E h0=>?_
 clear ki
 repeat'((first|refine A0 pS ?_ |refine S2 ?_|(refine T6 ?_ ?_<;>intro h<;>try exact V1 h)|intro el ke kg|intro el ke|exact T4|refine T5 ?_ ?_|intro ex)<;>try conv=>whnf)
 all_goals first
  |(refine A3 rfl (congrArg AV.i ?_);rw[Gv,if_pos (by assumption)];done)
  |(refine A3 rfl (congrArg AV.i ?_);rw[Gv,if_neg (by assumption),if_pos (by omega)];done)
  |(refine A3 rfl (congrArg AV.i ?_);rw[Gv,if_neg (by assumption),if_neg (by omega)];done)
def c8(s:A5)(p:Pk):Int:=if C8 s=0 then Gv s p else C8 s
theorem Vk(s:A5)(p:Pk):A4 Tryz.prog 63 [sA s,RC p] (.i (c8 s p)):=by
 have xq:=fun hr=>Xj s p hr
 refine D0 Tryz.func63 14 fun ki E h0=>?_
 clear ki
 repeat'((first|refine A0 (BJ s) ?_|refine A0 (xq (Classical.byContradiction (by assumption))) ?_ |refine S2 ?_|(refine T6 ?_ ?_<;>intro h<;>try exact V1 h)|intro el ke kg|intro el ke|exact T4|refine T5 ?_ ?_|intro ex)<;>try conv=>whnf)
 all_goals first
  |(refine A3 rfl (congrArg AV.i ?_);rw[c8,if_neg (by assumption)];done)
  |(refine A3 rfl (congrArg AV.i ?_);rw[c8,if_pos (Classical.byContradiction (by assumption))];done)
end Go.Proofs.YtkcekccdcpmekaaGreatDoor
