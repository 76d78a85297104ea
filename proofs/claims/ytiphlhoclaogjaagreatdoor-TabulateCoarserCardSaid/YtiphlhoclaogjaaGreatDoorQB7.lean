/- Chapter 2: schemas, and which are right. Chapter 2: which values fit, levels, coarse values. Chapter 2: rows, columns with a name, levels. Chapter 2: blocks, the least level, coarse values, values turned to another level. -/
import Derived.Test.YtiphlhoclaogjaaGreatDoorQB4
import Derived.Test.YtiphlhoclaogjaaGreatDoorQB5
set_option linter.unusedVariables false
set_option linter.unnecessarySimpa false
set_option linter.unusedSimpArgs false
set_option maxHeartbeats 64000000
namespace Go.Proofs.YtiphlhoclaogjaaGreatDoor
open Go Go.Av
attribute [local irreducible] C7 B1 D1 C8 DQ D0 C6 St.le A3 B8
set_option maxRecDepth 100000
structure D6 where
 name:List UInt8
 kind:Int
 lst:Int
 low:Int
 high:Int
 widths:List Int
 opt:Bool
deriving DecidableEq
abbrev CL:=List UInt8×List Code
structure A4 where
 lists:List CL
 cols:List D6
abbrev wA(w:Int):List AV:=[.i w]
abbrev Z6(c:D6):List AV:=[.str c.name,.i c.kind,.i c.lst,.i c.low,.i c.high,.sl 1 (c.widths.map wA),.b c.opt]
abbrev x4(l:CL):List AV:=[.str l.1,.sl 2 (l.2.map cA)]
abbrev sL(s:A4):List AV:=[.sl 2 (s.lists.map x4),.sl 7 (s.cols.map Z6)]
abbrev sA(s:A4):AV:=.agg (sL s)
abbrev T7(c:D6):AV:=.agg (Z6 c)
abbrev kp(l:CL):AV:=.agg (x4 l)
def Dm:Int→List Int→Bool
 |_,[]=>true
 |last,w::r=>decide (last<w) && decide (w.tmod last=0) && decide (w≤1000000) && Dm w r
def Q5:List Int→Bool
 |[]=>true
 |w::r=>decide (w=1) && Dm 1 r
def meaE(c:D6):Int:=if c.low < -1000000∨1000000<c.high∨c.high<c.low then 2 else if c.widths.length=0∨4<c.widths.length then 1 else if Q5 c.widths=true then 0 else 2
def EW(c:D6):Bool:=decide (¬(c.kind≠2∧c.lst≠0)∧(c.kind=3∨c.low=0∧c.high=0∧c.widths.length=0∧c.opt=false))
def kindE(s:A4)(i:Nat)(c:D6):Int :=
 if c.kind=1 then (if (0:Int)<(i:Int)then 4 else 0)else if c.kind=2 then (if c.lst<0∨(s.lists.length:Int)≤c.lst then 5 else 0)else if c.kind=3 then meaE c else 4
def GH(s:A4)(i:Nat)(c:D6):Bool:=(s.cols.take i).any fun x=>decide (x.name=c.name)
def colE(s:A4)(i:Nat)(c:D6):Int :=
 if D5 c.name=false then 3 else if GH s i c=true then 10 else if kindE s i c=0 then (if EW c=true then 0 else 11)else kindE s i c
def e8(ls:List CL)(i:Nat)(l:CL):Int:=if chk l.1 l.2=0 then (if ((ls.take i).any fun x=>decide (x.1=l.1))=true then 10 else 0)else chk l.1 l.2
def C5(s:A4):Int :=
 if 6<s.lists.length∨8<s.cols.length then 1 else if E4 (e8 s.lists) 0 s.lists=0 then
  (if s.cols.head?.map (·.kind)=some 1 then E4 (colE s) 0 s.cols else 7)else E4 (e8 s.lists) 0 s.lists
def DF(ws:List Int)(k:Nat)(last:Int):Prop:=k≤ws.length∧((k=0∧last=1)∨(0<k∧1≤last∧Q5 ws=Dm last (ws.drop k)))
theorem DF.pos{ws:List Int}{k:Nat}{last:Int}(h:DF ws k last):1≤last:=by rcases h.2 with h|h<;>omega
theorem DF.first{ws:List Int}{k:Nat}{last w:Int}(h:DF ws k last)(hw:ws[k]?=some w)(hk:k=0)(h1:w=1):DF ws (k+1) w:=by
 subst hk h1
 refine⟨D4 hw,.inr ⟨by omega,by omega,?_⟩⟩
 have:ws=1::ws.drop 1:=by have:=H1 hw;simpa using this
 rw[this];simp[Q5]
theorem DF.next{ws:List Int}{k:Nat}{last w:Int}(h:DF ws k last)(hw:ws[k]?=some w)(hk:0<k)(h1:last<w)(h2:w.tmod last=0)(h3:w≤1000000):DF ws (k+1) w:=by
 rcases h.2 with h|h
 ·omega
 ·refine⟨D4 hw,.inr ⟨by omega,by omega,?_⟩⟩
  rw[h.2.2,H1 hw];simp[Dm,h1,h2,h3]
theorem DF.bad0{ws:List Int}{k:Nat}{last w:Int}(h:DF ws k last)(hw:ws[k]?=some w)(hk:k=0)(h1:¬w=1):Q5 ws=false:=by
 subst hk
 have:ws=w::ws.drop 1:=by have:=H1 hw;simpa using this
 rw[this];simp[Q5,h1]
theorem DF.bad{ws:List Int}{k:Nat}{last w:Int}(h:DF ws k last)(hw:ws[k]?=some w)(hk:0<k)(h1:¬(last<w∧w.tmod last=0∧w≤1000000)):Q5 ws=false:=by
 rcases h.2 with h|h
 ·omega
 ·rw[h.2.2,H1 hw]
  simp only[Dm,Bool.and_eq_false_iff,decide_eq_false_iff_not]
  omega
theorem DF.done{ws:List Int}{k:Nat}{last:Int}(h:DF ws k last)(hk:¬(k:Int)<ws.length)(hn:ws.length≠0):Q5 ws=true:=by
 rcases h.2 with h2|h2
 ·omega
 ·rw[h2.2.2,Z0 hk];rfl
theorem Sy(c:D6):A3 Tryz.prog 196 [T7 c] (.i (meaE c)):=by
 refine C1 Tryz.func196 68 fun nd E h0=>?_
 have nZ:c.widths.length≤9223372036854775807:=by
  have:=((nd (T7 c) (by simp)).agg (.sl 1 (c.widths.map wA)) (by simp)).sl
  simpa using this
 repeat'((first|refine S2 ?_|(refine T6 ?_ ?_<;>intro h<;>try exact V1 h)|intro el nX nY|intro el nX|exact T4|refine T5 ?_ ?_|intro ex)<;>try conv=>whnf)
 all_goals first
  |exact A0 rfl (congrArg AV.i (by rw[meaE,if_pos (by omega)]))
  |exact A0 rfl (congrArg AV.i (by rw[meaE,if_neg (by omega),if_pos (by omega)]))
  |skip
 have hm:meaE c=if Q5 c.widths=true then 0 else 2:=by rw[meaE,if_neg (by omega),if_neg (by omega)]
 have hne:c.widths.length≠0:=by omega
 rw[hm]
 refine B2 (ι:=Nat×Int) (fun x=>⟨[(3,.i x.2),(34,.sl 1 (c.widths.map wA)),(35,.i c.widths.length),(36,.i x.1)],0,[]⟩) (fun x=>DF c.widths x.1 x.2) (fun x=>c.widths.length-x.1) (0,1) ⟨Nat.zero_le _,.inl ⟨rfl,rfl⟩⟩ (A6 h0) (fun x hI=>?_)
 obtain⟨k,last⟩:=x
 have hp:=hI.pos
 have hk:=hI.1
 dsimp only at hI hp hk ⊢
 repeat'((first|refine S2 ?_|(refine T6 ?_ ?_<;>intro h<;>try exact V1 h)|intro el nX nY|intro el nX|exact T4|refine T5 ?_ ?_|intro ex)<;>try conv=>whnf)
 all_goals first
  |exact A0 rfl (congrArg AV.i (by rw[hI.bad0 nX (by omega) (by omega)];rfl))
  |exact A0 rfl (congrArg AV.i (by rw[hI.bad nX (by omega) (fun hx=>by first|exact absurd hx.2.1 (by assumption)|omega)];rfl))
  |exact A0 rfl (congrArg AV.i (by rw[hI.done (by assumption) hne];rfl))
  |exact⟨(k+1,el),hI.first nX (by omega) (by omega),by simp only;omega,A6 h0⟩
  |exact⟨(k+1,el),hI.next nX (by omega) (by omega) (Classical.byContradiction (by assumption)) (by omega),by simp only;omega,A6 h0⟩
theorem VQ(c:D6):A3 Tryz.prog 197 [T7 c] (.b (EW c)):=by
 refine C1 Tryz.func197 35 fun nd E h0=>?_
 repeat'((first|refine S2 ?_|(refine T6 ?_ ?_<;>intro h<;>try exact V1 h)|intro el nX nY|intro el nX|exact T4|refine T5 ?_ ?_|intro ex)<;>try conv=>whnf)
 all_goals first
  |exact A0 rfl (congrArg AV.b (by simp_all [EW]))
theorem iJ(l:List (D6))(f:Nat)(caps:List AV)(p:(D6)→Bool)(hf:∀x∈l,A3 Tryz.prog f ((fun x=>T7 x) x::caps) (.b (p x))):A3 Tryz.prog 226 [.sl 7 (l.map Z6),.fn f caps] (.i (F3 p l 0)):=by
 refine C1 Tryz.func226 19 fun nd E h0=>?_
 have nZ:l.length≤9223372036854775807:=by have:=(nd (.sl 7 (l.map Z6)) (by simp)).sl;simpa using this
 repeat'((first|refine S2 ?_|(refine T6 ?_ ?_<;>intro h<;>try exact V1 h)|intro el nX nY|intro el nX|exact T4|refine T5 ?_ ?_|intro ex)<;>try conv=>whnf)
 refine B2 (ι:=Nat) (fun k=>⟨[(0,.sl 7 (l.map Z6)),(1,.fn f caps),(7,.i l.length),(8,.i k)],0,[]⟩) (fun k=>k≤l.length∧F3 p l 0=F3 p (l.drop k) k) (fun k=>l.length-k) 0 ⟨Nat.zero_le _,rfl⟩ (A6 h0) (fun k hI=>?_)
 obtain⟨hk,hI⟩:=hI
 repeat'((first|refine A1 (hf _ (List.mem_of_getElem? nX)) ?_ |refine S2 ?_|(refine T6 ?_ ?_<;>intro h<;>try exact V1 h)|intro el nX nY|intro el nX|exact T4|refine T5 ?_ ?_|intro ex)<;>try conv=>whnf)
 all_goals first
  |exact⟨k+1,⟨by omega,by rw[hI,H1 nX,F3,if_neg (by simp[h])];rfl⟩,by omega,A6 h0⟩
  |exact A0 rfl (congrArg AV.i (by rw[hI,H1 nX,F3,if_pos (by simp[h])]))
  |exact A0 rfl (congrArg AV.i (by rw[hI,show k=l.length by omega,List.drop_length];rfl))
theorem iK(l:List (D6))(f:Nat)(caps:List AV)(p:(D6)→Bool)(hf:∀x∈l,A3 Tryz.prog f ((fun x=>T7 x) x::caps) (.b (p x))):A3 Tryz.prog 194 [.sl 7 (l.map Z6),.fn f caps] (.b (l.any p)):=by
 refine C1 Tryz.func194 9 fun nd E h0=>?_
 have ol:=iJ l f caps p hf
 repeat'((first|refine A1 ol ?_ |refine S2 ?_|(refine T6 ?_ ?_<;>intro h<;>try exact V1 h)|intro el nX nY|intro el nX|exact T4|refine T5 ?_ ?_|intro ex)<;>try conv=>whnf)
 all_goals first
  |exact A0 rfl (congrArg AV.b (Bc p l 0 (by omega)))
theorem kq(l:List (CL))(f:Nat)(caps:List AV)(p:(CL)→Bool)(hf:∀x∈l,A3 Tryz.prog f ((fun x=>kp x) x::caps) (.b (p x))):A3 Tryz.prog 193 [.sl 2 (l.map x4),.fn f caps] (.i (F3 p l 0)):=by
 refine C1 Tryz.func193 19 fun nd E h0=>?_
 have nZ:l.length≤9223372036854775807:=by have:=(nd (.sl 2 (l.map x4)) (by simp)).sl;simpa using this
 repeat'((first|refine S2 ?_|(refine T6 ?_ ?_<;>intro h<;>try exact V1 h)|intro el nX nY|intro el nX|exact T4|refine T5 ?_ ?_|intro ex)<;>try conv=>whnf)
 refine B2 (ι:=Nat) (fun k=>⟨[(0,.sl 2 (l.map x4)),(1,.fn f caps),(7,.i l.length),(8,.i k)],0,[]⟩) (fun k=>k≤l.length∧F3 p l 0=F3 p (l.drop k) k) (fun k=>l.length-k) 0 ⟨Nat.zero_le _,rfl⟩ (A6 h0) (fun k hI=>?_)
 obtain⟨hk,hI⟩:=hI
 repeat'((first|refine A1 (hf _ (List.mem_of_getElem? nX)) ?_ |refine S2 ?_|(refine T6 ?_ ?_<;>intro h<;>try exact V1 h)|intro el nX nY|intro el nX|exact T4|refine T5 ?_ ?_|intro ex)<;>try conv=>whnf)
 all_goals first
  |exact⟨k+1,⟨by omega,by rw[hI,H1 nX,F3,if_neg (by simp[h])];rfl⟩,by omega,A6 h0⟩
  |exact A0 rfl (congrArg AV.i (by rw[hI,H1 nX,F3,if_pos (by simp[h])]))
  |exact A0 rfl (congrArg AV.i (by rw[hI,show k=l.length by omega,List.drop_length];rfl))
theorem kr(l:List (CL))(f:Nat)(caps:List AV)(p:(CL)→Bool)(hf:∀x∈l,A3 Tryz.prog f ((fun x=>kp x) x::caps) (.b (p x))):A3 Tryz.prog 154 [.sl 2 (l.map x4),.fn f caps] (.b (l.any p)):=by
 refine C1 Tryz.func154 9 fun nd E h0=>?_
 have ol:=kq l f caps p hf
 repeat'((first|refine A1 ol ?_ |refine S2 ?_|(refine T6 ?_ ?_<;>intro h<;>try exact V1 h)|intro el nX nY|intro el nX|exact T4|refine T5 ?_ ?_|intro ex)<;>try conv=>whnf)
 all_goals first
  |exact A0 rfl (congrArg AV.b (Bc p l 0 (by omega)))
theorem Sz(x c:D6):A3 Tryz.prog 195 [T7 x,.iptr (Z6 c)] (.b (decide (x.name=c.name))):=by
 refine C1 Tryz.func195 9 fun nd E h0=>?_
 repeat'((first|refine S2 ?_|(refine T6 ?_ ?_<;>intro h<;>try exact V1 h)|intro el nX nY|intro el nX|exact T4|refine T5 ?_ ?_|intro ex)<;>try conv=>whnf)
 all_goals exact A0 rfl rfl
theorem RC(x l:CL):A3 Tryz.prog 155 [kp x,.iptr (x4 l)] (.b (decide (x.1=l.1))):=by
 refine C1 Tryz.func155 9 fun nd E h0=>?_
 repeat'((first|refine S2 ?_|(refine T6 ?_ ?_<;>intro h<;>try exact V1 h)|intro el nX nY|intro el nX|exact T4|refine T5 ?_ ?_|intro ex)<;>try conv=>whnf)
 all_goals exact A0 rfl rfl
theorem VR(s:A4)(i:Nat)(c:D6)(hc:s.cols[i]?=some c):A3 Tryz.prog 156 [sA s,.i i] (.i (colE s i c)):=by
 have hi:=D4 hc
 have oV:=iK (s.cols.take i) 195 [.iptr (Z6 c)] (fun x=>decide (x.name=c.name)) (fun x _=>Sz x c)
 rw[List.map_take]at oV
 have tL:=VQ c
 generalize hu:EW c=u at tL
 have qQ:=Sy c
 generalize hm:meaE c=m at qQ
 refine C1 Tryz.func156 51 fun nd E h0=>?_
 repeat'((first|(refine A2 (x:=c) (by simpa using hc) (by omega) ?_)|refine A1 (Bw _) ?_|refine A1 qQ ?_|refine A1 tL ?_|refine J9 1 ?_|refine A1 oV ?_ |refine S2 ?_|(refine T6 ?_ ?_<;>intro h<;>try exact V1 h)|intro el nX nY|intro el nX|exact T4|refine T5 ?_ ?_|intro ex)<;>try conv=>whnf)
 all_goals
  refine A0 rfl (congrArg AV.i ?_)
  clear oV nd h0 hi hc E tL qQ
 all_goals first
  |(first|(simp only[colE,kindE,GH,hu,hm, *,if_true,if_false,Bool.true_eq_false,Bool.false_eq_true,or_true,or_false,true_or,false_or,and_true,true_and,and_false,false_and,not_true_eq_false,not_false_eq_true,ne_eq,reduceIte,Int.reduceEq,Int.reduceLT,Int.reduceLE,Int.reduceNeg,decide_true,decide_false,Bool.not_true,Bool.not_false,Bool.and_true,Bool.true_and,Bool.and_false,Bool.false_and,Bool.or_true,Bool.true_or,Bool.or_false,Bool.false_or,Option.some.injEq];done)|(simp only[colE,kindE,GH,hu,hm, *,if_true,if_false,Bool.true_eq_false,Bool.false_eq_true,not_true_eq_false,not_false_eq_true,ne_eq,reduceIte,Int.reduceEq];first|rfl|(repeat' split)<;>first|rfl|omega|(exfalso;omega)|contradiction))
theorem Z7{s:A4}(h:Rd (sA s)):s.lists.length≤9223372036854775807∧s.cols.length≤9223372036854775807∧∀l∈s.lists,l.2.length≤9223372036854775807:=by
 refine⟨by have:=(h.agg (.sl 2 (s.lists.map x4)) (by simp)).sl;simpa using this,by have:=(h.agg (.sl 7 (s.cols.map Z6)) (by simp)).sl;simpa using this,fun l hl=>?_⟩
 have:=((h.agg (.sl 2 (s.lists.map x4)) (by simp)).elem (x4 l) (List.mem_map.2 ⟨l,hl,rfl⟩) (.sl 2 (l.2.map cA)) (by simp)).sl
 simpa using this
theorem c8(s:A4):A3 Tryz.prog 98 [sA s] (.i (C5 s)):=by
 refine C1 Tryz.func98 63 fun nd E h0=>?_
 obtain⟨pH,oM,pT⟩:=Z7 (s:=s) (nd _ (by simp))
 clear nd
 repeat'((first|refine S2 ?_|(refine T6 ?_ ?_<;>intro h<;>try exact V1 h)|intro el nX nY|intro el nX|exact T4|refine T5 ?_ ?_|intro ex)<;>try conv=>whnf)
 all_goals first
  |exact A0 rfl (congrArg AV.i (by rw[C5,if_pos (by omega)]))
  |skip
 have hs:C5 s=if E4 (e8 s.lists) 0 s.lists=0 then (if s.cols.head?.map (·.kind)=some 1 then E4 (colE s) 0 s.cols else 7)else E4 (e8 s.lists) 0 s.lists:=by rw[C5,if_neg (by omega)]
 rw[hs]
 refine B2 (ι:=Nat) (fun k=>⟨[(1,.ref 0 0),(19,.sl 2 (s.lists.map x4)),(20,.i s.lists.length),(21,.i k)],1,[(0,some (.box (sL s)))]⟩) (fun k=>E8 (e8 s.lists) s.lists k) (fun k=>s.lists.length-k) 0 (E8.zero _ _) (A6 h0) (fun k hI=>?_)
 have hk:=hI.1
 have oV:=fun l:CL=>kr (s.lists.take k) 155 [.iptr (x4 l)] (fun x=>decide (x.1=l.1)) (fun x _=>RC x l)
 rw[List.map_take]at oV
 repeat'((first|refine A1 (EV _ _ (pT _ (List.mem_of_getElem? nX))) ?_|refine J9 1 ?_|refine A1 (oV _) ?_ |refine S2 ?_|(refine T6 ?_ ?_<;>intro h<;>try exact V1 h)|intro el nX nY|intro el nX|exact T4|refine T5 ?_ ?_|intro ex)<;>try conv=>whnf)
 all_goals first
  |(refine A0 rfl (congrArg AV.i ?_)
    have he:e8 s.lists k el=chk el.1 el.2:=by rw[e8,if_neg (by assumption)]
    rw[←hI.hit nX (by rw[he];assumption),he,if_neg (by assumption)];done)
  |(refine A0 rfl (congrArg AV.i ?_)
    have he:e8 s.lists k el=10:=by rw[e8,if_pos (Classical.byContradiction (by assumption)),if_pos (by assumption)]
    rw[←hI.hit nX (by rw[he];decide),he];rfl)
  |exact⟨k+1,hI.step nX (by rw[e8,if_pos (Classical.byContradiction (by assumption)),if_neg (by rw[h];exact Bool.false_ne_true)]),by omega,A6 h0⟩
  |(have hd:=hI.done (by assumption)
    refine A0 rfl (congrArg AV.i ?_)
    rw[if_pos hd,if_neg]
    intro hx
    rw[List.head?_eq_getElem?]at hx
    first
     |(rw[show s.cols[0]?=none from List.getElem?_eq_none (by omega)]at hx;cases hx)
     |(have pV:s.cols[0]?=some el:=nX
       rw[pV]at hx
       have:=Option.some.inj hx
       exact absurd this (by assumption)))
  |skip
 have hd:=hI.done (by assumption)
 have hh:s.cols.head?.map (·.kind)=some 1:=by
  rw[List.head?_eq_getElem?]
  have pV:s.cols[0]?=some el:=nX
  rw[pV]
  exact congrArg some (Classical.byContradiction (by assumption))
 rw[if_pos hd,if_pos hh]
 refine B2 (ι:=Nat) (fun k=>⟨[(1,.ref 0 0),(52,.i s.cols.length),(53,.i k)],1,[(0,some (.box (sL s)))]⟩) (fun k=>E8 (colE s) s.cols k) (fun k=>s.cols.length-k) 0 (E8.zero _ _) (A6 h0) (fun k hI=>?_)
 have hk:=hI.1
 have tM:=fun (h:(k:Int)<s.cols.length)=>VR s k (s.cols[k]'(by omega)) (List.getElem?_eq_getElem (by omega))
 repeat'((first|refine A1 (tM (by assumption)) ?_ |refine S2 ?_|(refine T6 ?_ ?_<;>intro h<;>try exact V1 h)|intro el nX nY|intro el nX|exact T4|refine T5 ?_ ?_|intro ex)<;>try conv=>whnf)
 all_goals first
  |exact⟨k+1,hI.step (List.getElem?_eq_getElem (by omega)) (Classical.byContradiction (by assumption)),by omega,A6 h0⟩
  |exact A0 rfl (congrArg AV.i (hI.hit (List.getElem?_eq_getElem (by omega)) (by assumption)))
  |exact A0 rfl (congrArg AV.i (hI.done (by assumption)).symm)
theorem E9{s:A4}(h:C5 s=0):s.lists.length≤6∧s.cols.length≤8∧(∀l∈s.lists,chk l.1 l.2=0)∧(∀(i:Nat) c,s.cols[i]?=some c→colE s i c=0)∧s.cols.head?.map (·.kind)=some 1:=by
 unfold C5 at h
 split at h
 ·cases h
 ·split at h
  ·rename_i h1 h2
   split at h
   ·rename_i h3
    refine⟨by omega,by omega,fun l hl=>?_,fun i c hc=>by have:=O5 h i c hc;rwa[Nat.zero_add]at this,h3⟩
    obtain⟨i,hi,rfl⟩:=List.getElem_of_mem hl
    have:=O5 h2 i _ (List.getElem?_eq_getElem hi)
    unfold e8 at this
    split at this
    ·assumption
    ·exact this
   ·cases h
  ·rename_i h2;exact absurd h h2
theorem v4{s:A4}{i:Nat}{c:D6}(h:colE s i c=0):D5 c.name=true∧GH s i c=false∧kindE s i c=0∧EW c=true:=by
 unfold colE at h
 split at h
 ·cases h
 ·split at h
  ·cases h
  ·split at h
   ·split at h
    ·rename_i h1 h2 h3 h4;exact⟨by simpa using h1,by simpa using h2,h3,h4⟩
    ·cases h
   ·rename_i h3;exact absurd h h3
theorem NV{s:A4}{i:Nat}{c:D6}(h:kindE s i c=0)(hk:c.kind=2):0≤c.lst∧c.lst<s.lists.length:=by
 unfold kindE at h
 rw[if_neg (by omega),if_pos hk]at h
 split at h
 ·cases h
 ·omega
theorem CA{s:A4}{i:Nat}{c:D6}(h:kindE s i c=0)(hk:c.kind=3):meaE c=0:=by
 unfold kindE at h
 rw[if_neg (by omega),if_neg (by omega),if_pos hk]at h
 exact h
theorem LA{s:A4}{i:Nat}{c:D6}(h:kindE s i c=0):(c.kind=1∧i=0)∨c.kind=2∨c.kind=3:=by
 unfold kindE at h
 split at h
 ·split at h
  ·cases h
  ·left;omega
 ·split at h
  ·omega
  ·split at h
   ·omega
   ·cases h
theorem W5{c:D6}(h:meaE c=0):-1000000≤c.low∧c.high≤1000000∧c.low≤c.high∧1≤c.widths.length∧c.widths.length≤4∧Q5 c.widths=true:=by
 unfold meaE at h
 split at h
 ·cases h
 ·split at h
  ·cases h
  ·split at h
   ·rename_i h3;exact⟨by omega,by omega,by omega,by omega,by omega,h3⟩
   ·cases h
theorem TA:∀(ws:List Int) (last:Int),1≤last→last≤1000000→Dm last ws=true→∀w∈ws,1≤w∧w≤1000000
 |[],_,_,_,_,w,hw=>by cases hw
 |x::r,last,h1,h2,h,w,hw=>by
  simp only[Dm,Bool.and_eq_true,decide_eq_true_eq]at h
  rcases List.mem_cons.1 hw with rfl|hw
  ·omega
  ·exact TA r x (by omega) (by omega) h.2 w hw
theorem ar{ws:List Int}(h:Q5 ws=true):∀w∈ws,1≤w∧w≤1000000:=by
 cases ws with
 |nil=>intro w hw;cases hw
 |cons x r =>
  simp only[Q5,Bool.and_eq_true,decide_eq_true_eq]at h
  intro w hw
  rcases List.mem_cons.1 hw with rfl|hw
  ·omega
  ·exact TA r 1 (by omega) (by omega) h.2 w hw
def B9(s:A4)(c:D6):CL:=s.lists.getD c.lst.toNat ([],[])
def Ai(s:A4)(c:D6)(v:Int):Bool :=
 if c.kind=1 then decide (1≤v∧v≤1048575)else if c.kind=2 then decide (0≤v∧v<(B9 s c).2.length) && Y6 (B9 s c).2 v else decide (c.low≤v∧v≤c.high) || (c.opt && decide (v=(-1099511627776)))
theorem D2{α:Type}{l:List α}{k:Nat}{x d:α}(h:l[k]?=some x):l.getD k d=x:=by rw[List.getD_eq_getElem?_getD,h];rfl
theorem I3{s:A4}{c:D6}{l:CL}(h:s.lists[c.lst.toNat]?=some l):B9 s c=l:=D2 h
structure AP(s:A4):Prop where
 e:C5 s=0
theorem AP.lst{s:A4}(h:C5 s=0){c:D6}(hc:c∈s.cols)(hk:c.kind=2):0≤c.lst∧c.lst<s.lists.length:=by
 obtain⟨i,hi,rfl⟩:=List.getElem_of_mem hc
 exact NV (v4 ((E9 h).2.2.2.1 i _ (List.getElem?_eq_getElem hi))).2.2.1 hk
def KL(s:A4)(p:D6×Int):Bool:=!(Ai s p.1 p.2)
def KM(s:A4)(row:List Int):Bool:=decide (row.length=s.cols.length) && !((s.cols.zip row).any (KL s))
theorem WU{α β:Type}{l:List α}{m:List β}{k:Nat}{x:α}{y:β}(h:l[k]?=some x)(h2:m[k]?=some y):(l.zip m)[k]?=some (x,y):=by
 rw[List.getElem?_zip_eq_some];exact⟨h,h2⟩
def s8(s:A4)(row:List Int):Int:=if C5 s=0 then (if KM s row=true then 0 else 9)else C5 s
def B4(s:A4)(column:Int):D6:=s.cols.getD column.toNat ⟨[],0,0,0,0,[],false⟩
theorem C0{s:A4}{column:Int}{c:D6}(h:s.cols[column.toNat]?=some c):B4 s column=c:=D2 h
def N0(s:A4)(c:D6):Int:=if c.kind=2 then C4 (B9 s c).1 (B9 s c).2-1 else c.widths.length
def F2(s:A4)(column:Int):Int:=if column<1∨(s.cols.length:Int)≤column then -1 else N0 s (B4 s column)
def A8(s:A4)(column:Int):Int:=if C5 s=0 then F2 s column else -1
theorem m5{nm:List UInt8}{cs:List Code}(h:cs.length≤9223372036854775807):-1≤C4 nm cs∧C4 nm cs≤61:=by
 unfold C4
 split
 ·rename_i h1
  have h2:=I2 h1
  have h3:=Lo (cs:=cs) h2.1.before
  omega
 ·omega
theorem GI(s:A4)(column:Int)(hr:C5 s=0):A3 Tryz.prog 131 [sA s,.i column] (.i (F2 s column)):=by
 refine C1 Tryz.func131 34 fun nd E h0=>?_
 obtain⟨pH,oM,pT⟩:=Z7 (s:=s) (nd _ (by simp))
 have uO:=fun (l:CL) (hl:s.lists[(B4 s column).lst.toNat]?=some l)=>m5 (nm:=l.1) (pT l (List.mem_of_getElem? hl))
 clear nd
 repeat'((first|(refine A1 (Dd _ _ (pT _ (List.mem_of_getElem? (by assumption)))) ?_)|(refine m9 ?_ ?_ (fun lx ov=>?_);(have:=AP.lst hr (List.mem_of_getElem? nX) (by assumption);omega);(have:=AP.lst hr (List.mem_of_getElem? nX) (by assumption);omega))|(refine J0 ?_ ?_;(have:=uO lx (by rw[C0 nX];exact ov);omega)) |refine S2 ?_|(refine T6 ?_ ?_<;>intro h<;>try exact V1 h)|intro el nX nY|intro el nX|exact T4|refine T5 ?_ ?_|intro ex)<;>try conv=>whnf)
 all_goals first
  |(refine A0 rfl (congrArg AV.i ?_);rw[F2,if_pos (by omega)];done)
  |(refine A0 rfl (congrArg AV.i ?_);rw[F2,if_neg (by omega),C0 nX,N0,if_pos (by assumption),I3 ov];done)
  |(refine A0 rfl (congrArg AV.i ?_);rw[F2,if_neg (by omega),C0 nX,N0,if_neg (by assumption)];done)
theorem Cb(s:A4)(column:Int):A3 Tryz.prog 71 [sA s,.i column] (.i (A8 s column)):=by
 refine C1 Tryz.func71 11 fun nd E h0=>?_
 clear nd
 repeat'((first|refine A1 (c8 s) ?_|refine A1 (GI s column (by omega)) ?_ |refine S2 ?_|(refine T6 ?_ ?_<;>intro h<;>try exact V1 h)|intro el nX nY|intro el nX|exact T4|refine T5 ?_ ?_|intro ex)<;>try conv=>whnf)
 all_goals first
  |(refine A0 rfl (congrArg AV.i ?_);rw[A8,if_neg (by assumption)];done)
  |(refine A0 rfl (congrArg AV.i ?_);rw[A8,if_pos (by omega)];done)
def A9(c:D6)(level:Int):Int:=c.widths.getD ((c.widths.length:Int)-level).toNat 0
theorem HY(c:D6)(level:Int)(h1:1≤level)(h2:level≤c.widths.length):A3 Tryz.prog 215 [T7 c,.i level] (.i (A9 c level)):=by
 refine C1 Tryz.func215 14 fun nd E h0=>?_
 have nZ:c.widths.length≤9223372036854775807:=by
  have:=((nd (T7 c) (by simp)).agg (.sl 1 (c.widths.map wA)) (by simp)).sl
  simpa using this
 clear nd
 repeat'((first|refine S2 ?_|(refine T6 ?_ ?_<;>intro h<;>try exact V1 h)|intro el nX nY|intro el nX|exact T4|refine T5 ?_ ?_|intro ex)<;>try conv=>whnf)
 all_goals exact A0 rfl (congrArg AV.i (D2 nX).symm)
def C9(n w:Int):Int:=n-n % w
theorem Dn(n w:Int)(hw:1≤w)(wm:w≤1000000)(h1:-4000000000000≤n)(h2:n≤4000000000000):A3 Tryz.prog 216 [.i n,.i w] (.i (C9 n w)):=by
 refine C1 Tryz.func216 17 fun nd E h0=>?_
 have hm:=Bz n hw
 have hb:=KK n hw
 clear nd
 repeat'((first|refine S2 ?_|(refine T6 ?_ ?_<;>intro h<;>try exact V1 h)|intro el nX nY|intro el nX|exact T4|refine T5 ?_ ?_|intro ex)<;>try conv=>whnf)
 all_goals first
  |(refine A0 rfl (congrArg AV.i ?_);unfold C9;omega)
theorem AQ{s:A4}(h:C5 s=0){column:Int}{c:D6}(h1:1≤column)(hc:s.cols[column.toNat]?=some c):
  (c.kind=2∧0≤c.lst∧c.lst<s.lists.length)∨(c.kind=3∧-1000000≤c.low∧c.high≤1000000∧c.low≤c.high∧1≤c.widths.length∧c.widths.length≤4∧Q5 c.widths=true):=by
 have hk:=(v4 ((E9 h).2.2.2.1 _ c hc)).2.2.1
 rcases LA hk with h2|h2|h2
 ·omega
 ·exact .inl ⟨h2,NV hk h2⟩
 ·exact .inr ⟨h2,W5 (CA hk h2)⟩
theorem c9{c:D6}{level:Int}(hw:Q5 c.widths=true)(h1:1≤level)(h2:level≤c.widths.length):1≤A9 c level∧A9 c level≤1000000:=by
 have nf:((c.widths.length:Int)-level).toNat<c.widths.length:=by omega
 unfold A9
 rw[D2 (List.getElem?_eq_getElem nf)]
 exact ar hw _ (List.getElem_mem nf)
theorem V3(n:Int){w:Int}(hw:1≤w):n-w<C9 n w∧C9 n w≤n:=by
 unfold C9
 have h1:=Int.emod_nonneg n (b:=w) (by omega)
 have h2:=Int.emod_lt_of_pos n (b:=w) (by omega)
 omega
theorem NW{a b w:Int}(hw:1≤w)(h:a≤b):C9 a w≤C9 b w:=by
 unfold C9
 have e1:a-a % w=w*(a / w):=by have:=Int.mul_ediv_add_emod a w;omega
 have e2:b-b % w=w*(b / w):=by have:=Int.mul_ediv_add_emod b w;omega
 rw[e1,e2]
 exact Int.mul_le_mul_of_nonneg_left (Int.ediv_le_ediv (by omega) h) (by omega)
theorem iL{a b:Int}(ha:0≤a)(hb:1≤b):a.tdiv b=a / b∧0≤a / b∧a / b≤a:=by
 refine⟨Int.tdiv_eq_ediv_of_nonneg ha,Int.ediv_nonneg ha (by omega),?_⟩
 exact Int.ediv_le_self b ha
def K6(s:A4)(c:D6)(level:Int):Int :=
 if c.kind=2 then (I5 (B9 s c).1 (B9 s c).2 level).length else if level=0 then 1 else (C9 c.high (A9 c level)-C9 c.low (A9 c level)) / A9 c level+1+(if c.opt=true then 1 else 0)
theorem VS(s:A4)(column level:Int)(hr:C5 s=0)(h1:1≤column)(h2:column<s.cols.length)(h3:0≤level)(h4:level≤F2 s column):A3 Tryz.prog 234 [sA s,.i column,.i level] (.i (K6 s (B4 s column) level)):=by
 obtain⟨c,hc⟩:∃c,s.cols[column.toNat]?=some c:=⟨_,List.getElem?_eq_getElem (by omega)⟩
 have nt:=C0 hc
 have pQ:=AQ hr h1 hc
 rw[nt]
 rw[F2,if_neg (by omega),nt]at h4
 have walk:∀w lo hi:Int,(c.kind=2∨level=0∨(1≤w∧w≤1000000∧-2000000≤lo∧lo≤hi∧hi≤1000000∧A3 Tryz.prog 215 [T7 c,.i level] (.i w)∧A3 Tryz.prog 216 [.i c.high,.i w] (.i hi)∧A3 Tryz.prog 216 [.i c.low,.i w] (.i lo))) →
   A3 Tryz.prog 234 [sA s,.i column,.i level] (.i (if c.kind=2 then (I5 (B9 s c).1 (B9 s c).2 level).length else if level=0 then 1 else (hi-lo) / w+1+(if c.opt=true then 1 else 0))):=by
  intro w lo hi hx
  have zD:c.kind≠2→level≠0→(hi-lo).tdiv w=(hi-lo) / w∧0≤(hi-lo) / w∧(hi-lo) / w≤hi-lo:=fun h5 h6=>iL (by omega) (by omega)
  have wL:c.kind≠2→level≠0→A3 Tryz.prog 215 [T7 c,.i level] (.i w):=fun h5 h6=>by rcases hx with hx|hx|hx<;>first|omega|exact hx.2.2.2.2.2.1
  have hdh:c.kind≠2→level≠0→A3 Tryz.prog 216 [.i c.high,.i w] (.i hi):=fun h5 h6=>by rcases hx with hx|hx|hx<;>first|omega|exact hx.2.2.2.2.2.2.1
  have qW:c.kind≠2→level≠0→A3 Tryz.prog 216 [.i c.low,.i w] (.i lo):=fun h5 h6=>by rcases hx with hx|hx|hx<;>first|omega|exact hx.2.2.2.2.2.2.2
  have qJ:c.kind≠2→level≠0→w≠0∧-2000000≤lo∧lo≤hi∧hi≤1000000:=fun h5 h6=>by omega
  have qo:=fun (l:CL) (hl:s.lists[c.lst.toNat]?=some l) h=>Ge l.1 l.2 level h
  generalize hq:(hi-lo) / w=q at zD ⊢
  clear hx
  refine C1 Tryz.func234 49 fun nd E h0=>?_
  obtain⟨pH,oM,pT⟩:=Z7 (s:=s) (nd _ (by simp))
  clear nd
  repeat'((first|(refine A2 (x:=c) hc (by omega) ?_)|(refine A1 (qo _ nX (pT _ (List.mem_of_getElem? nX))) ?_)|(refine A1 (wL (by assumption) (by assumption)) ?_)|(refine A1 (hdh (by assumption) (by assumption)) ?_)|(refine A1 (qW (by assumption) (by assumption)) ?_)|(refine J0 ?_ ?_;(have h8:=qJ (by assumption) (by assumption);have h9:=zD (by assumption) (by assumption);omega))|(refine B5 ?_ ?_;kernel_rfl) |refine S2 ?_|(refine T6 ?_ ?_<;>intro h<;>try exact V1 h)|intro el nX nY|intro el nX|exact T4|refine T5 ?_ ?_|intro ex)<;>try conv=>whnf)
  all_goals first
   |(refine A0 rfl (congrArg AV.i ?_);rw[if_pos h,I3 nX];done)
   |(refine A0 rfl (congrArg AV.i ?_);rw[if_neg (by assumption),if_pos (by assumption)];done)
   |(refine A0 rfl (congrArg AV.i ?_)
     have h9:=zD (by assumption) (by assumption)
     rw[if_neg (by assumption),if_neg (by assumption),h9.1]
     first
      |(rw[if_pos h];done)
      |(rw[if_neg (by rw[h];exact Bool.false_ne_true)];omega))
 unfold K6
 refine walk _ _ _ ?_
 rcases pQ with pQ|pQ
 ·exact .inl pQ.1
 ·by_cases hl:level=0
  ·exact .inr (.inl hl)
  ·have h5:N0 s c=c.widths.length:=by unfold N0;rw[if_neg (by omega)]
   obtain⟨wM,wm⟩:=c9 pQ.2.2.2.2.2.2 (level:=level) (by omega) (by omega)
   have d1:=V3 c.low wM
   have d2:=V3 c.high wM
   have d3:=NW wM pQ.2.2.2.1
   exact .inr (.inr ⟨wM,wm,by omega,d3,by omega,HY c level (by omega) (by omega),Dn _ _ wM wm (by omega) (by omega),Dn _ _ wM wm (by omega) (by omega)⟩)
end Go.Proofs.YtiphlhoclaogjaaGreatDoor
