/- Chapter 18: tables: where a cell is, what lies inside what: the program. -/
import Derived.Test.YtiphlhoclaogjaaGreatDoorSTa7
import Derived.Test.YtiphlhoclaogjaaGreatDoorSCe1
import Derived.Test.YtiphlhoclaogjaaGreatDoorSTa0
import Derived.Test.YtiphlhoclaogjaaGreatDoorSQn1
import Derived.Test.YtiphlhoclaogjaaGreatDoorSC1
import Derived.Test.YtiphlhoclaogjaaGreatDoorSB9
set_option linter.unusedVariables false
set_option linter.unnecessarySimpa false
set_option linter.unusedSimpArgs false
set_option maxHeartbeats 64000000
namespace Go.Proofs.YtiphlhoclaogjaaGreatDoor
open Go Go.Av
attribute [local irreducible] C7 B2 D3 C9 DQ D0 C8 St.le A3 B9
set_option maxRecDepth 100000
structure Nz where
 dims:List Pk
 mea:Int
 cells:List J7
abbrev lI(t:Nz):List AV:=[.sl 2 (t.dims.map B4),.i t.mea,.sl 7 (t.cells.map Cf)]
abbrev Bk(t:Nz):AV:=.agg (lI t)
def WV(t:Nz)(a b:Int):Bool :=
 if a<0∨(t.cells.length:Int)≤a∨b<0∨(t.cells.length:Int)≤b then false
 else match t.cells[a.toNat]?,t.cells[b.toNat]? with
  |some x,some y=>if x.codes.length=t.dims.length∧y.codes.length=t.dims.length then Bi x.codes y.codes else false
  |_,_=>false
theorem Tp(xs ys:List Int):A3 Tryz.prog 75 [.sl 1 (xs.map wA),.sl 1 (ys.map wA)] (.b (decide (xs=ys))):=by
 refine B6 Tryz.func75 26 fun lW E h0=>?_
 have lX:xs.length≤9223372036854775807:=by
  have:=(lW (.sl 1 (xs.map wA)) (by simp)).sl
  simpa using this
 have rY:ys.length≤9223372036854775807:=by
  have:=(lW (.sl 1 (ys.map wA)) (by simp)).sl
  simpa using this
 clear lW
 repeat'((first|refine S2 ?_|(refine T6 ?_ ?_<;>intro h<;>try exact V1 h)|intro el lU lV|intro el lU|exact T4|refine T5 ?_ ?_|intro ex)<;>try conv=>whnf)
 ·exact A0 rfl (congrArg AV.b (by
   have:xs≠ys:=by intro e;subst e;omega
   simp[this]))
 have hl:xs.length=ys.length:=by omega
 refine B0 (ι:=Nat) (fun k=>⟨[(0,.sl 1 (xs.map wA)),(1,.sl 1 (ys.map wA)),(12,.i xs.length),(13,.i k)],0,[]⟩) (fun k=>k≤xs.length∧ys.take k=xs.take k) (fun k=>xs.length-k) 0 ⟨Nat.zero_le _,rfl⟩ (A6 h0) (fun k hI=>?_)
 obtain⟨hk,hI⟩:=hI
 by_cases lY:k<xs.length
 ·obtain⟨x,hx⟩:∃x,xs[k]?=some x:=⟨_,List.getElem?_eq_getElem lY⟩
  obtain⟨y,hy⟩:∃y,ys[k]?=some y:=⟨_,List.getElem?_eq_getElem (by omega)⟩
  have ox:xs[((k:Nat):Int).toNat]?=some x:=hx
  have xr:ys[((k:Nat):Int).toNat]?=some y:=hy
  repeat'((first|(refine A2 (x:=x) ox (by omega) ?_)|(refine A2 (x:=y) xr (by omega) ?_)|(refine B3 ?_ ?_;kernel_rfl) |refine S2 ?_|(refine T6 ?_ ?_<;>intro h<;>try exact V1 h)|intro el lU lV|intro el lU|exact T4|refine T5 ?_ ?_|intro ex)<;>try conv=>whnf)
  all_goals first
   |(exfalso;omega)
   |(refine A0 rfl (congrArg AV.b (decide_eq_false (fun e=>?_)).symm)
     subst e
     rw[hx]at hy
     cases hy
     omega)
   |exact⟨k+1,⟨by omega,by rw[H6 hx,H6 hy,hI];congr 2;omega⟩,by omega,A6 h0⟩
 ·repeat'((first|refine S2 ?_|(refine T6 ?_ ?_<;>intro h<;>try exact V1 h)|intro el lU lV|intro el lU|exact T4|refine T5 ?_ ?_|intro ex)<;>try conv=>whnf)
  all_goals first
   |(exfalso;omega)
   |(refine A0 rfl (congrArg AV.b (decide_eq_true ?_).symm)
     rw[List.take_of_length_le (by omega),List.take_of_length_le (by omega)]at hI
     exact hI.symm)
theorem aj(l:List (J7))(f:Nat)(caps:List AV)(p:(J7)→Bool)(hf:∀x∈l,A3 Tryz.prog f ((fun x=>.agg (Cf x)) x::caps) (.b (p x))):A3 Tryz.prog 73 [.sl 7 (l.map Cf),.fn f caps] (.i (F4 p l 0)):=by
 refine B6 Tryz.func73 19 fun lW E h0=>?_
 have lX:l.length≤9223372036854775807:=by have:=(lW (.sl 7 (l.map Cf)) (by simp)).sl;simpa using this
 repeat'((first|refine S2 ?_|(refine T6 ?_ ?_<;>intro h<;>try exact V1 h)|intro el lU lV|intro el lU|exact T4|refine T5 ?_ ?_|intro ex)<;>try conv=>whnf)
 refine B0 (ι:=Nat) (fun k=>⟨[(0,.sl 7 (l.map Cf)),(1,.fn f caps),(7,.i l.length),(8,.i k)],0,[]⟩) (fun k=>k≤l.length∧F4 p l 0=F4 p (l.drop k) k) (fun k=>l.length-k) 0 ⟨Nat.zero_le _,rfl⟩ (A6 h0) (fun k hI=>?_)
 obtain⟨hk,hI⟩:=hI
 repeat'((first|refine A1 (hf _ (List.mem_of_getElem? lU)) ?_ |refine S2 ?_|(refine T6 ?_ ?_<;>intro h<;>try exact V1 h)|intro el lU lV|intro el lU|exact T4|refine T5 ?_ ?_|intro ex)<;>try conv=>whnf)
 all_goals first
  |exact⟨k+1,⟨by omega,by rw[hI,G3 lU,F4,if_neg (by simp[h])];rfl⟩,by omega,A6 h0⟩
  |exact A0 rfl (congrArg AV.i (by rw[hI,G3 lU,F4,if_pos (by simp[h])]))
  |exact A0 rfl (congrArg AV.i (by rw[hI,show k=l.length by omega,List.drop_length];rfl))
theorem da(c:J7)(codes:List Int):A3 Tryz.prog 74 [.agg (Cf c),.iptr [.sl 1 (codes.map wA)]] (.b (decide (c.codes=codes))):=by
 have h1:=Tp c.codes codes
 obtain⟨cs,cnt,sum,amo,fst,snd,rows⟩:=c
 dsimp only at *
 refine B6 Tryz.func74 8 fun lW E h0=>?_
 clear lW
 repeat'((first|refine A1 h1 ?_ |refine S2 ?_|(refine T6 ?_ ?_<;>intro h<;>try exact V1 h)|intro el lU lV|intro el lU|exact T4|refine T5 ?_ ?_|intro ex)<;>try conv=>whnf)
 all_goals first
  |exact A0 rfl rfl
theorem VN(t:Nz)(codes:List Int):A3 Tryz.prog 26 [Bk t,.sl 1 (codes.map wA)] (.i (F4 (fun c:J7=>decide (c.codes=codes)) t.cells 0)):=by
 have h1:=aj t.cells 74 [.iptr [.sl 1 (codes.map wA)]] (fun c=>decide (c.codes=codes)) (fun c _=>da c codes)
 obtain⟨dims,mea,cells⟩:=t
 dsimp only at *
 generalize F4 (fun c:J7=>decide (c.codes=codes)) cells 0=j at *
 refine B6 Tryz.func26 9 fun lW E h0=>?_
 clear lW
 repeat'((first|refine A1 h1 ?_|refine J1 1 ?_ |refine S2 ?_|(refine T6 ?_ ?_<;>intro h<;>try exact V1 h)|intro el lU lV|intro el lU|exact T4|refine T5 ?_ ?_|intro ex)<;>try conv=>whnf)
 all_goals first
  |exact A0 rfl rfl
theorem jj{t:Nz}{a b:Int}(h:a<0∨(t.cells.length:Int)≤a∨b<0∨(t.cells.length:Int)≤b):WV t a b=false:=if_pos h
theorem gg{t:Nz}{a b:Int}{x y:J7}(h:¬(a<0∨(t.cells.length:Int)≤a∨b<0∨(t.cells.length:Int)≤b))(hx:t.cells[a.toNat]?=some x)(hy:t.cells[b.toNat]?=some y):WV t a b=if x.codes.length=t.dims.length∧y.codes.length=t.dims.length then Bi x.codes y.codes else false:=by
 unfold WV
 rw[if_neg h,hx,hy]
theorem Ie(s:A4)(t:Nz)(a b:Int):A3 Tryz.prog 28 [sA s,Bk t,.i a,.i b] (.b (WV t a b)):=by
 by_cases hn:a<0∨(t.cells.length:Int)≤a∨b<0∨(t.cells.length:Int)≤b
 ·rw[jj hn]
  obtain⟨dims,mea,cells⟩:=t
  dsimp only at *
  have hX:Bk ⟨dims,mea,cells⟩=.agg [.sl 2 (dims.map B4),.i mea,.sl 7 (cells.map Cf)]:=rfl
  rw[hX]
  refine B6 Tryz.func28 62 fun lW E h0=>?_
  have lX:cells.length≤9223372036854775807:=by
   have:=((lW (.agg [.sl 2 (dims.map B4),.i mea,.sl 7 (cells.map Cf)]) (by simp)).agg (.sl 7 (cells.map Cf)) (by simp)).sl
   simpa using this
  clear lW
  repeat'((first|refine S2 ?_|(refine T6 ?_ ?_<;>intro h<;>try exact V1 h)|intro el lU lV|intro el lU|exact T4|refine T5 ?_ ?_|intro ex)<;>try conv=>whnf)
  all_goals first
   |(exfalso;omega)
   |exact A0 rfl rfl
 obtain⟨x,hx⟩:∃x,t.cells[a.toNat]?=some x:=⟨_,List.getElem?_eq_getElem (by omega)⟩
 obtain⟨y,hy⟩:∃y,t.cells[b.toNat]?=some y:=⟨_,List.getElem?_eq_getElem (by omega)⟩
 rw[gg hn hx hy]
 obtain⟨dims,mea,cells⟩:=t
 dsimp only at *
 have hX:Bk ⟨dims,mea,cells⟩=.agg [.sl 2 (dims.map B4),.i mea,.sl 7 (cells.map Cf)]:=rfl
 rw[hX]
 have h1:=fun h=>LJ x.codes y.codes h
 by_cases hd:x.codes.length=dims.length∧y.codes.length=dims.length
 ·rw[if_pos hd]
  have h1:=h1 (by omega)
  generalize Bi x.codes y.codes=B at *
  refine B6 Tryz.func28 62 fun lW E h0=>?_
  have lX:cells.length≤9223372036854775807:=by
   have:=((lW (.agg [.sl 2 (dims.map B4),.i mea,.sl 7 (cells.map Cf)]) (by simp)).agg (.sl 7 (cells.map Cf)) (by simp)).sl
   simpa using this
  clear lW
  repeat'((first|(refine A2 (x:=x) hx (by omega) ?_)|(refine A2 (x:=y) hy (by omega) ?_)|refine A1 h1 ?_|(refine B3 ?_ ?_;kernel_rfl) |refine S2 ?_|(refine T6 ?_ ?_<;>intro h<;>try exact V1 h)|intro el lU lV|intro el lU|exact T4|refine T5 ?_ ?_|intro ex)<;>try conv=>whnf)
  all_goals first
   |(exfalso;omega)
   |exact A0 rfl rfl
 ·rw[if_neg hd]
  clear h1
  refine B6 Tryz.func28 62 fun lW E h0=>?_
  have lX:cells.length≤9223372036854775807:=by
   have:=((lW (.agg [.sl 2 (dims.map B4),.i mea,.sl 7 (cells.map Cf)]) (by simp)).agg (.sl 7 (cells.map Cf)) (by simp)).sl
   simpa using this
  clear lW
  repeat'((first|(refine A2 (x:=x) hx (by omega) ?_)|(refine A2 (x:=y) hy (by omega) ?_)|(refine B3 ?_ ?_;kernel_rfl) |refine S2 ?_|(refine T6 ?_ ?_<;>intro h<;>try exact V1 h)|intro el lU lV|intro el lU|exact T4|refine T5 ?_ ?_|intro ex)<;>try conv=>whnf)
  all_goals first
   |(exfalso;omega)
   |exact A0 rfl rfl
theorem DK(s:A4)(dims:List Pk)(mea:Int)(cnd:B1):A3 Tryz.prog 44 [sA s,.sl 2 (dims.map B4),.i mea,E0 cnd] (.i (Q1 s ⟨[116],1,cnd,dims,mea,[],⟨0,0,0,0,0,[]⟩⟩)):=by
 have hq:NL (.agg [.str [116],.i 1,.i cnd.op,.i cnd.col,.i cnd.code,.i cnd.lo,.i cnd.hi,.sl 6 (cnd.kids.map L0),.sl 2 (dims.map B4),.i mea,.v (.slice none 0 0),.i 0,.i 0,.i 0,.i 0,.i 0,.v (.slice none 0 0)]) (x8 ⟨[116],1,cnd,dims,mea,[],⟨0,0,0,0,0,[]⟩⟩):=EG ⟨.refl _,.refl _,.refl _,.refl _,.refl _,.refl _,.refl _,.refl _,.refl _,.refl _,.nil 1,.refl _,.refl _,.refl _,.refl _,.refl _,.nil 6,trivial⟩
 have h1:A3 Tryz.prog 102 [sA s,.agg [.str [116],.i 1,.i cnd.op,.i cnd.col,.i cnd.code,.i cnd.lo,.i cnd.hi,.sl 6 (cnd.kids.map L0),.sl 2 (dims.map B4),.i mea,.v (.slice none 0 0),.i 0,.i 0,.i 0,.i 0,.i 0,.v (.slice none 0 0)]] (.i (Q1 s ⟨[116],1,cnd,dims,mea,[],⟨0,0,0,0,0,[]⟩⟩)):=BJ (YR s ⟨[116],1,cnd,dims,mea,[],⟨0,0,0,0,0,[]⟩⟩) ⟨.refl _,hq,trivial⟩
 generalize Q1 s ⟨[116],1,cnd,dims,mea,[],⟨0,0,0,0,0,[]⟩⟩=q at *
 refine B6 Tryz.func44 15 fun lW E h0=>?_
 clear lW
 repeat'((first|refine A1 h1 ?_ |refine S2 ?_|(refine T6 ?_ ?_<;>intro h<;>try exact V1 h)|intro el lU lV|intro el lU|exact T4|refine T5 ?_ ?_|intro ex)<;>try conv=>whnf)
 all_goals first
  |exact A0 rfl rfl
theorem Be{s:A4}{c:B1}{e:Int}(h:H9 s c=e)(he:e≠0):e=if H9 s c=0 then v8 s c.kids else H9 s c:=by rw[h,if_neg he]
theorem ak(s:A4)(hr:C3 s=0)(c:B1):A3 Tryz.prog 88 [sA s,E0 c] (.i (X4 s c)):=by
 refine N1 (p:=fun c=>A3 Tryz.prog 88 [sA s,E0 c] (.i (X4 s c))) (fun c ih=>?_) c
 have mm:=fun k=>gR s c.col k
 have tw:=Gs c.op
 have nS:∀x,s.cols[c.col.toNat]?=some x→(C0 s c.col).kind=2→0≤x.lst∧x.lst<s.lists.length:=fun x hx h2=>by
  rw[C1 hx]at h2
  have:=AY.lst hr (List.mem_of_getElem? hx) h2
  omega
 rw[F7,Ol]
 refine B6 Tryz.func88 185 fun lW E h0=>?_
 have lX:c.kids.length≤9223372036854775807:=by
  have:=((lW _ (List.mem_cons_of_mem _ (List.mem_cons_self ..))).agg (.sl 6 (c.kids.map I6)) (by simp)).sl
  simpa using this
 clear lW
 repeat'((first|(refine F6 1 ?_;refine G9 (id:=1) ⟨[(2,.ref 0 0),(3,.ref 1 0),(5,.i 0),(6,.ref 2 0)],3,[(0,some (.box (sL s))),(1,some (.box (M8 c))),(2,some (.box [.i c.op,.i 0,.i 0,.i 0,.i 0,.v (.slice none 0 0)]))]⟩ ?_ ?_)|(refine F6 6 ?_;refine G9 (id:=6) ⟨[(2,.ref 0 0),(3,.ref 1 0),(5,.i 0),(6,.ref 2 0)],3,[(0,some (.box (sL s))),(1,some (.box (M8 c))),(2,some (.box [.i c.op,.i c.col,.i c.code,.i 0,.i 0,.v (.slice none 0 0)]))]⟩ ?_ ?_)|(refine F6 8 ?_;refine G9 (id:=8) ⟨[(2,.ref 0 0),(3,.ref 1 0),(5,.i 0),(6,.ref 2 0)],3,[(0,some (.box (sL s))),(1,some (.box (M8 c))),(2,some (.box [.i c.op,.i c.col,.i 0,.i c.lo,.i c.hi,.v (.slice none 0 0)]))]⟩ ?_ ?_)|(refine FB (l:=⟨some 45,_,_,_,_,_⟩::_) [2,3,5,6] ?_;(try (conv=>whnf));refine DX ?_)|(refine FB (l:=⟨some 78,_,_,_,_,_⟩::_) [2,3] ?_;(try (conv=>whnf));refine DX ?_)|(refine FB (l:=⟨some 148,_,_,_,_,_⟩::_) [2,3] ?_;(try (conv=>whnf));refine DX ?_)|refine A1 (mm _) ?_|(refine o8 ?_ ?_ (fun lx mZ=>?_);(have:=nS _ (by assumption) (by omega);omega);(have:=nS _ (by assumption) (by omega);omega))|(refine B3 ?_ ?_;kernel_rfl) |refine S2 ?_|(refine T6 ?_ ?_<;>intro h<;>try exact V1 h)|intro el lU lV|intro el lU|exact T4|refine T5 ?_ ?_|intro ex)<;>try conv=>whnf)
 all_goals first
  |exact A6 h0
  |exact A0 rfl (congrArg AV.i (Be (jG (by omega)) (by decide)))
  |exact A0 rfl (congrArg AV.i (Be (fj (by omega) (by omega)) (by decide)))
  |exact A0 rfl (congrArg AV.i (Be (fk (by omega) (by omega) (by assumption)) (by decide)))
  |exact A0 rfl (congrArg AV.i (Be (fq (by omega) (by omega) (by assumption)) (by decide)))
  |exact A0 rfl (congrArg AV.i (Be (ft (by omega) (by omega) (by assumption)) (by decide)))
  |exact A0 rfl (congrArg AV.i (Be (ck (by omega) (by omega) lU (by assumption)) (by decide)))
  |exact A0 rfl (congrArg AV.i (Be (aB (by omega) (by omega) (by omega) (by omega)) (by decide)))
  |exact A0 rfl (congrArg AV.i (Be (aB (by omega) (by omega) (by omega) (by rw[C1 lU,H8 mZ];omega)) (by decide)))
  |exact A0 rfl (congrArg AV.i (Be (jH (by omega) (by omega) (by omega) (by omega)) (by decide)))
  |(rw[if_pos (fu (s:=s) (c:=c) (by omega) (by omega))];refine B0 (ι:=Nat) (fun k=>⟨[(2,.ref 0 0),(3,.ref 1 0),(7,.i k)],2,[(0,some (.box (sL s))),(1,some (.box (M8 c)))]⟩) (fun k=>k≤c.kids.length∧v8 s c.kids=v8 s (c.kids.drop k)) (fun k=>c.kids.length-k) 0 ⟨Nat.zero_le _,rfl⟩ (A6 h0) (fun k hI=>?_))
  |(rw[if_pos (fv (s:=s) (c:=c) (by omega) (by omega) (by omega) (by rw[C1 lU,H8 mZ];omega))];refine B0 (ι:=Nat) (fun k=>⟨[(2,.ref 0 0),(3,.ref 1 0),(7,.i k)],2,[(0,some (.box (sL s))),(1,some (.box (M8 c)))]⟩) (fun k=>k≤c.kids.length∧v8 s c.kids=v8 s (c.kids.drop k)) (fun k=>c.kids.length-k) 0 ⟨Nat.zero_le _,rfl⟩ (A6 h0) (fun k hI=>?_))
  |(rw[if_pos (fw (s:=s) (c:=c) (by omega) (by omega) (by omega) (by omega))];refine B0 (ι:=Nat) (fun k=>⟨[(2,.ref 0 0),(3,.ref 1 0),(7,.i k)],2,[(0,some (.box (sL s))),(1,some (.box (M8 c)))]⟩) (fun k=>k≤c.kids.length∧v8 s c.kids=v8 s (c.kids.drop k)) (fun k=>c.kids.length-k) 0 ⟨Nat.zero_le _,rfl⟩ (A6 h0) (fun k hI=>?_))
  |(rw[if_pos (fx (s:=s) (c:=c) (by omega) (by omega) (by omega) lU (by assumption))];refine B0 (ι:=Nat) (fun k=>⟨[(2,.ref 0 0),(3,.ref 1 0),(7,.i k)],2,[(0,some (.box (sL s))),(1,some (.box (M8 c)))]⟩) (fun k=>k≤c.kids.length∧v8 s c.kids=v8 s (c.kids.drop k)) (fun k=>c.kids.length-k) 0 ⟨Nat.zero_le _,rfl⟩ (A6 h0) (fun k hI=>?_))
 all_goals
  obtain⟨hk,hI⟩:=hI
  clear mm tw nS
  repeat'((first|(refine A1 (ih _ (List.mem_of_getElem? (by assumption))) ?_)|(refine B3 ?_ ?_;kernel_rfl) |refine S2 ?_|(refine T6 ?_ ?_<;>intro h<;>try exact V1 h)|intro el lU lV|intro el lU|exact T4|refine T5 ?_ ?_|intro ex)<;>try conv=>whnf)
 all_goals first
  |exact A0 rfl (congrArg AV.i (by rw[hI,G3 (by assumption),v8,if_neg (by assumption)]))
  |exact A0 rfl (congrArg AV.i (by rw[hI,S6 (by assumption)];rfl))
  |exact⟨k+1,⟨by omega,by rw[hI,G3 (by assumption),v8,if_pos (Decidable.of_not_not (by assumption))]⟩,by omega,A6 h0⟩
theorem x9(s:A4)(c:B1):A3 Tryz.prog 35 [sA s,E0 c] (.i (K7 s c)):=by
 have h1:=T3 s
 have h2:=Tk c 41 (by omega) (by omega)
 have h3:(Z0 c:Int)≤40→A3 Tryz.prog 87 [E0 c] (.i (Y9 c)):=fun h=>VF c (by have:=WB c;omega)
 have h4:=fun hr=>ak s hr c
 have t1:=dW c 41 (by omega)
 rw[F7]at *
 refine B6 Tryz.func35 20 fun lW E h0=>?_
 clear lW
 unfold K7
 repeat'((first|refine A1 h1 ?_|refine A1 h2 ?_|refine A1 (h3 (by omega)) ?_|refine A1 (h4 (Decidable.of_not_not (by assumption))) ?_ |refine S2 ?_|(refine T6 ?_ ?_<;>intro h<;>try exact V1 h)|intro el lU lV|intro el lU|exact T4|refine T5 ?_ ?_|intro ex)<;>try conv=>whnf)
 all_goals first
  |exact A0 rfl (congrArg AV.i (by rw[if_neg (by assumption)]))
  |exact A0 rfl (congrArg AV.i (by rw[if_pos (Decidable.of_not_not (by assumption)),if_pos (by omega)]))
  |exact A0 rfl (congrArg AV.i (by rw[if_pos (Decidable.of_not_not (by assumption)),if_neg (by omega),if_pos (by omega)]))
  |exact A0 rfl (congrArg AV.i (by rw[if_pos (Decidable.of_not_not (by assumption)),if_neg (by omega),if_neg (by omega)]))
end Go.Proofs.YtiphlhoclaogjaaGreatDoor
