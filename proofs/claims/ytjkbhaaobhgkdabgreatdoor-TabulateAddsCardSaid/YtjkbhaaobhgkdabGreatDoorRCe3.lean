/- Chapter 18: tables: where a cell is, what lies inside what: the program. -/
import Derived.Test.YtjkbhaaobhgkdabGreatDoorRTa7
import Derived.Test.YtjkbhaaobhgkdabGreatDoorRCe1
import Derived.Test.YtjkbhaaobhgkdabGreatDoorRKa0
import Derived.Test.YtjkbhaaobhgkdabGreatDoorRQn1
import Derived.Test.YtjkbhaaobhgkdabGreatDoorRC1
import Derived.Test.YtjkbhaaobhgkdabGreatDoorRB10
set_option linter.unusedVariables false
set_option linter.unnecessarySimpa false
set_option linter.unusedSimpArgs false
set_option maxHeartbeats 64000000
namespace Go.Proofs.YtjkbhaaobhgkdabGreatDoor
open Go Go.Av
attribute [local irreducible] D0 B0 D2 C7 DQ D1 C8 St.le A3 B6
set_option maxRecDepth 100000
structure LZ where
 dims:List Pk
 mea:Int
 cells:List F3
abbrev my(t:LZ):List AV:=[.sl 2 (t.dims.map B5),.i t.mea,.sl 7 (t.cells.map T3)]
abbrev BT(t:LZ):AV:=.agg (my t)
def UB(t:LZ)(a b:Int):Bool :=
 if a<0∨(t.cells.length:Int)≤a∨b<0∨(t.cells.length:Int)≤b then false
 else match t.cells[a.toNat]?,t.cells[b.toNat]? with
  |some x,some y=>if x.codes.length=t.dims.length∧y.codes.length=t.dims.length then N1 x.codes y.codes else false
  |_,_=>false
theorem UC(xs ys:List Int):A3 Tryz.prog 34 [.sl 1 (xs.map wA),.sl 1 (ys.map wA)] (.b (decide (xs=ys))):=by
 refine C0 Tryz.func34 26 fun nQ E h0=>?_
 have nO:xs.length≤9223372036854775807:=by
  have:=(nQ (.sl 1 (xs.map wA)) (by simp)).sl
  simpa using this
 have uu:ys.length≤9223372036854775807:=by
  have:=(nQ (.sl 1 (ys.map wA)) (by simp)).sl
  simpa using this
 clear nQ
 repeat'((first|refine S2 ?_|(refine T6 ?_ ?_<;>intro h<;>try exact V1 h)|intro el nN nP|intro el nN|exact T4|refine T5 ?_ ?_|intro ex)<;>try conv=>whnf)
 ·exact A0 rfl (congrArg AV.b (by
   have:xs≠ys:=by intro e;subst e;omega
   simp[this]))
 have hl:xs.length=ys.length:=by omega
 refine B2 (ι:=Nat) (fun k=>⟨[(0,.sl 1 (xs.map wA)),(1,.sl 1 (ys.map wA)),(12,.i xs.length),(13,.i k)],0,[]⟩) (fun k=>k≤xs.length∧ys.take k=xs.take k) (fun k=>xs.length-k) 0 ⟨Nat.zero_le _,rfl⟩ (A6 h0) (fun k hI=>?_)
 obtain⟨hk,hI⟩:=hI
 by_cases nR:k<xs.length
 ·obtain⟨x,hx⟩:∃x,xs[k]?=some x:=⟨_,List.getElem?_eq_getElem nR⟩
  obtain⟨y,hy⟩:∃y,ys[k]?=some y:=⟨_,List.getElem?_eq_getElem (by omega)⟩
  have qb:xs[((k:Nat):Int).toNat]?=some x:=hx
  have zi:ys[((k:Nat):Int).toNat]?=some y:=hy
  repeat'((first|(refine A2 (x:=x) qb (by omega) ?_)|(refine A2 (x:=y) zi (by omega) ?_)|(refine B8 ?_ ?_;kernel_rfl) |refine S2 ?_|(refine T6 ?_ ?_<;>intro h<;>try exact V1 h)|intro el nN nP|intro el nN|exact T4|refine T5 ?_ ?_|intro ex)<;>try conv=>whnf)
  all_goals first
   |(exfalso;omega)
   |(refine A0 rfl (congrArg AV.b (decide_eq_false (fun e=>?_)).symm)
     subst e
     rw[hx]at hy
     cases hy
     omega)
   |exact⟨k+1,⟨by omega,by rw[I3 hx,I3 hy,hI];congr 2;omega⟩,by omega,A6 h0⟩
 ·repeat'((first|refine S2 ?_|(refine T6 ?_ ?_<;>intro h<;>try exact V1 h)|intro el nN nP|intro el nN|exact T4|refine T5 ?_ ?_|intro ex)<;>try conv=>whnf)
  all_goals first
   |(exfalso;omega)
   |(refine A0 rfl (congrArg AV.b (decide_eq_true ?_).symm)
     rw[List.take_of_length_le (by omega),List.take_of_length_le (by omega)]at hI
     exact hI.symm)
theorem bY(l:List (F3))(f:Nat)(caps:List AV)(p:(F3)→Bool)(hf:∀x∈l,A3 Tryz.prog f ((fun x=>.agg (T3 x)) x::caps) (.b (p x))):A3 Tryz.prog 32 [.sl 7 (l.map T3),.fn f caps] (.i (E6 p l 0)):=by
 refine C0 Tryz.func32 19 fun nQ E h0=>?_
 have nO:l.length≤9223372036854775807:=by have:=(nQ (.sl 7 (l.map T3)) (by simp)).sl;simpa using this
 repeat'((first|refine S2 ?_|(refine T6 ?_ ?_<;>intro h<;>try exact V1 h)|intro el nN nP|intro el nN|exact T4|refine T5 ?_ ?_|intro ex)<;>try conv=>whnf)
 refine B2 (ι:=Nat) (fun k=>⟨[(0,.sl 7 (l.map T3)),(1,.fn f caps),(7,.i l.length),(8,.i k)],0,[]⟩) (fun k=>k≤l.length∧E6 p l 0=E6 p (l.drop k) k) (fun k=>l.length-k) 0 ⟨Nat.zero_le _,rfl⟩ (A6 h0) (fun k hI=>?_)
 obtain⟨hk,hI⟩:=hI
 repeat'((first|refine A1 (hf _ (List.mem_of_getElem? nN)) ?_ |refine S2 ?_|(refine T6 ?_ ?_<;>intro h<;>try exact V1 h)|intro el nN nP|intro el nN|exact T4|refine T5 ?_ ?_|intro ex)<;>try conv=>whnf)
 all_goals first
  |exact⟨k+1,⟨by omega,by rw[hI,G6 nN,E6,if_neg (by simp[h])];rfl⟩,by omega,A6 h0⟩
  |exact A0 rfl (congrArg AV.i (by rw[hI,G6 nN,E6,if_pos (by simp[h])]))
  |exact A0 rfl (congrArg AV.i (by rw[hI,show k=l.length by omega,List.drop_length];rfl))
theorem ep(c:F3)(codes:List Int):A3 Tryz.prog 33 [.agg (T3 c),.iptr [.sl 1 (codes.map wA)]] (.b (decide (c.codes=codes))):=by
 have h1:=UC c.codes codes
 obtain⟨cs,cnt,sum,amo,fst,snd,rows⟩:=c
 dsimp only at *
 refine C0 Tryz.func33 8 fun nQ E h0=>?_
 clear nQ
 repeat'((first|refine A1 h1 ?_ |refine S2 ?_|(refine T6 ?_ ?_<;>intro h<;>try exact V1 h)|intro el nN nP|intro el nN|exact T4|refine T5 ?_ ?_|intro ex)<;>try conv=>whnf)
 all_goals first
  |exact A0 rfl rfl
theorem La(t:LZ)(codes:List Int):A3 Tryz.prog 9 [BT t,.sl 1 (codes.map wA)] (.i (E6 (fun c:F3=>decide (c.codes=codes)) t.cells 0)):=by
 have h1:=bY t.cells 33 [.iptr [.sl 1 (codes.map wA)]] (fun c=>decide (c.codes=codes)) (fun c _=>ep c codes)
 obtain⟨dims,mea,cells⟩:=t
 dsimp only at *
 generalize E6 (fun c:F3=>decide (c.codes=codes)) cells 0=j at *
 refine C0 Tryz.func9 9 fun nQ E h0=>?_
 clear nQ
 repeat'((first|refine A1 h1 ?_|refine I6 1 ?_ |refine S2 ?_|(refine T6 ?_ ?_<;>intro h<;>try exact V1 h)|intro el nN nP|intro el nN|exact T4|refine T5 ?_ ?_|intro ex)<;>try conv=>whnf)
 all_goals first
  |exact A0 rfl rfl
theorem lN{t:LZ}{a b:Int}(h:a<0∨(t.cells.length:Int)≤a∨b<0∨(t.cells.length:Int)≤b):UB t a b=false:=if_pos h
theorem iy{t:LZ}{a b:Int}{x y:F3}(h:¬(a<0∨(t.cells.length:Int)≤a∨b<0∨(t.cells.length:Int)≤b))(hx:t.cells[a.toNat]?=some x)(hy:t.cells[b.toNat]?=some y):UB t a b=if x.codes.length=t.dims.length∧y.codes.length=t.dims.length then N1 x.codes y.codes else false:=by
 unfold UB
 rw[if_neg h,hx,hy]
theorem Ik(s:A4)(t:LZ)(a b:Int):A3 Tryz.prog 36 [sA s,BT t,.i a,.i b] (.b (UB t a b)):=by
 by_cases hn:a<0∨(t.cells.length:Int)≤a∨b<0∨(t.cells.length:Int)≤b
 ·rw[lN hn]
  obtain⟨dims,mea,cells⟩:=t
  dsimp only at *
  have hX:BT ⟨dims,mea,cells⟩=.agg [.sl 2 (dims.map B5),.i mea,.sl 7 (cells.map T3)]:=rfl
  rw[hX]
  refine C0 Tryz.func36 62 fun nQ E h0=>?_
  have nO:cells.length≤9223372036854775807:=by
   have:=((nQ (.agg [.sl 2 (dims.map B5),.i mea,.sl 7 (cells.map T3)]) (by simp)).agg (.sl 7 (cells.map T3)) (by simp)).sl
   simpa using this
  clear nQ
  repeat'((first|refine S2 ?_|(refine T6 ?_ ?_<;>intro h<;>try exact V1 h)|intro el nN nP|intro el nN|exact T4|refine T5 ?_ ?_|intro ex)<;>try conv=>whnf)
  all_goals first
   |(exfalso;omega)
   |exact A0 rfl rfl
 obtain⟨x,hx⟩:∃x,t.cells[a.toNat]?=some x:=⟨_,List.getElem?_eq_getElem (by omega)⟩
 obtain⟨y,hy⟩:∃y,t.cells[b.toNat]?=some y:=⟨_,List.getElem?_eq_getElem (by omega)⟩
 rw[iy hn hx hy]
 obtain⟨dims,mea,cells⟩:=t
 dsimp only at *
 have hX:BT ⟨dims,mea,cells⟩=.agg [.sl 2 (dims.map B5),.i mea,.sl 7 (cells.map T3)]:=rfl
 rw[hX]
 have h1:=fun h=>LV x.codes y.codes h
 by_cases hd:x.codes.length=dims.length∧y.codes.length=dims.length
 ·rw[if_pos hd]
  have h1:=h1 (by omega)
  generalize N1 x.codes y.codes=B at *
  refine C0 Tryz.func36 62 fun nQ E h0=>?_
  have nO:cells.length≤9223372036854775807:=by
   have:=((nQ (.agg [.sl 2 (dims.map B5),.i mea,.sl 7 (cells.map T3)]) (by simp)).agg (.sl 7 (cells.map T3)) (by simp)).sl
   simpa using this
  clear nQ
  repeat'((first|(refine A2 (x:=x) hx (by omega) ?_)|(refine A2 (x:=y) hy (by omega) ?_)|refine A1 h1 ?_|(refine B8 ?_ ?_;kernel_rfl) |refine S2 ?_|(refine T6 ?_ ?_<;>intro h<;>try exact V1 h)|intro el nN nP|intro el nN|exact T4|refine T5 ?_ ?_|intro ex)<;>try conv=>whnf)
  all_goals first
   |(exfalso;omega)
   |exact A0 rfl rfl
 ·rw[if_neg hd]
  clear h1
  refine C0 Tryz.func36 62 fun nQ E h0=>?_
  have nO:cells.length≤9223372036854775807:=by
   have:=((nQ (.agg [.sl 2 (dims.map B5),.i mea,.sl 7 (cells.map T3)]) (by simp)).agg (.sl 7 (cells.map T3)) (by simp)).sl
   simpa using this
  clear nQ
  repeat'((first|(refine A2 (x:=x) hx (by omega) ?_)|(refine A2 (x:=y) hy (by omega) ?_)|(refine B8 ?_ ?_;kernel_rfl) |refine S2 ?_|(refine T6 ?_ ?_<;>intro h<;>try exact V1 h)|intro el nN nP|intro el nN|exact T4|refine T5 ?_ ?_|intro ex)<;>try conv=>whnf)
  all_goals first
   |(exfalso;omega)
   |exact A0 rfl rfl
theorem DE(s:A4)(dims:List Pk)(mea:Int)(cnd:B1):A3 Tryz.prog 20 [sA s,.sl 2 (dims.map B5),.i mea,E7 cnd] (.i (N4 s ⟨[116],1,cnd,dims,mea,[],⟨0,0,0,0,0,[]⟩⟩)):=by
 have hq:NL (.agg [.str [116],.i 1,.i cnd.op,.i cnd.col,.i cnd.code,.i cnd.lo,.i cnd.hi,.sl 6 (cnd.kids.map W8),.sl 2 (dims.map B5),.i mea,.v (.slice none 0 0),.i 0,.i 0,.i 0,.i 0,.i 0,.v (.slice none 0 0)]) (ES ⟨[116],1,cnd,dims,mea,[],⟨0,0,0,0,0,[]⟩⟩):=EE ⟨.refl _,.refl _,.refl _,.refl _,.refl _,.refl _,.refl _,.refl _,.refl _,.refl _,.nil 1,.refl _,.refl _,.refl _,.refl _,.refl _,.nil 6,trivial⟩
 have h1:A3 Tryz.prog 55 [sA s,.agg [.str [116],.i 1,.i cnd.op,.i cnd.col,.i cnd.code,.i cnd.lo,.i cnd.hi,.sl 6 (cnd.kids.map W8),.sl 2 (dims.map B5),.i mea,.v (.slice none 0 0),.i 0,.i 0,.i 0,.i 0,.i 0,.v (.slice none 0 0)]] (.i (N4 s ⟨[116],1,cnd,dims,mea,[],⟨0,0,0,0,0,[]⟩⟩)):=CA (Yv s ⟨[116],1,cnd,dims,mea,[],⟨0,0,0,0,0,[]⟩⟩) ⟨.refl _,hq,trivial⟩
 generalize N4 s ⟨[116],1,cnd,dims,mea,[],⟨0,0,0,0,0,[]⟩⟩=q at *
 refine C0 Tryz.func20 15 fun nQ E h0=>?_
 clear nQ
 repeat'((first|refine A1 h1 ?_ |refine S2 ?_|(refine T6 ?_ ?_<;>intro h<;>try exact V1 h)|intro el nN nP|intro el nN|exact T4|refine T5 ?_ ?_|intro ex)<;>try conv=>whnf)
 all_goals first
  |exact A0 rfl rfl
theorem BN{s:A4}{c:B1}{e:Int}(h:G4 s c=e)(he:e≠0):e=if G4 s c=0 then Y4 s c.kids else G4 s c:=by rw[h,if_neg he]
theorem bZ(s:A4)(hr:C5 s=0)(c:B1):A3 Tryz.prog 162 [sA s,E7 c] (.i (X0 s c)):=by
 refine N9 (p:=fun c=>A3 Tryz.prog 162 [sA s,E7 c] (.i (X0 s c))) (fun c ih=>?_) c
 have pK:=fun k=>ig s c.col k
 have vd:=Ot c.op
 have oq:∀x,s.cols[c.col.toNat]?=some x→(B4 s c.col).kind=2→0≤x.lst∧x.lst<s.lists.length:=fun x hx h2=>by
  rw[B7 hx]at h2
  have:=Ap.lst hr (List.mem_of_getElem? hx) h2
  omega
 rw[F8,Ez]
 refine C0 Tryz.func162 185 fun nQ E h0=>?_
 have nO:c.kids.length≤9223372036854775807:=by
  have:=((nQ _ (List.mem_cons_of_mem _ (List.mem_cons_self ..))).agg (.sl 6 (c.kids.map K2)) (by simp)).sl
  simpa using this
 clear nQ
 repeat'((first|(refine G3 1 ?_;refine H4 (id:=1) ⟨[(2,.ref 0 0),(3,.ref 1 0),(5,.i 0),(6,.ref 2 0)],3,[(0,some (.box (sL s))),(1,some (.box (O4 c))),(2,some (.box [.i c.op,.i 0,.i 0,.i 0,.i 0,.v (.slice none 0 0)]))]⟩ ?_ ?_)|(refine G3 6 ?_;refine H4 (id:=6) ⟨[(2,.ref 0 0),(3,.ref 1 0),(5,.i 0),(6,.ref 2 0)],3,[(0,some (.box (sL s))),(1,some (.box (O4 c))),(2,some (.box [.i c.op,.i c.col,.i c.code,.i 0,.i 0,.v (.slice none 0 0)]))]⟩ ?_ ?_)|(refine G3 8 ?_;refine H4 (id:=8) ⟨[(2,.ref 0 0),(3,.ref 1 0),(5,.i 0),(6,.ref 2 0)],3,[(0,some (.box (sL s))),(1,some (.box (O4 c))),(2,some (.box [.i c.op,.i c.col,.i 0,.i c.lo,.i c.hi,.v (.slice none 0 0)]))]⟩ ?_ ?_)|(refine FR (l:=⟨some 45,_,_,_,_,_⟩::_) [2,3,5,6] ?_;(try (conv=>whnf));refine DX ?_)|(refine FR (l:=⟨some 78,_,_,_,_,_⟩::_) [2,3] ?_;(try (conv=>whnf));refine DX ?_)|(refine FR (l:=⟨some 148,_,_,_,_,_⟩::_) [2,3] ?_;(try (conv=>whnf));refine DX ?_)|refine A1 (pK _) ?_|(refine n9 ?_ ?_ (fun lx ol=>?_);(have:=oq _ (by assumption) (by omega);omega);(have:=oq _ (by assumption) (by omega);omega))|(refine B8 ?_ ?_;kernel_rfl) |refine S2 ?_|(refine T6 ?_ ?_<;>intro h<;>try exact V1 h)|intro el nN nP|intro el nN|exact T4|refine T5 ?_ ?_|intro ex)<;>try conv=>whnf)
 all_goals first
  |exact A8 h0 rfl ⟨rfl,rfl,rfl,rfl,trivial⟩ ⟨rfl,rfl,rfl,trivial⟩ rfl rfl rfl
  |exact A0 rfl (congrArg AV.i (BN (kZ (by omega)) (by decide)))
  |exact A0 rfl (congrArg AV.i (BN (iE (by omega) (by omega)) (by decide)))
  |exact A0 rfl (congrArg AV.i (BN (iF (by omega) (by omega) (by assumption)) (by decide)))
  |exact A0 rfl (congrArg AV.i (BN (iG (by omega) (by omega) (by assumption)) (by decide)))
  |exact A0 rfl (congrArg AV.i (BN (iH (by omega) (by omega) (by assumption)) (by decide)))
  |exact A0 rfl (congrArg AV.i (BN (dl (by omega) (by omega) nN (by assumption)) (by decide)))
  |exact A0 rfl (congrArg AV.i (BN (aj (by omega) (by omega) (by omega) (by omega)) (by decide)))
  |exact A0 rfl (congrArg AV.i (BN (aj (by omega) (by omega) (by omega) (by rw[B7 nN,I7 ol];omega)) (by decide)))
  |exact A0 rfl (congrArg AV.i (BN (kc (by omega) (by omega) (by omega) (by omega)) (by decide)))
  |(rw[if_pos (Kc (s:=s) (c:=c) (by omega) (by omega))];refine B2 (ι:=Nat) (fun k=>⟨[(2,.ref 0 0),(3,.ref 1 0),(7,.i k)],2,[(0,some (.box (sL s))),(1,some (.box (O4 c)))]⟩) (fun k=>k≤c.kids.length∧Y4 s c.kids=Y4 s (c.kids.drop k)) (fun k=>c.kids.length-k) 0 ⟨Nat.zero_le _,rfl⟩ (A6 h0) (fun k hI=>?_))
  |(rw[if_pos (WX (s:=s) (c:=c) (by omega) (by omega) (by omega) (by rw[B7 nN,I7 ol];omega))];refine B2 (ι:=Nat) (fun k=>⟨[(2,.ref 0 0),(3,.ref 1 0),(7,.i k)],2,[(0,some (.box (sL s))),(1,some (.box (O4 c)))]⟩) (fun k=>k≤c.kids.length∧Y4 s c.kids=Y4 s (c.kids.drop k)) (fun k=>c.kids.length-k) 0 ⟨Nat.zero_le _,rfl⟩ (A6 h0) (fun k hI=>?_))
  |(rw[if_pos (WY (s:=s) (c:=c) (by omega) (by omega) (by omega) (by omega))];refine B2 (ι:=Nat) (fun k=>⟨[(2,.ref 0 0),(3,.ref 1 0),(7,.i k)],2,[(0,some (.box (sL s))),(1,some (.box (O4 c)))]⟩) (fun k=>k≤c.kids.length∧Y4 s c.kids=Y4 s (c.kids.drop k)) (fun k=>c.kids.length-k) 0 ⟨Nat.zero_le _,rfl⟩ (A6 h0) (fun k hI=>?_))
  |(rw[if_pos (WZ (s:=s) (c:=c) (by omega) (by omega) (by omega) nN (by assumption))];refine B2 (ι:=Nat) (fun k=>⟨[(2,.ref 0 0),(3,.ref 1 0),(7,.i k)],2,[(0,some (.box (sL s))),(1,some (.box (O4 c)))]⟩) (fun k=>k≤c.kids.length∧Y4 s c.kids=Y4 s (c.kids.drop k)) (fun k=>c.kids.length-k) 0 ⟨Nat.zero_le _,rfl⟩ (A6 h0) (fun k hI=>?_))
 all_goals
  obtain⟨hk,hI⟩:=hI
  clear pK vd oq
  repeat'((first|(refine A1 (ih _ (List.mem_of_getElem? (by assumption))) ?_)|(refine B8 ?_ ?_;kernel_rfl) |refine S2 ?_|(refine T6 ?_ ?_<;>intro h<;>try exact V1 h)|intro el nN nP|intro el nN|exact T4|refine T5 ?_ ?_|intro ex)<;>try conv=>whnf)
 all_goals first
  |exact A0 rfl (congrArg AV.i (by rw[hI,G6 (by assumption),Y4,if_neg (by assumption)]))
  |exact A0 rfl (congrArg AV.i (by rw[hI,W4 (by assumption)];rfl))
  |exact⟨k+1,⟨by omega,by rw[hI,G6 (by assumption),Y4,if_pos (Decidable.of_not_not (by assumption))]⟩,by omega,A6 h0⟩
theorem At(s:A4)(c:B1):A3 Tryz.prog 118 [sA s,E7 c] (.i (J6 s c)):=by
 have h1:=V5 s
 have h2:=Tx c 41 (by omega) (by omega)
 have h3:(R2 c:Int)≤40→A3 Tryz.prog 161 [E7 c] (.i (R7 c)):=fun h=>Va c (by have:=WW c;omega)
 have h4:=fun hr=>bZ s hr c
 have t1:=eZ c 41 (by omega)
 rw[F8]at *
 refine C0 Tryz.func118 20 fun nQ E h0=>?_
 clear nQ
 unfold J6
 repeat'((first|refine A1 h1 ?_|refine A1 h2 ?_|refine A1 (h3 (by omega)) ?_|refine A1 (h4 (Decidable.of_not_not (by assumption))) ?_ |refine S2 ?_|(refine T6 ?_ ?_<;>intro h<;>try exact V1 h)|intro el nN nP|intro el nN|exact T4|refine T5 ?_ ?_|intro ex)<;>try conv=>whnf)
 all_goals first
  |exact A0 rfl (congrArg AV.i (by rw[if_neg (by assumption)]))
  |exact A0 rfl (congrArg AV.i (by rw[if_pos (Decidable.of_not_not (by assumption)),if_pos (by omega)]))
  |exact A0 rfl (congrArg AV.i (by rw[if_pos (Decidable.of_not_not (by assumption)),if_neg (by omega),if_pos (by omega)]))
  |exact A0 rfl (congrArg AV.i (by rw[if_pos (Decidable.of_not_not (by assumption)),if_neg (by omega),if_neg (by omega)]))
end Go.Proofs.YtjkbhaaobhgkdabGreatDoor
