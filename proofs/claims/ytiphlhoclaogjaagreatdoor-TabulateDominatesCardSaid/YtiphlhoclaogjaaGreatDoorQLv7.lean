/- TabulateDivides: the cells without -1 divide the rows that count: each key is in exactly one of them, and in a cell exactly if it lies inside. -/
import Derived.Test.YtiphlhoclaogjaaGreatDoorQF5
import Derived.Test.YtiphlhoclaogjaaGreatDoorQUb8
import Derived.Test.YtiphlhoclaogjaaGreatDoorQGf3
import Derived.Test.YtiphlhoclaogjaaGreatDoorQB4
import Derived.Test.YtiphlhoclaogjaaGreatDoorQRg0
set_option linter.unusedVariables false
set_option linter.unnecessarySimpa false
set_option linter.unusedSimpArgs false
set_option maxHeartbeats 64000000
namespace Go.Proofs.YtiphlhoclaogjaaGreatDoor
open Go Go.Av
attribute [local irreducible] C7 B1 D1 C8 DQ D0 C6 St.le A3 B8
set_option maxRecDepth 100000
theorem PL(l:List UInt8)(hl:l.length≤maxLen):A3 Tryz.prog 7 [.sl 1 (l.map N9)] (.b true):=by
 unfold maxLen at hl
 have hL:(l.take 400).length≤400:=List.length_take_le _ _
 have pX:=HX l (by omega)
 generalize l.take 400=t at *
 have tl:=FT t 0 8 hL (by omega) (by omega)
 obtain⟨hd,hX⟩:=Ki t 0 (most:=8) (by omega) (by omega)
 generalize EJ t 0 8=W at *
 obtain⟨⟨s,rows,X⟩,a1⟩:=W
 dsimp only at tl hd hX
 have tH:=IL t a1 s hd hL
 have hA:=MW hd t a1
 generalize EH t s a1=K at *
 obtain⟨⟨D,M,C⟩,a2⟩:=K
 dsimp only at tH hA
 obtain⟨cells,hT,hE,⟨pH,oM⟩,nl,⟨c0,qt,AA7⟩,xi⟩:=Zi hd hX hA
 obtain⟨_,qW,_⟩:=o7 hA.dims
 have h1:A3 Tryz.prog 16 [sA s,f4 X,.sl 2 (D.map B6),.i M,E0 C] (.tup [.agg [.sl 2 (D.map B6),.i M,.sl 7 (cells.map L8)],.i 0]):=by
  have:=d6 s X D M C
  rw[hT,hE]at this
  exact this
 have ox:∀a b,A3 Tryz.prog 28 [sA s,.agg [.sl 2 (D.map B6),.i M,.sl 7 (cells.map L8)],.i a,.i b] (.b (Nz ⟨D,M,cells⟩ a b)):=fun a b=>EB s ⟨D,M,cells⟩ a b
 have hh:=fun (o:F1) (v:Int)=>Dq o.rows v
 have hsb:=lu (l:=cells) fun c hc=>(nl c hc).2
 have rB:Dg (cells.take 0)=0:=rfl
 generalize Nz ⟨D,M,cells⟩=IN at *
 clear hT hE
 refine C1 Tryz.func7 118 fun nd E h0=>?_
 clear nd
 repeat'((first|refine S8 [] [] pX rfl rfl rfl rfl rfl trivial rfl rfl rfl rfl rfl ?_|refine nc [0] [0] tl rfl rfl rfl ⟨rfl,trivial⟩ ?_|refine nc [0] [0] tH rfl rfl rfl ⟨rfl,trivial⟩ ?_ |refine S2 ?_|(refine T6 ?_ ?_<;>intro h<;>try exact V1 h)|intro el nX nY|intro el nX|exact T4|refine T5 ?_ ?_|intro ex|refine A1 h1 ?_)<;>try conv=>whnf)
 all_goals first
  |(exfalso;omega)
  |skip
 clear pX tl tH h1
 refine B2 (ι:=Nat) (fun i=>⟨[(6,.iptr (sL s)),(10,.iptr [.sl 2 (D.map B6),.i M,.sl 7 (cells.map L8)]),(12,.i (Dg (cells.take i))),(56,.sl 7 (cells.map L8)),(57,.i cells.length),(58,.i i)],0,[]⟩) (fun i=>i≤cells.length) (fun i=>cells.length-i) 0 (Nat.zero_le _)
  (A6 h0) (fun i hi=>?_)
 have xV:=hsb i
 by_cases sy:i<cells.length
 ·obtain⟨c,hc⟩:∃c,cells[i]?=some c:=⟨_,List.getElem?_eq_getElem sy⟩
  have pf:cells[((i:Nat):Int).toNat]?=some c:=hc
  obtain⟨w1,w2⟩:=nl c (List.mem_of_getElem? hc)
  have oe:=fc hc
  have wa:=xi i c hc
  generalize Dg (cells.take i)=S at *
  repeat'((first|(refine A2 (x:=c) pf (by omega) ?_) |refine S2 ?_|(refine T6 ?_ ?_<;>intro h<;>try exact V1 h)|intro el nX nY|intro el nX|exact T4|refine T5 ?_ ?_|intro ex)<;>try conv=>whnf)
  all_goals first
   |(exfalso;omega)
   |skip
  refine B2 (ι:=Nat) (fun j=>⟨[(6,.iptr (sL s)),(10,.iptr [.sl 2 (D.map B6),.i M,.sl 7 (cells.map L8)]),(12,.i S),(13,.i i),(14,.iptr (L8 c)),(15,.b (Q8 (c.codes.take j))),(56,.sl 7 (cells.map L8)),(57,.i cells.length),(58,.i i),(64,.sl 1 (c.codes.map wA)),(65,.i c.codes.length),(66,.i j)],0,[]⟩) (fun j=>j≤c.codes.length) (fun j=>c.codes.length-j) 0 (Nat.zero_le _)
   (A6 h0) (fun j hj=>?_)
  by_cases re:j<c.codes.length
  ·obtain⟨z,hz⟩:∃z,c.codes[j]?=some z:=⟨_,List.getElem?_eq_getElem re⟩
   have wY:c.codes[((j:Nat):Int).toNat]?=some z:=hz
   have wy:Q8 (c.codes.take (j+1))=(Q8 (c.codes.take j) && decide (z≠-1)):=by rw[I0 hz];unfold Q8;rw[List.all_append];simp
   cases hwj:Q8 (c.codes.take j)with
   |true =>
    rw[hwj,Bool.true_and]at wy
    repeat'((first|(refine A2 (x:=z) wY (by omega) ?_) |refine S2 ?_|(refine T6 ?_ ?_<;>intro h<;>try exact V1 h)|intro el nX nY|intro el nX|exact T4|refine T5 ?_ ?_|intro ex)<;>try conv=>whnf)
    all_goals first
     |(exfalso;omega)
     |(refine⟨j+1,by omega,by omega,?_⟩;rw[wy];exact A6 h0)
     |(refine⟨j+1,by omega,by omega,?_⟩;rw[wy,decide_eq_true (by assumption)];exact A6 h0)
     |(refine⟨j+1,by omega,by omega,?_⟩;rw[wy,decide_eq_false (by assumption)];exact A6 h0)
   |false =>
    rw[hwj,Bool.false_and]at wy
    repeat'((first|(refine A2 (x:=z) wY (by omega) ?_) |refine S2 ?_|(refine T6 ?_ ?_<;>intro h<;>try exact V1 h)|intro el nX nY|intro el nX|exact T4|refine T5 ?_ ?_|intro ex)<;>try conv=>whnf)
    all_goals first
     |(exfalso;omega)
     |(refine⟨j+1,by omega,by omega,?_⟩;rw[wy];exact A6 h0)
  ·rw[List.take_of_length_le (by omega:c.codes.length≤j)]
   cases hw:Q8 c.codes with
   |false =>
    rw[if_neg (by rw[hw];decide),Int.add_zero]at oe
    repeat'((first|refine S2 ?_|(refine T6 ?_ ?_<;>intro h<;>try exact V1 h)|intro el nX nY|intro el nX|exact T4|refine T5 ?_ ?_|intro ex)<;>try conv=>whnf)
    all_goals first
     |(exfalso;omega)
     |(refine⟨i+1,by omega,by omega,?_⟩;rw[oe];exact A6 h0)
   |true =>
    rw[if_pos hw]at oe
    have wa:=wa hw
    repeat'((first|refine S2 ?_|(refine T6 ?_ ?_<;>intro h<;>try exact V1 h)|intro el nX nY|intro el nX|exact T4|refine T5 ?_ ?_|intro ex)<;>try conv=>whnf)
    all_goals first
     |(exfalso;omega)
     |skip
    refine B2 (ι:=Nat) (fun j=>⟨[(6,.iptr (sL s)),(10,.iptr [.sl 2 (D.map B6),.i M,.sl 7 (cells.map L8)]),(12,.i (S+(j:Int))),(13,.i i),(56,.sl 7 (cells.map L8)),(57,.i cells.length),(58,.i i),(79,.sl 1 (c.rows.map wA)),(80,.i c.rows.length),(81,.i j)],0,[]⟩) (fun j=>j≤c.rows.length) (fun j=>c.rows.length-j) 0 (Nat.zero_le _)
     (by exact B3 h0 rfl ⟨rfl,rfl,congrArg (fun z:Int=>some (AV.i z)) (by omega),rfl,rfl,rfl,rfl,rfl,rfl,rfl,trivial⟩ trivial rfl rfl rfl) (fun j hj=>?_)
    by_cases re:j<c.rows.length
    ·obtain⟨key,qC⟩:∃key,c.rows[j]?=some key:=⟨_,List.getElem?_eq_getElem re⟩
     have uI:c.rows[((j:Nat):Int).toNat]?=some key:=qC
     have yb:=wa key (List.mem_of_getElem? qC)
     repeat'((first|(refine A2 (x:=key) uI (by omega) ?_) |refine S2 ?_|(refine T6 ?_ ?_<;>intro h<;>try exact V1 h)|intro el nX nY|intro el nX|exact T4|refine T5 ?_ ?_|intro ex)<;>try conv=>whnf)
     all_goals first
      |(exfalso;omega)
      |skip
     refine B2 (ι:=Nat) (fun n=>⟨[(6,.iptr (sL s)),(10,.iptr [.sl 2 (D.map B6),.i M,.sl 7 (cells.map L8)]),(12,.i (S+(j:Int)+1)),(13,.i i),(19,.i key),(56,.sl 7 (cells.map L8)),(57,.i cells.length),(58,.i i),(79,.sl 1 (c.rows.map wA)),(80,.i c.rows.length),(81,.i j),(88,.sl 7 (cells.map L8)),(89,.i cells.length),(90,.i n)],0,[]⟩) (fun n=>n≤cells.length) (fun n=>cells.length-n) 0 (Nat.zero_le _)
      (A6 h0) (fun n hn=>?_)
     by_cases wV:n<cells.length
     ·obtain⟨o,ho⟩:∃o,cells[n]?=some o:=⟨_,List.getElem?_eq_getElem wV⟩
      have sJ:cells[((n:Nat):Int).toNat]?=some o:=ho
      have hon:=yb n o ho
      have hho:=hh o key
      have hii:=ox i n
      rw[hon]at hho
      generalize IN i n=b at *
      clear yb hh ox xi wa
      repeat'((first|(refine A2 (x:=o) sJ (by omega) ?_)|refine A1 hho ?_|refine A1 hii ?_|(refine B5 ?_ ?_;kernel_rfl) |refine S2 ?_|(refine T6 ?_ ?_<;>intro h<;>try exact V1 h)|intro el nX nY|intro el nX|exact T4|refine T5 ?_ ?_|intro ex)<;>try conv=>whnf)
      all_goals first
       |(exfalso;omega)
       |(exfalso;simp_all;done)
       |exact⟨n+1,by omega,by omega,A6 h0⟩
     ·repeat'((first|refine S2 ?_|(refine T6 ?_ ?_<;>intro h<;>try exact V1 h)|intro el nX nY|intro el nX|exact T4|refine T5 ?_ ?_|intro ex)<;>try conv=>whnf)
      all_goals first
       |(exfalso;omega)
       |exact⟨j+1,by omega,by omega,B3 h0 rfl ⟨rfl,rfl,congrArg (fun z:Int=>some (AV.i z)) (by omega),rfl,rfl,rfl,rfl,rfl,rfl,congrArg (fun z:Int=>some (AV.i z)) (by omega),trivial⟩ trivial rfl rfl rfl⟩
    ·have xj:j=c.rows.length:=by omega
     subst xj
     repeat'((first|refine S2 ?_|(refine T6 ?_ ?_<;>intro h<;>try exact V1 h)|intro el nX nY|intro el nX|exact T4|refine T5 ?_ ?_|intro ex)<;>try conv=>whnf)
     all_goals first
      |(exfalso;omega)
      |(refine⟨i+1,by omega,by omega,?_⟩;rw[oe];exact A6 h0)
 ·rw[List.take_of_length_le (by omega:cells.length≤i)]at xV ⊢
  have AC5:cells[((0:Int)).toNat]?=some c0:=qt
  rw[←AA7]at xV ⊢
  repeat'((first|(refine A2 (x:=c0) AC5 (by omega) ?_)|refine A1 Cw ?_ |refine S2 ?_|(refine T6 ?_ ?_<;>intro h<;>try exact V1 h)|intro el nX nY|intro el nX|exact T4|refine T5 ?_ ?_|intro ex)<;>try conv=>whnf)
  all_goals first
   |(exfalso;omega)
   |exact A0 rfl rfl
theorem PX(l:List AV)(h:DK Tryz.prog Tryz.f7.params.toList l):A3 Tryz.prog 7 l (.b true):=by
 obtain⟨a1,r1,rfl,h1,rfl⟩:=h
 obtain⟨l,hl,rfl⟩:=NT h1
 exact PL l hl
theorem Ue(l:List UInt8)(hl:l.length≤maxLen):A3 Tryz.prog 9 [.sl 1 (l.map N9)] (.b true):=by
 unfold maxLen at hl
 have hL:(l.take 400).length≤400:=List.length_take_le _ _
 have pX:=HX l (by omega)
 generalize l.take 400=t at *
 have tl:=FT t 0 8 hL (by omega) (by omega)
 obtain⟨hd,hX⟩:=Ki t 0 (most:=8) (by omega) (by omega)
 generalize EJ t 0 8=W at *
 obtain⟨⟨s,rows,X⟩,a1⟩:=W
 dsimp only at tl hd hX
 have tH:=IL t a1 s hd hL
 have hA:=MW hd t a1
 generalize hK:EH t s a1=K at *
 obtain⟨⟨D,M,C⟩,a2⟩:=K
 dsimp only at tH hA
 have zr:=cl hd t a1
 rw[hK]at zr
 dsimp only at zr
 obtain⟨A,Y,N,t1,e1,t2,e2,t3,e3,⟨pH,oM,pT⟩,oy⟩:=fe hd hX hA.dims hA.cnd zr
 have m1:A3 Tryz.prog 16 [sA s,f4 X,.sl 2 (D.map B6),.i (-1),OD] (.tup [.agg [.sl 2 (D.map B6),.i (-1),.sl 7 (A.map L8)],.i 0]):=by
  have:=d6 s X D (-1) EK
  rw[t1,e1]at this
  exact AW this ⟨.refl _,.refl _,.refl _,.refl _,MK,trivial⟩
 have m2:A3 Tryz.prog 16 [sA s,f4 X,.sl 2 (D.map B6),.i (-1),E0 C] (.tup [.agg [.sl 2 (D.map B6),.i (-1),.sl 7 (Y.map L8)],.i 0]):=by
  have:=d6 s X D (-1) C
  rw[t2,e2]at this
  exact this
 have m3:A3 Tryz.prog 16 [sA s,f4 X,.sl 2 (D.map B6),.i (-1),.agg [.i 7,.i 0,.i 0,.i 0,.i 0,.sl 6 [J2 C]]] (.tup [.agg [.sl 2 (D.map B6),.i (-1),.sl 7 (N.map L8)],.i 0]):=by
  have:=d6 s X D (-1) (.mk 7 0 0 0 0 [C])
  rw[t3,e3,←mB]at this
  exact this
 have hh:=fun (o:F1) (v:Int)=>Dq o.rows v
 clear t1 e1 t2 e2 t3 e3
 refine C1 Tryz.func9 143 fun nd E h0=>?_
 clear nd
 repeat'((first|refine S8 [] [] pX rfl rfl rfl rfl rfl trivial rfl rfl rfl rfl rfl ?_|refine nc [0] [0] tl rfl rfl rfl ⟨rfl,trivial⟩ ?_|refine nc [0] [0] tH rfl rfl rfl ⟨rfl,trivial⟩ ?_ |refine S2 ?_|(refine T6 ?_ ?_<;>intro h<;>try exact V1 h)|intro el nX nY|intro el nX|exact T4|refine T5 ?_ ?_|intro ex|refine A1 m1 ?_|refine A1 m2 ?_|refine A1 m3 ?_)<;>try conv=>whnf)
 all_goals first
  |(exfalso;omega)
  |skip
 clear pX tl tH m1 m2 m3
 refine B2 (ι:=Nat) (fun k=>⟨[(12,.iptr [.sl 2 (D.map B6),.i (-1),.sl 7 (Y.map L8)]),(14,.iptr [.sl 2 (D.map B6),.i (-1),.sl 7 (N.map L8)]),(91,.sl 7 (A.map L8)),(92,.i A.length),(93,.i k)],0,[]⟩) (fun k=>k≤A.length) (fun k=>A.length-k) 0 (Nat.zero_le _)
  (A6 h0) (fun k hk=>?_)
 by_cases no:k<A.length
 ·obtain⟨a,ha⟩:∃a,A[k]?=some a:=⟨_,List.getElem?_eq_getElem no⟩
  obtain⟨y,hy⟩:∃y,Y[k]?=some y:=⟨_,List.getElem?_eq_getElem (by omega)⟩
  obtain⟨n,hn⟩:∃n,N[k]?=some n:=⟨_,List.getElem?_eq_getElem (by omega)⟩
  obtain⟨g1,ba,bb,bn,g2⟩:=oy k a y n ha hy hn
  have wP:A[((k:Nat):Int).toNat]?=some a:=ha
  have tY:Y[((k:Nat):Int).toNat]?=some y:=hy
  have sC:N[((k:Nat):Int).toNat]?=some n:=hn
  have b1:=ba.cnt
  have b2:=bb.cnt
  have b3:=bn.cnt
  have b4:=bb.rows
  clear ba bb bn oy
  repeat'((first|(refine A2 (x:=a) wP (by omega) ?_)|(refine A2 (x:=y) tY (by omega) ?_)|(refine A2 (x:=n) sC (by omega) ?_)|(refine B5 ?_ ?_;kernel_rfl) |refine S2 ?_|(refine T6 ?_ ?_<;>intro h<;>try exact V1 h)|intro el nX nY|intro el nX|exact T4|refine T5 ?_ ?_|intro ex)<;>try conv=>whnf)
  all_goals first
   |(exfalso;omega)
   |skip
  refine B2 (ι:=Nat) (fun j=>⟨[(12,.iptr [.sl 2 (D.map B6),.i (-1),.sl 7 (Y.map L8)]),(14,.iptr [.sl 2 (D.map B6),.i (-1),.sl 7 (N.map L8)]),(16,.i k),(17,.iptr (L8 a)),(91,.sl 7 (A.map L8)),(92,.i A.length),(93,.i k),(119,.sl 1 (y.rows.map wA)),(120,.i y.rows.length),(121,.i j)],0,[]⟩) (fun j=>j≤y.rows.length) (fun j=>y.rows.length-j) 0 (Nat.zero_le _)
   (A6 h0) (fun j hj=>?_)
  by_cases re:j<y.rows.length
  ·obtain⟨key,qC⟩:∃key,y.rows[j]?=some key:=⟨_,List.getElem?_eq_getElem re⟩
   have uI:y.rows[((j:Nat):Int).toNat]?=some key:=qC
   obtain⟨q1,q2⟩:=g2 key (List.mem_of_getElem? qC)
   have c1:=hh n key
   have c2:=hh a key
   rw[q1]at c1
   rw[q2]at c2
   repeat'((first|(refine A2 (x:=key) uI (by omega) ?_)|(refine A2 (x:=n) sC (by omega) ?_)|refine A1 c1 ?_|refine A1 c2 ?_|(refine B5 ?_ ?_;kernel_rfl) |refine S2 ?_|(refine T6 ?_ ?_<;>intro h<;>try exact V1 h)|intro el nX nY|intro el nX|exact T4|refine T5 ?_ ?_|intro ex)<;>try conv=>whnf)
   all_goals first
    |(exfalso;omega)
    |exact⟨j+1,by omega,by omega,A6 h0⟩
  ·repeat'((first|refine S2 ?_|(refine T6 ?_ ?_<;>intro h<;>try exact V1 h)|intro el nX nY|intro el nX|exact T4|refine T5 ?_ ?_|intro ex)<;>try conv=>whnf)
   all_goals first
    |(exfalso;omega)
    |exact⟨k+1,by omega,by omega,A6 h0⟩
 ·repeat'((first|refine A1 Cw ?_ |refine S2 ?_|(refine T6 ?_ ?_<;>intro h<;>try exact V1 h)|intro el nX nY|intro el nX|exact T4|refine T5 ?_ ?_|intro ex)<;>try conv=>whnf)
  all_goals first
   |(exfalso;omega)
   |exact A0 rfl rfl
theorem Vw(l:List AV)(h:DK Tryz.prog Tryz.f9.params.toList l):A3 Tryz.prog 9 l (.b true):=by
 obtain⟨a1,r1,rfl,h1,rfl⟩:=h
 obtain⟨l,hl,rfl⟩:=NT h1
 exact Ue l hl
theorem LU(l:List UInt8)(hl:l.length≤maxLen):A3 Tryz.prog 10 [.sl 1 (l.map N9)] (.b true):=by
 unfold maxLen at hl
 have hL:(l.take 400).length≤400:=List.length_take_le _ _
 have pX:=HX l (by omega)
 generalize l.take 400=t at *
 have tl:=FT t 0 9 hL (by omega) (by omega)
 obtain⟨hd,hX⟩:=Ki t 0 (most:=9) (by omega) (by omega)
 generalize EJ t 0 9=W at *
 obtain⟨⟨s,rows,X⟩,a1⟩:=W
 dsimp only at tl hd hX
 have tH:=IL t a1 s hd hL
 have hA:=MW hd t a1
 generalize EH t s a1=K at *
 obtain⟨⟨D,M,C⟩,a2⟩:=K
 dsimp only at tH hA
 have uK:=BS t a2 s hd hL
 have hmo:=XB hd t a2
 generalize S6 t a2 s 3=Q at *
 obtain⟨m,a3⟩:=Q
 dsimp only at uK hmo
 obtain⟨cells,hT,hE,nz,hcw⟩:=nL hd hX hA.dims hmo hA.cnd
 have h1:A3 Tryz.prog 16 [sA s,f4 X,.sl 2 (D.map B6),.i m,E0 C] (.tup [.agg [.sl 2 (D.map B6),.i m,.sl 7 (cells.map L8)],.i 0]):=by
  have:=d6 s X D m C
  rw[hT,hE]at this
  exact this
 have hh:=fun (o:F1) (v:Int)=>Dq o.rows v
 have wD:=hX.len
 clear hT hE
 have hxr:Nl X=[.str X.prj,.i X.ver,.sl 2 (X.picks.map B6),.sl 1 (X.rows.map G3)]:=rfl
 generalize X.rows=RW at *
 refine C1 Tryz.func10 126 fun nd E h0=>?_
 clear nd
 repeat'((first|refine S8 [] [] pX rfl rfl rfl rfl rfl trivial rfl rfl rfl rfl rfl ?_|refine nc [0] [0] tl rfl rfl rfl ⟨rfl,trivial⟩ ?_|refine nc [0] [0] tH rfl rfl rfl ⟨rfl,trivial⟩ ?_|refine nc [0] [0] uK rfl rfl rfl ⟨rfl,trivial⟩ ?_ |refine S2 ?_|(refine T6 ?_ ?_<;>intro h<;>try exact V1 h)|intro el nX nY|intro el nX|exact T4|refine T5 ?_ ?_|intro ex|refine A1 h1 ?_)<;>try conv=>whnf)
 all_goals first
  |(exfalso;omega)
  |skip
 clear pX tl tH uK h1
 refine B2 (ι:=Nat) (fun k=>⟨[(5,.iptr [.str X.prj,.i X.ver,.sl 2 (X.picks.map B6),.sl 1 (RW.map G3)]),(10,.i m),(52,.sl 7 (cells.map L8)),(53,.i cells.length),(54,.i k)],0,[]⟩) (fun k=>k≤cells.length) (fun k=>cells.length-k) 0 (Nat.zero_le _)
  (B3 h0 rfl ⟨congrArg (fun z:List AV=>some (AV.iptr z)) hxr,rfl,rfl,rfl,rfl,trivial⟩ trivial rfl rfl rfl) (fun k hk=>?_)
 by_cases no:k<cells.length
 ·obtain⟨c,hc⟩:∃c,cells[k]?=some c:=⟨_,List.getElem?_eq_getElem no⟩
  have pf:cells[((k:Nat):Int).toNat]?=some c:=hc
  obtain⟨K,hz,vt,rq,nl,ww,hcb⟩:=hcw k c hc
  obtain⟨b1,b2,b3,b4,b5,b6⟩:=hcb
  have ym:(K 0).1=0∧(K 0).2.1=0∧(K 0).2.2=0:=by rw[hz];exact⟨rfl,rfl,rfl⟩
  repeat'((first|(refine A2 (x:=c) pf (by omega) ?_) |refine S2 ?_|(refine T6 ?_ ?_<;>intro h<;>try exact V1 h)|intro el nX nY|intro el nX|exact T4|refine T5 ?_ ?_|intro ex)<;>try conv=>whnf)
  all_goals first
   |(exfalso;omega)
   |skip
  refine B2 (ι:=Nat) (fun j=>⟨[(5,.iptr [.str X.prj,.i X.ver,.sl 2 (X.picks.map B6),.sl 1 (RW.map G3)]),(10,.i m),(14,.iptr (L8 c)),(15,.i (K j).1),(16,.i (K j).2.1),(17,.i (K j).2.2),(52,.sl 7 (cells.map L8)),(53,.i cells.length),(54,.i k),(59,.sl 1 (RW.map G3)),(60,.i RW.length),(61,.i j)],0,[]⟩) (fun j=>j≤RW.length) (fun j=>RW.length-j) 0 (Nat.zero_le _)
   (B3 h0 rfl ⟨rfl,rfl,rfl,congrArg (fun z:Int=>some (AV.i z)) ym.1.symm,congrArg (fun z:Int=>some (AV.i z)) ym.2.1.symm,congrArg (fun z:Int=>some (AV.i z)) ym.2.2.symm,rfl,rfl,rfl,rfl,rfl,rfl,trivial⟩ trivial rfl rfl rfl) (fun j hj=>?_)
  clear ym hz
  have hbj:=rq j hj
  by_cases re:j<RW.length
  ·obtain⟨r,hr⟩:∃r,RW[j]?=some r:=⟨_,List.getElem?_eq_getElem re⟩
   have oq:RW[((j:Nat):Int).toNat]?=some r:=hr
   obtain⟨key,v,rE,hv,ux,oP⟩:=nl j r hr
   have uu:r[((0:Int)).toNat]?=some key:=rE
   have sW:=D4 hv
   have hrl0:=D4 rE
   have wb:=hh c key
   unfold cQ at oP
   generalize hKJ:K j=kj at *
   obtain⟨z1,z2,z3⟩:=kj
   dsimp only at hbj oP ⊢
   clear nl rq vt hh
   cases hb:(c.rows.any fun y=>decide (y=key))with
   |false =>
    rw[hb]at wb
    rw[if_neg (by rw[hb];decide)]at oP
    repeat'((first|(refine A2 (x:=r) oq (by omega) ?_)|(refine A2 (x:=key) uu (by omega) ?_)|refine A1 wb ?_|(refine B5 ?_ ?_;kernel_rfl) |refine S2 ?_|(refine T6 ?_ ?_<;>intro h<;>try exact V1 h)|intro el nX nY|intro el nX|exact T4|refine T5 ?_ ?_|intro ex)<;>try conv=>whnf)
    all_goals first
     |(exfalso;omega)
     |(refine⟨j+1,by omega,by omega,?_⟩;rw[oP];exact A6 h0)
   |true =>
    rw[hb]at wb
    rw[if_pos hb]at oP
    by_cases q1:z2<Ae v
    ·rw[if_pos q1]at oP
     unfold Ae at q1 oP
     repeat'((first|(refine A2 (x:=r) oq (by omega) ?_)|(refine A2 (x:=key) uu (by omega) ?_)|(refine A2 (x:=v) hv (by omega) ?_)|refine A1 wb ?_|(refine B5 ?_ ?_;kernel_rfl) |refine S2 ?_|(refine T6 ?_ ?_<;>intro h<;>try exact V1 h)|intro el nX nY|intro el nX|exact T4|refine T5 ?_ ?_|intro ex)<;>try conv=>whnf)
     all_goals first
      |(exfalso;omega)
      |(refine⟨j+1,by omega,by omega,?_⟩;rw[oP];exact A6 h0)
    ·rw[if_neg q1]at oP
     by_cases q2:z3<Ae v
     ·rw[if_pos q2]at oP
      unfold Ae at q1 q2 oP
      repeat'((first|(refine A2 (x:=r) oq (by omega) ?_)|(refine A2 (x:=key) uu (by omega) ?_)|(refine A2 (x:=v) hv (by omega) ?_)|refine A1 wb ?_|(refine B5 ?_ ?_;kernel_rfl) |refine S2 ?_|(refine T6 ?_ ?_<;>intro h<;>try exact V1 h)|intro el nX nY|intro el nX|exact T4|refine T5 ?_ ?_|intro ex)<;>try conv=>whnf)
      all_goals first
       |(exfalso;omega)
       |(refine⟨j+1,by omega,by omega,?_⟩;rw[oP];exact A6 h0)
     ·rw[if_neg q2]at oP
      unfold Ae at q1 q2 oP
      repeat'((first|(refine A2 (x:=r) oq (by omega) ?_)|(refine A2 (x:=key) uu (by omega) ?_)|(refine A2 (x:=v) hv (by omega) ?_)|refine A1 wb ?_|(refine B5 ?_ ?_;kernel_rfl) |refine S2 ?_|(refine T6 ?_ ?_<;>intro h<;>try exact V1 h)|intro el nX nY|intro el nX|exact T4|refine T5 ?_ ?_|intro ex)<;>try conv=>whnf)
      all_goals first
       |(exfalso;omega)
       |(refine⟨j+1,by omega,by omega,?_⟩;rw[oP];exact A6 h0)
  ·have xj:j=RW.length:=by omega
   subst xj
   rw[vt]
   dsimp only
   repeat'((first|(refine B5 ?_ ?_;kernel_rfl) |refine S2 ?_|(refine T6 ?_ ?_<;>intro h<;>try exact V1 h)|intro el nX nY|intro el nX|exact T4|refine T5 ?_ ?_|intro ex)<;>try conv=>whnf)
   all_goals first
    |(exfalso;omega)
    |(exfalso;dsimp only at *;omega)
    |exact⟨k+1,by omega,by omega,A6 h0⟩
 ·repeat'((first|refine A1 Cw ?_ |refine S2 ?_|(refine T6 ?_ ?_<;>intro h<;>try exact V1 h)|intro el nX nY|intro el nX|exact T4|refine T5 ?_ ?_|intro ex)<;>try conv=>whnf)
  all_goals first
   |(exfalso;omega)
   |exact A0 rfl rfl
theorem OI(l:List AV)(h:DK Tryz.prog Tryz.f10.params.toList l):A3 Tryz.prog 10 l (.b true):=by
 obtain⟨a1,r1,rfl,h1,rfl⟩:=h
 obtain⟨l,hl,rfl⟩:=NT h1
 exact LU l hl
end Go.Proofs.YtiphlhoclaogjaaGreatDoor
