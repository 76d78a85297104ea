/- Chapter 18: tables: the program. -/
import Derived.Test.YtiphlhoclaogjaaGreatDoorQTb2
import Derived.Test.YtiphlhoclaogjaaGreatDoorQAvTy
import Derived.Test.YtiphlhoclaogjaaGreatDoorQE3
import Derived.Test.YtiphlhoclaogjaaGreatDoorQCe2
import Derived.Test.YtiphlhoclaogjaaGreatDoorQTa0
import Derived.Test.YtiphlhoclaogjaaGreatDoorQTb1
import Derived.Test.YtiphlhoclaogjaaGreatDoorQCm1
import Derived.Test.YtiphlhoclaogjaaGreatDoorQCm2
import Derived.Test.YtiphlhoclaogjaaGreatDoorQCe1
import Derived.Test.YtiphlhoclaogjaaGreatDoorQDr8
import Derived.Test.YtiphlhoclaogjaaGreatDoorQTa2
import Derived.Test.YtiphlhoclaogjaaGreatDoorQQn0
set_option linter.unusedVariables false
set_option linter.unnecessarySimpa false
set_option linter.unusedSimpArgs false
set_option maxHeartbeats 64000000
namespace Go.Proofs.YtiphlhoclaogjaaGreatDoor
open Go Go.Av
attribute [local irreducible] C7 B1 D1 C8 DQ D0 C6 St.le A3 B8
set_option maxRecDepth 100000
theorem IA{s:A4}{x:H6}{dims:List Pk}{mea:Int}{cnd:B0}(h:¬i6 s x dims mea cnd=0):Cv s x dims mea cnd=⟨[],0,[]⟩:=if_neg h
theorem d6(s:A4)(x:H6)(dims:List Pk)(mea:Int)(cnd:B0):A3 Tryz.prog 16 [sA s,f4 x,.sl 2 (dims.map B6),.i mea,E0 cnd] (.tup [Ay (Cv s x dims mea cnd),.i (i6 s x dims mea cnd)]):=by
 by_cases e1:¬R2 s x=0
 ·have hE:i6 s x dims mea cnd=R2 s x:=if_pos e1
  rw[IA (by rw[hE];exact e1),hE]
  exact jM s x dims mea cnd e1
 have e1:=Decidable.of_not_not e1
 by_cases e2:¬O3 s (AD dims mea cnd)=0
 ·have hE:i6 s x dims mea cnd=O3 s (AD dims mea cnd):=by unfold i6;rw[if_neg (fun h=>h e1),if_pos e2]
  rw[IA (by rw[hE];exact e2),hE]
  exact jN s x dims mea cnd e1 e2
 have e2:=Decidable.of_not_not e2
 cases e3:z4 x.picks (Bl s (Ct dims mea cnd))with
 |false =>
  have hE:i6 s x dims mea cnd=23:=by unfold i6;rw[if_neg (fun h=>h e1),if_neg (fun h=>h e2),if_pos e3]
  rw[IA (by rw[hE];decide),hE]
  exact jO s x dims mea cnd e1 e2 e3
 |true =>
  have hE:i6 s x dims mea cnd=if (Y0 s dims [[]]).isSome=false then 1 else 0:=by unfold i6;rw[if_neg (fun h=>h e1),if_neg (fun h=>h e2),if_neg (by rw[e3];decide)]
  cases hL:Y0 s dims [[]]with
  |none =>
   rw[hL]at hE
   have hE:i6 s x dims mea cnd=1:=hE
   rw[IA (by rw[hE];decide),hE]
   exact jP s x dims mea cnd e1 e2 e3 hL
  |some L =>
   rw[hL]at hE
   have hE:i6 s x dims mea cnd=0:=hE
   have hT:Cv s x dims mea cnd=⟨dims,mea,U5 s x dims mea L (R3 s x cnd (V7 mea))⟩:=by unfold Cv;rw[if_pos hE,hL];rfl
   rw[hT,hE]
   by_cases hm:0≤mea
   ·exact lk s x dims mea cnd L e1 e2 e3 hL hm
   ·exact lj s x dims mea cnd L e1 e2 e3 hL hm
end Go.Proofs.YtiphlhoclaogjaaGreatDoor
namespace Go.Av
open Go Go.RowKit
theorem Vn{P:Program}{f m:Nat}{args:List AV}{r:AV}(h:B8 P f 0 [] args m [] r)(hc:J1 r=true):A3 P f args r:=by
 refine⟨h.1,fun X w vs hX oa hl qf=>?_⟩
 have ns:∀θ:Th,∀k,¬owned θ [] k:=fun θ k ⟨i,b,hi,_⟩=>by cases hi
 refine Calls.mono (h.2 X ⟨fun _=>undef,fun _ _=>none⟩ w vs hX (oa.mono (fun k _ h=>h.elim id fun h=>(ns _ k h).elim) fun _ _ _=>rfl) ⟨(fun i b hi=>by cases hi),(fun i j b b' k hi=>by cases hi),(fun i b k hi=>by cases hi)⟩ hl fun j a v hj hv=>.im ((qf j a v hj hv).mono (fun _ _ _=>rfl) fun k _ hu=>?_)) ?_
 ·rcases hu with hu|⟨i,b,hi,_⟩
  ·exact hu
  ·cases hi
 ·rintro e w' ⟨⟨v,θ',rfl,hv,ri,nh,hθ⟩,sS,qY,rV,np,pE⟩
  refine⟨v,rfl,((S3 hc).im hv).mono (fun _ _ _=>rfl) fun k _ hu=>.inl hu,sS,qY,rV,np,fun k hk=>pE k hk (ns _ k)⟩
end Go.Av
namespace Go.Proofs.YtiphlhoclaogjaaGreatDoor
open Go Go.Av
attribute [local irreducible] C7 B1 D1 C8 DQ D0 C6 St.le A3 B8
set_option maxRecDepth 100000
theorem UR(s:A4)(x:H6)(cnd:B0)(nk:List Int):A3 Tryz.prog 24 [sA s,f4 x,E0 cnd,.sl 1 (nk.map wA)] (.sl 1 ((R3 s x cnd nk).map wA)) :=
 Vn (Lw (m2:=1) (hp2:=[]) (r2:=.sl 1 ((R3 s x cnd nk).map wA)) (GO s x cnd nk) rfl fun E h0=>A6 h0) rfl
def IB:H6:=⟨[112],0,[⟨1,1⟩],[[4,1],[9,2]]⟩
def AE:LP:=⟨[⟨1,1⟩],-1,[⟨[-1],2,0,0,0,0,[4,9]⟩,⟨[1],1,0,0,0,0,[4]⟩,⟨[2],1,0,0,0,0,[9]⟩]⟩
theorem fP:Cv Jm IB [⟨1,1⟩] (-1) PH=AE:=by kernel_rfl
theorem fQ:i6 Jm IB [⟨1,1⟩] (-1) PH=0:=by kernel_rfl
theorem fR:R3 Jm IB PH []=[0,1]:=by kernel_rfl
abbrev OD:AV:=.agg [.i 1,.i 0,.i 0,.i 0,.i 0,n7]
theorem MK:NL OD (E0 PH):=Do ⟨.refl _,.refl _,.refl _,.refl _,.refl _,.nil 6,trivial⟩
theorem Cw:A3 Tryz.prog 11 [] (.b true):=by
 have c1:=AW ((d6 Jm IB [⟨1,1⟩] (-1) PH).congr (show _=AV.tup [Ay AE,.i 0] by rw[fP,fQ])) (l':=[UN,f4 IB,.sl 2 [[.i 1,.i 1]],.i (-1),OD]) ⟨KV,.refl _,.refl _,.refl _,MK,trivial⟩
 have c2:=(Vj AE [2]).congr (congrArg AV.i (show _=2 by kernel_rfl))
 have c3:=AW ((EB Jm AE 2 0).congr (congrArg AV.b (show Nz AE 2 0=true by kernel_rfl))) (l':=[UN,Ay AE,.i 2,.i 0]) ⟨KV,.refl _,.refl _,.refl _,trivial⟩
 have c4:=AW ((EB Jm AE 0 2).congr (congrArg AV.b (show Nz AE 0 2=false by kernel_rfl))) (l':=[UN,Ay AE,.i 0,.i 2]) ⟨KV,.refl _,.refl _,.refl _,trivial⟩
 have c5:=AW ((UR Jm IB PH []).congr (congrArg (fun z:List Int=>AV.sl 1 (z.map wA)) fR)) (l':=[UN,f4 IB,OD,n7]) ⟨KV,.refl _,MK,.nil 1,trivial⟩
 have c7:=(OA [0,1] [0,1]).congr (congrArg AV.b (decide_eq_true rfl))
 obtain⟨d,m,cells,hT⟩:∃d m cells,AE=⟨d,m,cells⟩:=⟨_,_,_,rfl⟩
 have hT2:Ay AE=.agg [.sl 2 (d.map B6),.i m,.sl 7 (cells.map L8)]:=by rw[hT]
 obtain⟨x0,zJ,h0r,po⟩:∃x:F1,x.cnt=2∧x.rows=[4,9]∧cells[(0:Int).toNat]?=some x:=by
  have:cells=AE.cells:=by rw[hT]
  rw[this];exact⟨⟨[-1],2,0,0,0,0,[4,9]⟩,rfl,rfl,rfl⟩
 obtain⟨x2,h2c,qc⟩:∃x:F1,x.cnt=1∧cells[(2:Int).toNat]?=some x:=by
  have:cells=AE.cells:=by rw[hT]
  rw[this];exact⟨⟨[2],1,0,0,0,0,[9]⟩,rfl,rfl⟩
 have nz:cells.length=3:=by
  have:cells=AE.cells:=by rw[hT]
  rw[this];rfl
 rw[hT2]at c1 c2 c3 c4
 have c6:=(OA x0.rows [4,9]).congr (congrArg AV.b (decide_eq_true h0r))
 clear hT hT2
 refine C1 Tryz.func11 88 fun nd E h0=>?_
 clear nd
 repeat'((first|(refine A2 (x:=x0) po (by omega) ?_)|(refine A2 (x:=x2) qc (by omega) ?_)|refine A1 c1 ?_|refine A1 c2 ?_|refine A1 c3 ?_|refine A1 c4 ?_|refine A1 c5 ?_|refine A1 c6 ?_|refine A1 c7 ?_|(refine B5 ?_ ?_;kernel_rfl) |refine S2 ?_|(refine T6 ?_ ?_<;>intro h<;>try exact V1 h)|intro el nX nY|intro el nX|exact T4|refine T5 ?_ ?_|intro ex)<;>try conv=>whnf)
 all_goals first
  |exact A0 rfl rfl
  |(exfalso;omega)
theorem OE(s:A4)(c:B0)(v:Int)(ho:c.op=2∨c.op=3∨c.op=4)(h2:c.op=2→∃x lx,0≤c.col∧s.cols[c.col.toNat]?=some x∧0≤x.lst∧s.lists[x.lst.toNat]?=some lx):A3 Tryz.prog 186 [sA s,E0 c,.i v] (.i (Q9 s c v)):=by
 rw[G0]
 refine C1 Tryz.func186 46 fun nd E h0=>?_
 obtain⟨pH,oM,pT⟩:=Z7 (s:=s) (nd _ (by simp))
 clear nd
 unfold Q9
 by_cases qZ:c.op=2
 ·obtain⟨x,lx,g0,g1,g2,g3⟩:=h2 qZ
  rw[if_pos qZ,C0 g1,I3 g3]
  have wR:=LE lx.1 lx.2 v c.code (pT lx (List.mem_of_getElem? g3))
  repeat'((first|(refine A2 (x:=x) g1 (by omega) ?_)|(refine A2 (x:=lx) g3 (by omega) ?_)|refine A1 wR ?_|(refine B5 ?_ ?_;kernel_rfl) |refine S2 ?_|(refine T6 ?_ ?_<;>intro h<;>try exact V1 h)|intro el nX nY|intro el nX|exact T4|refine T5 ?_ ?_|intro ex)<;>try conv=>whnf)
  all_goals first
   |exact A0 rfl (congrArg AV.i (by rw[h];rfl))
 ·rw[if_neg qZ]
  repeat'((first|(refine B5 ?_ ?_;kernel_rfl) |refine S2 ?_|(refine T6 ?_ ?_<;>intro h<;>try exact V1 h)|intro el nX nY|intro el nX|exact T4|refine T5 ?_ ?_|intro ex)<;>try conv=>whnf)
  all_goals first
   |(exfalso;rcases ho with ho|ho|ho<;>contradiction)
   |(rw[if_pos (by omega)];refine A0 rfl (congrArg AV.i ?_);unfold GJ;first|(rw[decide_eq_true (by assumption)];rfl)|(rw[decide_eq_false (by assumption)];rfl))
   |(rw[if_neg (by omega),if_pos (by omega)];exact A0 rfl rfl)
   |(rw[if_neg (by omega),if_neg (by omega)];refine A0 rfl (congrArg AV.i ?_);unfold GJ;first|(rw[decide_eq_true (by omega)];rfl)|(rw[decide_eq_false (by omega)];rfl))
theorem Vo(c:B0):P2 c≤100000→A3 Tryz.prog 184 [E0 c] (.sl 6 ((X5 c).map J2)):=by
 refine O7 (p:=fun c=>P2 c≤100000→A3 Tryz.prog 184 [E0 c] (.sl 6 ((X5 c).map J2))) (fun c ih ht=>?_) c
 rw[DN]at ht
 rw[G0,En]
 refine C1 Tryz.func184 36 fun nd E h0=>?_
 have nZ:c.kids.length≤9223372036854775807:=by
  have:=((nd _ (List.mem_cons_self ..)).agg (.sl 6 (c.kids.map J2)) (by simp)).sl
  simpa using this
 clear nd
 repeat'((first|refine S2 ?_|(refine T6 ?_ ?_<;>intro h<;>try exact V1 h)|intro el nX nY|intro el nX|exact T4|refine T5 ?_ ?_|intro ex)<;>try conv=>whnf)
 all_goals first
  |(rw[if_pos (by omega)];refine A0 rfl ?_;rw[List.map_cons,J2,Ok];rfl)
  |skip
 rw[if_neg (by omega)]
 refine B2 (ι:=Nat) (fun k=>⟨[(1,.ref 0 0),(3,.row 1 0 (Z9 (c.kids.take k)).length),(4,.i k)],2,[(0,some (.box (P1 c))),(1,some (.row 29 6 0 ((Z9 (c.kids.take k)).map J2)))]⟩) (fun k=>k≤c.kids.length) (fun k=>c.kids.length-k) 0 (Nat.zero_le _)
  (C2 (K7 (d:=3) (e:=29) (sz:=6) rfl) (B3 h0 rfl ⟨rfl,rfl,rfl,trivial⟩ ⟨rfl,⟨0,rfl⟩,trivial⟩ rfl rfl rfl)) (fun k hk=>?_)
 have ob:=JM c.kids k
 repeat'((first|(refine A1 (ih _ (List.mem_of_getElem? (by assumption)) (by have:=HZ el (List.mem_of_getElem? nX);omega)) ?_)|(refine J0 ?_ ?_;(have q1:=Gh el;have q2:=HZ el (List.mem_of_getElem? nX);simp only[List.length_map];omega)) |refine S2 ?_|(refine T6 ?_ ?_<;>intro h<;>try exact V1 h)|intro el nX nY|intro el nX|exact T4|refine T5 ?_ ?_|intro ex)<;>try conv=>whnf)
 all_goals first
  |exact⟨k+1,by omega,by omega,B3 h0 rfl ⟨rfl,congrArg (fun z:Nat=>some (AV.row 1 0 z)) (by rw[Fk _ _ nX,List.length_append,List.length_map]),rfl,trivial⟩ ⟨rfl,⟨_,congrArg (D3.row 29 6 _) (by rw[Fk _ _ nX,List.map_append])⟩,trivial⟩ rfl rfl rfl⟩
  |exact A0 rfl (congrArg (fun z=>AV.sl 6 ((Z9 z).map J2)) (DL (by assumption)))
theorem US(a b:List Pk):A3 Tryz.prog 54 [.sl 2 (a.map B6),.sl 2 (b.map B6)] (.b (z4 b a)):=by
 refine C1 Tryz.func54 49 fun nd E h0=>?_
 have hla:a.length≤9223372036854775807:=by
  have:=(nd (.sl 2 (a.map B6)) (by simp)).sl
  simpa using this
 have uO:b.length≤9223372036854775807:=by
  have:=(nd (.sl 2 (b.map B6)) (by simp)).sl
  simpa using this
 clear nd
 repeat'((first|refine S2 ?_|(refine T6 ?_ ?_<;>intro h<;>try exact V1 h)|intro el nX nY|intro el nX|exact T4|refine T5 ?_ ?_|intro ex)<;>try conv=>whnf)
 refine B2 (ι:=Nat) (fun i=>⟨[(0,.sl 2 (a.map B6)),(1,.sl 2 (b.map B6)),(5,.i i)],0,[]⟩) (fun i=>Q1 (fun n=>!(b.any (z0 n))) a i) (fun i=>a.length-i) 0 (Q1.zero _ _)
  (A6 h0) (fun i hI=>?_)
 have hi:=hI.1
 repeat'((first|refine S2 ?_|(refine T6 ?_ ?_<;>intro h<;>try exact V1 h)|intro el nX nY|intro el nX|exact T4|refine T5 ?_ ?_|intro ex)<;>try conv=>whnf)
 ·obtain⟨n,hn⟩:∃n,a[i]?=some n:=⟨_,List.getElem?_eq_getElem (by omega)⟩
  refine B2 (ι:=Nat) (fun k=>⟨[(0,.sl 2 (a.map B6)),(1,.sl 2 (b.map B6)),(5,.i i),(6,.b ((b.take k).any (z0 n))),(7,.i k)],0,[]⟩) (fun k=>k≤b.length) (fun k=>b.length-k) 0 (Nat.zero_le _)
   (A6 h0) (fun k hk=>?_)
  have oP:∀p,b[k]?=some p→(b.take (k+1)).any (z0 n)=((b.take k).any (z0 n) || z0 n p):=fun p hp=>by rw[I0 hp,List.any_append];simp
  generalize hf:(b.take k).any (z0 n)=f at *
  repeat'((first|(refine A2 (x:=n) hn (by omega) ?_)|(refine B5 ?_ ?_;kernel_rfl) |refine S2 ?_|(refine T6 ?_ ?_<;>intro h<;>try exact V1 h)|intro el nX nY|intro el nX|exact T4|refine T5 ?_ ?_|intro ex)<;>try conv=>whnf)
  all_goals first
   |(have e:(b.take (k+1)).any (z0 n)=decide (el.lev≥n.lev):=by
      rw[oP _ nX,(by assumption:f=false),Bool.false_or]
      exact decide_eq_decide.2 (by omega)
     exact⟨k+1,by omega,by omega,B3 h0 rfl ⟨rfl,rfl,rfl,congrArg (fun z=>some (AV.b z)) e.symm,rfl,trivial⟩ trivial rfl rfl rfl⟩)
   |(have e:(b.take (k+1)).any (z0 n)=false:=by
      rw[oP _ nX,(by assumption:f=false),Bool.false_or]
      exact decide_eq_false (by omega)
     exact⟨k+1,by omega,by omega,B3 h0 rfl ⟨rfl,rfl,rfl,congrArg (fun z=>some (AV.b z)) e.symm,rfl,trivial⟩ trivial rfl rfl rfl⟩)
   |(obtain⟨p,hp⟩:∃p,b[k]?=some p:=⟨_,List.getElem?_eq_getElem (by omega)⟩
     have e:(b.take (k+1)).any (z0 n)=true:=by rw[oP p hp,(by assumption:f=true),Bool.true_or]
     exact⟨k+1,by omega,by omega,B3 h0 rfl ⟨rfl,rfl,rfl,congrArg (fun z=>some (AV.b z)) e.symm,rfl,trivial⟩ trivial rfl rfl rfl⟩)
   |(have e:(!(b.any (z0 n)))=true:=by rw[←DL (l:=b) (k:=k) (by assumption),hf,(by assumption:f=false)];rfl
     have:=hI.hit hn e
     exact A0 rfl (congrArg AV.b (by unfold z4;rw[←this];rfl)))
   |(have e:(!(b.any (z0 n)))=false:=by rw[←DL (l:=b) (k:=k) (by assumption),hf,(by assumption:f=true)];rfl
     exact⟨i+1,hI.step hn e,by omega,A6 h0⟩)
 all_goals first
  |(have:=hI.done (by assumption)
    exact A0 rfl (congrArg AV.b (by unfold z4;rw[←this];rfl)))
def Cy(l:List UInt8)(s:A4):List Nat→List Pk×Nat→List Pk×Nat
 |[],x=>x
 |c::r,x=>Cy l s r (x.1++[⟨c,(B7 l x.2 (A8 s c+1)).1⟩],(B7 l x.2 (A8 s c+1)).2)
def W6(l:List UInt8)(a:Nat)(s:A4):List Pk×Nat :=
 if ((B7 l a 2).1:Int)=2-1 then Cy l s ((G4 s 2 s.cols.length).drop (B7 l (B7 l a 2).2 (G4 s 2 s.cols.length).length).1) ([],(B7 l (B7 l a 2).2 (G4 s 2 s.cols.length).length).2)
 else Cy l s (G4 s 2 s.cols.length) ([],(B7 l a 2).2)
theorem UT{s:A4}(hd:C3 s){c:Nat}(h:c∈G4 s 2 s.cols.length):0≤A8 s c∧A8 s c≤4:=by
 obtain⟨h1,h2⟩:=u3.1 h
 have hc:s.cols[c]?=some (s.cols[c]'h1):=List.getElem?_eq_getElem h1
 by_cases hz:c=0
 ·subst hz
  rw[show B4 s ((0:Nat):Int)=s.cols[0]'h1 from C0 (by simpa using hc)]at h2
  rcases hd.col hc with ⟨_,e⟩|⟨h,_⟩|⟨h,_⟩
  ·rw[e]at h2;cases h2
  ·omega
  ·omega
 ·obtain⟨n,h3,h4,_⟩:=hd.chain (i:=c) (by omega) hc
  omega
theorem ZL(l:List UInt8)(a:Nat)(s:A4)(hd:C3 s)(hl:l.length≤400):B8 Tryz.prog 41 1 (X0 l a) [.ref 0 0,sA s] 1 (X0 l (W6 l a s).2) (.sl 2 ((W6 l a s).1.map B6)):=by
 have hc:=FM s 2 (by have:=hd.lens;omega)
 have ob:=Hi s 2 s.cols.length
 have sc:=hd.lens
 have oA:=hd.two.1
 have ya:∀c∈G4 s 2 s.cols.length,0≤A8 s (c:Nat)∧A8 s (c:Nat)≤4:=fun c h=>UT hd h
 have r1:=Bg l a 2 hl (by omega)
 unfold W6
 have h2:=G1 l a (n:=2) (by omega)
 generalize B7 l a 2=q at *
 obtain⟨q1,q2⟩:=q
 dsimp only at r1 h2 ⊢
 generalize G4 s 2 s.cols.length=C at *
 have r2:=K0 l q2 C.length hl
 have h3:=G1 l q2 (n:=C.length) (by omega)
 generalize B7 l q2 C.length=r at *
 obtain⟨ra,rb⟩:=r
 dsimp only at r2 h3 ⊢
 have tB:=fun c:Nat=>X6 s c
 have oH:=fun b n=>K0 l b n hl
 generalize hZ:(if (q1:Int)=2-1 then Cy l s (C.drop ra) ([],rb)else Cy l s C ([],q2))=Z
 refine a8 Tryz.func41 42 fun E h0=>?_
 repeat'((first|refine A1 hc ?_|refine⟨F6 [0] [0] r1 rfl rfl rfl rfl rfl ⟨rfl,trivial⟩ rfl rfl rfl rfl rfl ?_⟩|refine⟨F6 [0] [0] r2 rfl rfl rfl rfl rfl ⟨rfl,trivial⟩ rfl rfl rfl rfl rfl ?_⟩ |refine S2 ?_|(refine T6 ?_ ?_<;>intro h<;>try exact V1 h)|intro el nX nY|intro el nX|exact T4|refine T5 ?_ ?_|intro ex)<;>try conv=>whnf)
 ·have hq:(q1:Int)=2-1:=by assumption
  rw[if_pos hq]at hZ
  have zf:List.drop (ra:Int).toNat (List.take ((C.map iA).length:Int).toNat (C.map iA))=(C.drop ra).map iA:=by rw[Int.toNat_natCast,Int.toNat_natCast,List.take_length,List.map_drop]
  have ql:∀c∈C.drop ra,c∈C:=fun c hc=>List.mem_of_mem_drop hc
  have hDl:(C.drop ra).length≤6:=by rw[List.length_drop];omega
  have hD:=hZ.symm
  generalize C.drop ra=D at *
  refine B2 (ι:=Nat×List Pk×Nat) (fun x=>⟨[(0,.ref 0 0),(3,.iptr (sL s)),(5,.row 2 0 x.2.1.length),(6,.sl 1 (D.map iA)),(18,.sl 1 (D.map iA)),(19,.i D.length),(20,.i x.1)],3,[(0,some (.box [.sl 1 (l.map N9),.i x.2.2])),(2,some (.row 81 2 0 (x.2.1.map B6)))]⟩)
   (fun x=>x.1≤D.length∧x.2.1.length≤x.1∧Z=Cy l s (D.drop x.1) x.2) (fun x=>D.length-x.1) (0,[],rb) ⟨Nat.zero_le _,Nat.zero_le _,hD⟩
   (C2 (K7 (d:=5) (e:=81) (sz:=2) rfl) (B3 h0 rfl ⟨rfl,rfl,rfl,congrArg (fun z=>some (AV.sl 1 z)) zf,congrArg (fun z=>some (AV.sl 1 z)) zf,congrArg (fun z:List (List AV)=>some (AV.i z.length)) (zf.trans (by rfl:D.map iA=D.map iA)) |>.trans (congrArg (fun z:Nat=>some (AV.i z)) (List.length_map _)),rfl,trivial⟩ ⟨rfl,⟨0,rfl⟩,trivial⟩ rfl rfl rfl)) (fun x hI=>?_)
  obtain⟨k,out,b⟩:=x
  obtain⟨hk,rp,hI⟩:=hI
  dsimp only at hk rp hI ⊢
  by_cases nf:k<D.length
  ·obtain⟨c,vc⟩:∃c,D[k]?=some c:=⟨_,List.getElem?_eq_getElem nf⟩
   have uR:=ya c (ql c (List.mem_of_getElem? vc))
   have r3:=oH b (A8 s c+1)
   have hf:=tB c
   rw[H1 vc,Cy]at hI
   dsimp only at hI
   generalize B7 l b (A8 s c+1)=u at *
   obtain⟨u1,u2⟩:=u
   dsimp only at r3 hI ⊢
   generalize A8 s c=fs at *
   repeat'((first|(refine A2 (x:=c) vc (by omega) ?_)|refine A1 hf ?_|refine⟨F6 [0] [0] r3 rfl rfl rfl rfl rfl ⟨rfl,trivial⟩ rfl rfl rfl rfl rfl ?_⟩|(refine G9 8 ?_;refine H9 (id:=8) ⟨[(0,.ref 0 0),(3,.iptr (sL s)),(5,.row 2 0 (out.length+1)),(6,.sl 1 (D.map iA)),(18,.sl 1 (D.map iA)),(19,.i D.length),(20,.i k)],3,[(0,some (.box [.sl 1 (l.map N9),.i u2])),(2,some (.row 81 2 0 ((out++[(⟨c,u1⟩:Pk)]).map B6)))]⟩ ?_ ?_) |refine S2 ?_|(refine T6 ?_ ?_<;>intro h<;>try exact V1 h)|intro el nX nY|intro el nX|exact T4|refine T5 ?_ ?_|intro ex)<;>try conv=>whnf)
   all_goals first
    |(exfalso;omega)
    |exact B3 h0 rfl ⟨rfl,rfl,rfl,rfl,rfl,rfl,rfl,trivial⟩ ⟨rfl,⟨_,congrArg (D3.row 81 2 _) (by rw[List.map_append];rfl)⟩,trivial⟩ rfl rfl rfl
    |exact⟨(k+1,out++[⟨c,u1⟩],u2),⟨by dsimp only;omega,by dsimp only;rw[List.length_append,List.length_singleton];omega,hI⟩,by dsimp only;omega,B3 h0 rfl ⟨rfl,rfl,congrArg (fun z:Nat=>some (AV.row 2 0 z)) (by rw[List.length_append];rfl),rfl,rfl,rfl,rfl,trivial⟩ ⟨rfl,⟨_,rfl⟩,trivial⟩ rfl rfl rfl⟩
  ·obtain rfl:k=D.length:=by omega
   rw[List.drop_length,Cy]at hI
   rw[hI]
   repeat'((first|refine S2 ?_|(refine T6 ?_ ?_<;>intro h<;>try exact V1 h)|intro el nX nY|intro el nX|exact T4|refine T5 ?_ ?_|intro ex)<;>try conv=>whnf)
   all_goals first
    |(exfalso;omega)
    |exact H7 (A6 h0)
 ·have hq:¬(q1:Int)=2-1:=by assumption
  rw[if_neg hq]at hZ
  have ql:∀c∈C,c∈C:=fun c hc=>hc
  have hDl:C.length≤6:=by omega
  have hD:=hZ.symm
  refine B2 (ι:=Nat×List Pk×Nat) (fun x=>⟨[(0,.ref 0 0),(3,.iptr (sL s)),(5,.row 2 0 x.2.1.length),(6,.sl 1 (C.map iA)),(18,.sl 1 (C.map iA)),(19,.i C.length),(20,.i x.1)],3,[(0,some (.box [.sl 1 (l.map N9),.i x.2.2])),(2,some (.row 81 2 0 (x.2.1.map B6)))]⟩)
   (fun x=>x.1≤C.length∧x.2.1.length≤x.1∧Z=Cy l s (C.drop x.1) x.2) (fun x=>C.length-x.1) (0,[],q2) ⟨Nat.zero_le _,Nat.zero_le _,hD⟩
   (C2 (K7 (d:=5) (e:=81) (sz:=2) rfl) (B3 h0 rfl ⟨rfl,rfl,rfl,rfl,rfl,rfl,rfl,trivial⟩ ⟨rfl,⟨0,rfl⟩,trivial⟩ rfl rfl rfl)) (fun x hI=>?_)
  obtain⟨k,out,b⟩:=x
  obtain⟨hk,rp,hI⟩:=hI
  dsimp only at hk rp hI ⊢
  by_cases nf:k<C.length
  ·obtain⟨c,vc⟩:∃c,C[k]?=some c:=⟨_,List.getElem?_eq_getElem nf⟩
   have uR:=ya c (ql c (List.mem_of_getElem? vc))
   have r3:=oH b (A8 s c+1)
   have hf:=tB c
   rw[H1 vc,Cy]at hI
   dsimp only at hI
   generalize B7 l b (A8 s c+1)=u at *
   obtain⟨u1,u2⟩:=u
   dsimp only at r3 hI ⊢
   generalize A8 s c=fs at *
   repeat'((first|(refine A2 (x:=c) vc (by omega) ?_)|refine A1 hf ?_|refine⟨F6 [0] [0] r3 rfl rfl rfl rfl rfl ⟨rfl,trivial⟩ rfl rfl rfl rfl rfl ?_⟩|(refine G9 8 ?_;refine H9 (id:=8) ⟨[(0,.ref 0 0),(3,.iptr (sL s)),(5,.row 2 0 (out.length+1)),(6,.sl 1 (C.map iA)),(18,.sl 1 (C.map iA)),(19,.i C.length),(20,.i k)],3,[(0,some (.box [.sl 1 (l.map N9),.i u2])),(2,some (.row 81 2 0 ((out++[(⟨c,u1⟩:Pk)]).map B6)))]⟩ ?_ ?_) |refine S2 ?_|(refine T6 ?_ ?_<;>intro h<;>try exact V1 h)|intro el nX nY|intro el nX|exact T4|refine T5 ?_ ?_|intro ex)<;>try conv=>whnf)
   all_goals first
    |(exfalso;omega)
    |exact B3 h0 rfl ⟨rfl,rfl,rfl,rfl,rfl,rfl,rfl,trivial⟩ ⟨rfl,⟨_,congrArg (D3.row 81 2 _) (by rw[List.map_append];rfl)⟩,trivial⟩ rfl rfl rfl
    |exact⟨(k+1,out++[⟨c,u1⟩],u2),⟨by dsimp only;omega,by dsimp only;rw[List.length_append,List.length_singleton];omega,hI⟩,by dsimp only;omega,B3 h0 rfl ⟨rfl,rfl,congrArg (fun z:Nat=>some (AV.row 2 0 z)) (by rw[List.length_append];rfl),rfl,rfl,rfl,rfl,trivial⟩ ⟨rfl,⟨_,rfl⟩,trivial⟩ rfl rfl rfl⟩
  ·obtain rfl:k=C.length:=by omega
   rw[List.drop_length,Cy]at hI
   rw[hI]
   repeat'((first|refine S2 ?_|(refine T6 ?_ ?_<;>intro h<;>try exact V1 h)|intro el nX nY|intro el nX|exact T4|refine T5 ?_ ?_|intro ex)<;>try conv=>whnf)
   all_goals first
    |(exfalso;omega)
    |exact H7 (A6 h0)
abbrev z8:AV:=.v (.slice none 0 0)
abbrev gU:AV:=.agg [.str [97,108,108,95,114,111,119,115],.str [115,114,99],.i 1,.i 0,.i 0,.i 0,.i 0,z8,.i 1,.i 1,.i 0,.sl 17 [[.str [113],.i 1,.i 1,.i 0,.i 0,.i 0,.i 0,z8,.sl 2 [[.i 1,.i 0]],.i (-1),z8,.i 0,.i 0,.i 0,.i 0,.i 0,z8]]]
def DU(s:A4):Nat→List Pk
 |0=>[]
 |k+1=>DU s k++[⟨(k:Int)+1,A8 s ((k:Int)+1)⟩]
theorem Bo(s:A4):∀k,(DU s k).length=k
 |0=>rfl
 |k+1=>by rw[DU,List.length_append,Bo s k];rfl
def K9(s:A4):List Pk:=DU s (s.cols.length-1)
theorem fS(s:A4)(hd:C3 s):A3 Tryz.prog 37 [sA s] (.tup [gU,.sl 2 ((K9 s).map B6)]):=by
 have sc:=hd.lens
 have hf:=fun c=>X6 s c
 unfold K9
 refine C1 Tryz.func37 33 fun nd E h0=>?_
 clear nd
 repeat'((first|refine S2 ?_|(refine T6 ?_ ?_<;>intro h<;>try exact V1 h)|intro el nX nY|intro el nX|exact T4|refine T5 ?_ ?_|intro ex)<;>try conv=>whnf)
 refine B2 (ι:=Nat) (fun k=>⟨[(1,.iptr (sL s)),(2,.ref 1 0),(4,.ref 2 0),(5,.row 3 0 (DU s k).length),(6,.i ((k:Int)+1))],4,[(1,some (.box [.str [],.str [],.i 0,.i 0,.i 0,.i 0,.i 0,z8,.i 0,.i 0,.i 0,z8])),(2,some (.box [.str [97,108,108,95,114,111,119,115],.str [115,114,99],.i 1,.i 0,.i 0,.i 0,.i 0,z8,.i 1,.i 1,.i 0,z8])),(3,some (.row 81 2 0 ((DU s k).map B6)))]⟩) (fun k=>k≤s.cols.length-1) (fun k=>s.cols.length-1-k) 0 (Nat.zero_le _)
  (C2 (K7 (d:=5) (e:=81) (sz:=2) rfl) (B3 h0 rfl ⟨rfl,rfl,rfl,rfl,rfl,trivial⟩ ⟨rfl,rfl,⟨0,rfl⟩,trivial⟩ rfl rfl rfl)) (fun k hk=>?_)
 have tA:=Bo s k
 have oH:DU s (k+1)=DU s k++[⟨(k:Int)+1,A8 s ((k:Int)+1)⟩]:=rfl
 have hen:k=s.cols.length-1→DU s (s.cols.length-1)=DU s k:=fun h=>by rw[h]
 have vL:=hf ((k:Int)+1)
 generalize DU s k=A at *
 generalize A8 s ((k:Int)+1)=fs at *
 repeat'((first|refine A1 vL ?_|(refine G9 7 ?_;refine H9 (id:=7) ⟨[(2,.ref 1 0),(4,.ref 2 0),(5,.row 3 0 A.length)],4,[(1,some (.box [.str [],.str [],.i 0,.i 0,.i 0,.i 0,.i 0,z8,.i 0,.i 0,.i 0,z8])),(2,some (.box [.str [97,108,108,95,114,111,119,115],.str [115,114,99],.i 1,.i 0,.i 0,.i 0,.i 0,z8,.i 1,.i 1,.i 0,.sl 17 [[.str [113],.i 1,.i 1,.i 0,.i 0,.i 0,.i 0,z8,.sl 2 [[.i 1,.i 0]],.i (-1),z8,.i 0,.i 0,.i 0,.i 0,.i 0,z8]]])),(3,some (.row 81 2 0 (A.map B6)))]⟩ ?_ ?_) |refine S2 ?_|(refine T6 ?_ ?_<;>intro h<;>try exact V1 h)|intro el nX nY|intro el nX|exact T4|refine T5 ?_ ?_|intro ex)<;>try conv=>whnf)
 all_goals first
  |(refine⟨k+1,by omega,by omega,?_⟩;rw[oH];exact B3 h0 rfl ⟨rfl,rfl,rfl,congrArg (fun z:Nat=>some (AV.row 3 0 z)) (by rw[List.length_append];rfl),congrArg (fun z:Int=>some (AV.i z)) (by omega),trivial⟩ ⟨rfl,rfl,⟨_,congrArg (D3.row 81 2 _) (by rw[List.map_append];rfl)⟩,trivial⟩ rfl rfl rfl)
  |(rw[hen (by omega)];exact r9 rfl rfl rfl (.refl _) rfl (.refl _) rfl)
  |exact A6 h0
def zC:B0:=.mk 0 0 0 0 0 []
structure PrD where
 l:List nV
 names:List (List UInt8)
 a:Nat
end Go.Proofs.YtiphlhoclaogjaaGreatDoor
