/- Chapter 8: the reference's reader: dimensions, columns, tables. -/
import Derived.Test.YtkcekccdcpmekaaGreatDoorQQs3
import Derived.Test.YtkcekccdcpmekaaGreatDoorQQr3
import Derived.Test.YtkcekccdcpmekaaGreatDoorQRp4
set_option linter.unusedVariables false
set_option linter.unnecessarySimpa false
set_option linter.unusedSimpArgs false
set_option maxHeartbeats 64000000
namespace Go.Proofs.YtkcekccdcpmekaaGreatDoor
open Go Go.Av
attribute [local irreducible] E8 B5 E5 E1 DQ E7 E9 St.le A4 A9
set_option maxRecDepth 100000
theorem KS(c:UInt8):∀t:List UInt8,Lib.index t [c]=if t.dropWhile (B3 c)=[]then -1 else ((t.takeWhile (B3 c)).length:Int)
 |[]=>rfl
 |b::r=>by
  unfold Lib.index
  by_cases h:b=c
  ·subst h
   have hn:B3 b b=false:=by unfold B3;simp
   rw[if_pos (by simp[List.isPrefixOf]),List.dropWhile_cons,List.takeWhile_cons,hn,if_neg (by simp),if_neg (by simp)]
   rfl
  ·have hn:B3 c b=true:=by unfold B3;simp[h]
   have hp:¬([c].isPrefixOf (b::r)=true):=by
    simp only[List.isPrefixOf,Bool.and_true]
    intro e
    exact h (beq_iff_eq.1 e).symm
   rw[if_neg hp,KS c r,List.dropWhile_cons,List.takeWhile_cons,hn,if_pos rfl,if_pos rfl]
   by_cases g:r.dropWhile (B3 c)=[]
   ·rw[if_pos g,if_pos g];rfl
   ·rw[if_neg g,if_neg g,if_neg (by simp<;>omega),List.length_cons];omega
theorem Sa(c:UInt8){t:List UInt8}(h:¬t.dropWhile (B3 c)=[]):t.take (t.takeWhile (B3 c)).length=t.takeWhile (B3 c)∧t.drop ((t.takeWhile (B3 c)).length+1)=(t.dropWhile (B3 c)).drop 1∧(t.takeWhile (B3 c)).length<t.length:=by
 have e:=Fo c t
 have hp:0<(t.dropWhile (B3 c)).length:=List.length_pos_iff.2 h
 generalize t.takeWhile (B3 c)=a at *
 generalize t.dropWhile (B3 c)=b at *
 subst e
 refine⟨List.take_left,?_,?_⟩
 ·rw[←List.drop_drop,List.drop_left]
 ·rw[List.length_append];omega
theorem Sb{α:Type}(l:List α)(k:Nat):List.drop ((0:Nat):Int).toNat (List.take (k:Int).toNat l)=l.take k:=rfl
theorem NC{α:Type}(l:List α)(k:Nat):List.drop ((k:Int)+1).toNat (List.take ((l.length:Nat):Int).toNat l)=l.drop (k+1):=by
 rw[Int.toNat_natCast,List.take_length,show ((k:Int)+1).toNat=k+1 by omega]
theorem PG(s:A5)(w:List UInt8)(hw:w.length≤20000):∃d:Pk,(V2 s w=false→d=Lb s w)∧A4 Tryz.prog 166 [sA s,.str w] (.tup [RC d,.b (!V2 s w)]):=by
 have c1:=Y9 w [47] (by omega)
 rw[KS]at c1
 by_cases h:w.dropWhile (B3 47)=[]
 ·rw[if_pos h]at c1
  have hb:V2 s w=true:=by unfold V2;rw[decide_eq_true h];rfl
  refine⟨⟨0,0⟩,(fun g=>by rw[hb]at g;cases g),?_⟩
  rw[hb]
  refine D0 Tryz.func166 40 fun ki E h0=>?_
  clear ki
  repeat'((first|refine A0 c1 ?_ |refine S2 ?_|(refine T6 ?_ ?_<;>intro h<;>try exact V1 h)|intro el ke kg|intro el ke|exact T4|refine T5 ?_ ?_|intro ex)<;>try conv=>whnf)
  all_goals first
   |exact K0 (rs:=[.cell 4 w6,.tmp 5]) (vs:=[_,_]) rfl ⟨H0 rfl rfl rfl (.refl _),⟨_,rfl,.refl _⟩,trivial⟩ rfl
   |(exfalso;omega)
 ·rw[if_neg h]at c1
  obtain⟨p1,p2,p3⟩:=Sa 47 h
  refine⟨Lb s w,fun _=>rfl,?_⟩
  have uL:=J7 (B3 47) w
  have h1:=BM s (List.drop ((0:Nat):Int).toNat (List.take (((w.takeWhile (B3 47)).length:Nat):Int).toNat w))
  rw[Sb,p1]at h1
  have h2:=An (List.drop ((((w.takeWhile (B3 47)).length:Nat):Int)+1).toNat (List.take ((w.length:Nat):Int).toNat w)) (by rw[NC,p2,List.length_drop];omega)
  rw[NC,p2]at h2
  have hb:V2 s w=(decide (F0 s (w.takeWhile (B3 47))<0) || (!(I5 ((w.dropWhile (B3 47)).drop 1)).2 || decide ((I5 ((w.dropWhile (B3 47)).drop 1)).1<0))):=by unfold V2;rw[decide_eq_false h];rfl
  have hd:Lb s w=⟨F0 s (w.takeWhile (B3 47)),(I5 ((w.dropWhile (B3 47)).drop 1)).1⟩:=rfl
  have r1:=Sb w (w.takeWhile (B3 47)).length
  rw[p1]at r1
  have r2:=NC w (w.takeWhile (B3 47)).length
  rw[p2]at r2
  rw[hb,hd]
  rw[←r1]at h1
  rw[←r2]at h2
  clear hb hd
  generalize hK:(w.takeWhile (B3 47)).length=K at *
  rw[r1]at h1
  rw[r2]at h2
  generalize F0 s (w.takeWhile (B3 47))=c at *
  generalize I5 ((w.dropWhile (B3 47)).drop 1)=V at *
  obtain⟨v,b⟩:=V
  dsimp only at h2 ⊢
  rw[←r1]at h1
  rw[←r2]at h2
  clear r1 r2 p1 p2
  cases b with
  |true =>
   refine D0 Tryz.func166 40 fun ki E h0=>?_
   clear ki
   repeat'((first|refine A0 c1 ?_|refine A0 h1 ?_|refine A0 h2 ?_ |refine S2 ?_|(refine T6 ?_ ?_<;>intro h<;>try exact V1 h)|intro el ke kg|intro el ke|exact T4|refine T5 ?_ ?_|intro ex)<;>try conv=>whnf)
   all_goals first
    |(exfalso;omega)
    |exact K0 (rs:=[.cell 4 w6,.tmp 5]) (vs:=[_,_]) rfl ⟨H0 rfl rfl rfl (.refl _),⟨_,rfl,.refl _⟩,trivial⟩ (congrArg (fun z:Bool=>AV.tup [RC ⟨c,v⟩,.b z]) (by by_cases hc:c<0<;>by_cases hv:v<0<;>first|(simp[hc,hv];done)|(simp[hc,hv];omega)|omega))
  |false =>
   refine D0 Tryz.func166 40 fun ki E h0=>?_
   clear ki
   repeat'((first|refine A0 c1 ?_|refine A0 h1 ?_|refine A0 h2 ?_ |refine S2 ?_|(refine T6 ?_ ?_<;>intro h<;>try exact V1 h)|intro el ke kg|intro el ke|exact T4|refine T5 ?_ ?_|intro ex)<;>try conv=>whnf)
   all_goals first
    |(exfalso;omega)
    |exact K0 (rs:=[.cell 4 w6,.tmp 5]) (vs:=[_,_]) rfl ⟨H0 rfl rfl rfl (.refl _),⟨_,rfl,.refl _⟩,trivial⟩ (congrArg (fun z:Bool=>AV.tup [RC ⟨c,v⟩,.b z]) (by simp))
theorem PT(s:A5)(ws:List (List UInt8))(lX:ws.length≤30000):A4 Tryz.prog 143 [sA s,.sl 1 (ws.map F6)] (.tup [.sl 1 ((G5 s ws).1.map wA),.b (G5 s ws).2]):=by
 generalize hC:G5 s ws=C
 obtain⟨C1,C2⟩:=C
 dsimp only
 unfold G5 at hC
 have hf:=fun w=>BM s w
 refine D0 Tryz.func143 31 fun ki E h0=>?_
 clear ki
 repeat'((first|refine S2 ?_|(refine T6 ?_ ?_<;>intro h<;>try exact V1 h)|intro el ke kg|intro el ke|exact T4|refine T5 ?_ ?_|intro ex)<;>try conv=>whnf)
 refine D5 (ι:=Nat) (fun k=>⟨[(1,.sl 1 (ws.map F6)),(2,.iptr (sL s)),(6,.row 1 0 (l8 s (ws.take k)).length),(7,.i k)],2,[(1,some (.row 3 1 0 ((l8 s (ws.take k)).map wA)))]⟩) (fun k=>k≤ws.length∧Bo s (ws.take k)=false) (fun k=>ws.length-k) 0 ⟨Nat.zero_le _,rfl⟩
  (B4 (Dq (d:=6) (e:=3) (sz:=1) rfl) (B0 h0 rfl ⟨rfl,rfl,rfl,rfl,trivial⟩ ⟨⟨0,rfl⟩,trivial⟩ rfl rfl rfl)) (fun k hI=>?_)
 obtain⟨hk,hI⟩:=hI
 have ku:=Fm hI
 rw[List.length_take]at ku
 by_cases kj:k<ws.length
 ·obtain⟨w,hw⟩:∃w,ws[k]?=some w:=⟨_,List.getElem?_eq_getElem kj⟩
  have h1:=hf w
  have li:=fun h=>Jc (s:=s) (l:=ws) (k:=k) (w:=w) hI hw h
  have nI:=fun h=>SB (s:=s) (l:=ws) hw h
  generalize F0 s w=c at *
  generalize l8 s (ws.take k)=A at *
  repeat'((first|(refine A2 (x:=w) hw (by omega) ?_)|refine A0 h1 ?_ |refine S2 ?_|(refine T6 ?_ ?_<;>intro h<;>try exact V1 h)|intro el ke kg|intro el ke|exact T4|refine T5 ?_ ?_|intro ex)<;>try conv=>whnf)
  all_goals first
   |(exfalso;omega)
   |(rw[if_pos (nI (by omega))]at hC;cases hC;exact K0 (rs:=[.tmp 4,.tmp 5]) (vs:=[_,_]) rfl ⟨⟨_,rfl,.nil 1⟩,⟨_,rfl,.refl _⟩,trivial⟩ rfl)
   |(obtain⟨q1,q2⟩:=li (by omega);exact⟨k+1,⟨by omega,q2⟩,by omega,by rw[q1];exact B0 h0 rfl ⟨rfl,rfl,congrArg (fun z:Nat=>some (AV.row 1 0 z)) (by rw[List.length_append];rfl),congrArg (fun z:Int=>some (AV.i z)) (by omega),trivial⟩ ⟨⟨_,congrArg (G1.row 3 1 _) (by rw[List.map_append];rfl)⟩,trivial⟩ rfl rfl rfl⟩)
 ·obtain rfl:k=ws.length:=by omega
  rw[List.take_length]at hI ku ⊢
  rw[if_neg (by rw[hI];simp)]at hC
  cases hC
  rw[show decide (0<ws.length)=decide (0<((l8 s ws).length:Int)) by rw[decide_eq_decide];omega]
  generalize l8 s ws=A at *
  clear hf hI
  repeat'((first|refine S2 ?_|(refine T6 ?_ ?_<;>intro h<;>try exact V1 h)|intro el ke kg|intro el ke|exact T4|refine T5 ?_ ?_|intro ex)<;>try conv=>whnf)
  all_goals first
   |(exfalso;omega)
   |exact K0 (rs:=[.tmp 4,.tmp 5]) (vs:=[_,_]) rfl ⟨⟨_,rfl,.refl _⟩,⟨_,rfl,.refl _⟩,trivial⟩ rfl
abbrev bp(nm:List UInt8)(f:A1):List AV:=[.str nm,.i 1,.i f.op,.i f.col,.i f.code,.i f.lo,.i f.hi,.sl 6 (f.kids.map C3),A6,.i 0,A6,.i 0,.i 0,.i 0,.i 0,.i 0,A6]
theorem PH{s:A5}{l:List (List UInt8)}{k:Nat}{w:List UInt8}(h:(l.take k).any (V2 s)=false)(hk:l[k]?=some w)(hw:V2 s w=false):BA s (l.take (k+1))=BA s (l.take k)++[Lb s w]∧(l.take (k+1)).any (V2 s)=false:=by
 have e:V2 s=W9 s:=funext (KP s)
 rw[e]at h hw ⊢
 rw[EF,EF,Yc hw]
 exact IC h hk hw
theorem PI{s:A5}{l:List (List UInt8)}{k:Nat}{w:List UInt8}(h:(l.take k).any (V2 s)=false)(hk:l[k]?=some w)(hw:V2 s w=true):BA s l=BA s (l.take k)∧l.any (V2 s)=true:=by
 have e:V2 s=W9 s:=funext (KP s)
 rw[e]at h hw ⊢
 rw[EF,EF]
 exact ID h hk hw
theorem Sc{s:A5}(l:List (List UInt8)):(BA s l).length≤l.length:=by rw[EF];exact KI l
theorem Le{s:A5}:∀{l:List (List UInt8)},l.any (V2 s)=false→(BA s l).length=l.length
 |[],_=>rfl
 |w::r,h=>by
  rw[List.any_cons,Bool.or_eq_false_iff]at h
  rw[BA,if_neg (by rw[h.1];simp),List.length_cons,List.length_cons,Le h.2]
theorem Yj(s:A5)(nm:List UInt8)(f:A1)(ws:List (List UInt8))(sI:ws.length≤30000)(lX:∀w∈ws,w.length≤20000)(hn:¬(2≤ws.length∧B1 ws (ws.length-2)=W7)):A4 Tryz.prog 141 [sA s,.agg (bp nm f),.sl 1 (ws.map F6)] (.tup [O9 (r9 s ⟨nm,1,f,[],0,[],zX⟩ ws).1,.b (r9 s ⟨nm,1,f,[],0,[],zX⟩ ws).2]):=by
 generalize hR:r9 s ⟨nm,1,f,[],0,[],zX⟩ ws=R
 unfold r9 at hR
 rw[if_neg hn]at hR
 unfold KN at hR
 dsimp only at hR
 have g2:2≤ws.length→ws[((ws.length:Int)-2).toNat]?=some (B1 ws (ws.length-2)):=fun h=>by rw[show ((ws.length:Int)-2).toNat=ws.length-2 by omega];exact E4 (by omega)
 generalize B1 ws (ws.length-2)=w2 at *
 generalize hl:ws=l at *
 refine D0 Tryz.func141 76 fun ki E h0=>?_
 clear ki
 repeat'((first|(refine A2 (x:=w2) (g2 (by omega)) (by omega) ?_) |refine S2 ?_|(refine T6 ?_ ?_<;>intro h<;>try exact V1 h)|intro el ke kg|intro el ke|exact T4|refine T5 ?_ ?_|intro ex)<;>try conv=>whnf)
 all_goals first
  |(exfalso;omega)
  |(exfalso;exact hn ⟨by omega,by assumption⟩)
  |skip
 all_goals clear g2 hn
 all_goals
  refine D5 (ι:=Nat) (fun k=>⟨[(2,.sl 1 (l.map F6)),(3,.iptr (sL s)),(4,.ref 1 0),(6,.ref 2 0),(9,.i k)],4,[(1,some (.box [.str nm,.i 1,.i f.op,.i f.col,.i f.code,.i f.lo,.i f.hi,.sl 6 (f.kids.map C3),.row 3 0 (BA s (l.take k)).length,.i (-1),A6,.i 0,.i 0,.i 0,.i 0,.i 0,A6])),(2,some (.box [.str [],.i 0,.i 0,.i 0,.i 0,.i 0,.i 0,A6,A6,.i 0,A6,.i 0,.i 0,.i 0,.i 0,.i 0,A6])),(3,some (.row w6 2 0 ((BA s (l.take k)).map N7)))]⟩) (fun k=>k≤l.length∧(l.take k).any (V2 s)=false) (fun k=>l.length-k) 0 ⟨Nat.zero_le _,rfl⟩
   (by refine B4 (U9 1 8 (e:=w6) (sz:=2) rfl rfl) ?_;exact B0 h0 rfl ⟨rfl,rfl,rfl,rfl,rfl,trivial⟩ ⟨rfl,rfl,⟨0,rfl⟩,trivial⟩ rfl rfl rfl) (fun k hI=>?_)
  obtain⟨hk,hI⟩:=hI
  have mK:=Sc (s:=s) (l.take k)
  rw[List.length_take]at mK
  by_cases kj:k<l.length
  ·obtain⟨w,nN⟩:∃w,l[k]?=some w:=⟨_,List.getElem?_eq_getElem kj⟩
   obtain⟨d,hd,h1⟩:=PG s w (lX w (List.mem_of_getElem? nN))
   have li:=PH (s:=s) hI nN
   have nR:=PI (s:=s) hI nN
   generalize BA s (l.take k)=A at *
   have rE:A.length≤30000:=by omega
   cases hb:V2 s w
   ·rw[hb]at h1
    obtain⟨q1,q2⟩:=li hb
    rw[←hd hb]at q1
    clear li nR hd hR
    repeat'((first|(refine A2 (x:=w) nN (by omega) ?_)|refine A0 h1 ?_|(refine B6 11 ?_;refine C5 (id:=11) ⟨[(2,.sl 1 (l.map F6)),(3,.iptr (sL s)),(4,.ref 1 0),(6,.ref 2 0),(9,.i k),(10,.iptr (N7 d)),(11,.b true)],4,[(1,some (.box [.str nm,.i 1,.i f.op,.i f.col,.i f.code,.i f.lo,.i f.hi,.sl 6 (f.kids.map C3),.row 3 0 (A).length,.i (-1),A6,.i 0,.i 0,.i 0,.i 0,.i 0,A6])),(2,some (.box [.str [],.i 0,.i 0,.i 0,.i 0,.i 0,.i 0,A6,A6,.i 0,A6,.i 0,.i 0,.i 0,.i 0,.i 0,A6])),(3,some (.row w6 2 0 ((A).map N7)))]⟩ ?_ ?_) |refine S2 ?_|(refine T6 ?_ ?_<;>intro h<;>try exact V1 h)|intro el ke kg|intro el ke|exact T4|refine T5 ?_ ?_|intro ex)<;>try conv=>whnf)
    all_goals first
     |(exfalso;omega)
     |exact B0 h0 rfl ⟨rfl,rfl,rfl,rfl,rfl,rfl,rfl,trivial⟩ ⟨rfl,rfl,⟨_,rfl⟩,trivial⟩ rfl rfl rfl
     |exact⟨k+1,⟨by omega,q2⟩,by omega,by rw[q1];exact B0 h0 rfl ⟨rfl,rfl,rfl,rfl,congrArg (fun z:Int=>some (AV.i z)) (by omega),trivial⟩ ⟨congrArg (fun z=>G1.box [.str nm,.i 1,.i f.op,.i f.col,.i f.code,.i f.lo,.i f.hi,.sl 6 (f.kids.map C3),.row 3 0 z,.i (-1),A6,.i 0,.i 0,.i 0,.i 0,.i 0,A6]) (by rw[List.length_append];rfl),rfl,⟨_,congrArg (G1.row w6 2 _) (by rw[List.map_append];rfl)⟩,trivial⟩ rfl rfl rfl⟩
   ·rw[hb]at h1
    obtain⟨q1,q2⟩:=nR hb
    rw[q1,q2,Bool.not_true,Bool.and_false]at hR
    clear li nR hd q1 q2
    repeat'((first|(refine A2 (x:=w) nN (by omega) ?_)|refine A0 h1 ?_|(refine B6 11 ?_;refine C5 (id:=11) ⟨[(2,.sl 1 (l.map F6)),(3,.iptr (sL s)),(4,.ref 1 0),(6,.ref 2 0),(9,.i k),(11,.b false)],4,[(1,some (.box [.str nm,.i 1,.i f.op,.i f.col,.i f.code,.i f.lo,.i f.hi,.sl 6 (f.kids.map C3),.row 3 0 (A).length,.i (-1),A6,.i 0,.i 0,.i 0,.i 0,.i 0,A6])),(2,some (.box [.str [],.i 0,.i 0,.i 0,.i 0,.i 0,.i 0,A6,A6,.i 0,A6,.i 0,.i 0,.i 0,.i 0,.i 0,A6])),(3,some (.row w6 2 0 ((A).map N7)))]⟩ ?_ ?_) |refine S2 ?_|(refine T6 ?_ ?_<;>intro h<;>try exact V1 h)|intro el ke kg|intro el ke|exact T4|refine T5 ?_ ?_|intro ex)<;>try conv=>whnf)
    all_goals first
     |(exfalso;omega)
     |exact B0 h0 rfl ⟨rfl,rfl,rfl,rfl,rfl,rfl,trivial⟩ ⟨rfl,rfl,⟨_,rfl⟩,trivial⟩ rfl rfl rfl
     |(rw[←hR];exact K0 (rs:=[.cell 6 D7,.tmp 7]) (vs:=[_,_]) rfl ⟨H0 rfl rfl rfl (AD ⟨nm,1,f,A,(-1),[],zX⟩ (.refl _) (.nil 1) (.nil 6)),⟨_,rfl,.refl _⟩,trivial⟩ rfl)
  ·obtain rfl:k=l.length:=by omega
   rw[List.take_length]at hI mK ⊢
   have vn:=Le hI
   rw[hI,Bool.not_false,Bool.and_true]at hR
   generalize BA s l=A at *
   have rE:A.length≤30000:=by omega
   clear hI
   repeat'((first|(refine B6 15 ?_;refine F5 (id:=15) (σ':=⟨[(4,.iptr [.str nm,.i 1,.i f.op,.i f.col,.i f.code,.i f.lo,.i f.hi,.sl 6 (f.kids.map C3),.sl 2 (A.map N7),.i (-1),A6,.i 0,.i 0,.i 0,.i 0,.i 0,A6]),(6,.ref 2 0)],4,[(2,some (.box [.str [],.i 0,.i 0,.i 0,.i 0,.i 0,.i 0,A6,A6,.i 0,A6,.i 0,.i 0,.i 0,.i 0,.i 0,A6]))]⟩) (B4 (B0 (σ':=⟨[(4,.ref 1 0),(6,.ref 2 0)],4,[(1,some (.box [.str nm,.i 1,.i f.op,.i f.col,.i f.code,.i f.lo,.i f.hi,.sl 6 (f.kids.map C3),.sl 2 (A.map N7),.i (-1),A6,.i 0,.i 0,.i 0,.i 0,.i 0,A6])),(2,some (.box [.str [],.i 0,.i 0,.i 0,.i 0,.i 0,.i 0,A6,A6,.i 0,A6,.i 0,.i 0,.i 0,.i 0,.i 0,A6]))]⟩) h0 rfl ⟨rfl,rfl,trivial⟩ ⟨rfl,rfl,trivial⟩ rfl rfl rfl) (B2 h0)) ?_;refine C5 (id:=15) ⟨[(6,.ref 2 0),(7,.b (decide (1≤l.length∧l.length≤3)))],4,[(2,some (.box [.str nm,.i 1,.i f.op,.i f.col,.i f.code,.i f.lo,.i f.hi,.sl 6 (f.kids.map C3),.sl 2 (A.map N7),.i (-1),A6,.i 0,.i 0,.i 0,.i 0,.i 0,A6]))]⟩ ?_ ?_) |refine S2 ?_|(refine T6 ?_ ?_<;>intro h<;>try exact V1 h)|intro el ke kg|intro el ke|exact T4|refine T5 ?_ ?_|intro ex)<;>try conv=>whnf)
   all_goals first
    |(exfalso;omega)
    |exact B0 h0 rfl ⟨rfl,congrArg (fun z:Bool=>some (AV.b z)) (by rw[eq_comm,decide_eq_false_iff_not];omega),trivial⟩ ⟨rfl,trivial⟩ rfl rfl rfl
    |exact B0 h0 rfl ⟨rfl,congrArg (fun z:Bool=>some (AV.b z)) (by rw[decide_eq_decide];omega),trivial⟩ ⟨rfl,trivial⟩ rfl rfl rfl
    |(rw[←hR];exact K0 (rs:=[.cell 6 D7,.tmp 7]) (vs:=[_,_]) rfl ⟨H0 rfl rfl rfl (AD ⟨nm,1,f,A,(-1),[],zX⟩ (.refl _) (.nil 1) (.nil 6)),⟨_,rfl,.refl _⟩,trivial⟩ rfl)
theorem WU(s:A5)(nm:List UInt8)(f:A1)(ws:List (List UInt8))(sI:ws.length≤30000)(lX:∀w∈ws,w.length≤20000)(h2:2≤ws.length)(hn:B1 ws (ws.length-2)=W7):A4 Tryz.prog 141 [sA s,.agg (bp nm f),.sl 1 (ws.map F6)] (.tup [O9 (r9 s ⟨nm,1,f,[],0,[],zX⟩ ws).1,.b (r9 s ⟨nm,1,f,[],0,[],zX⟩ ws).2]):=by
 generalize hR:r9 s ⟨nm,1,f,[],0,[],zX⟩ ws=R
 unfold r9 at hR
 rw[if_pos ⟨h2,hn⟩]at hR
 have g1:ws[((ws.length:Int)-1).toNat]?=some (B1 ws (ws.length-1)):=by rw[show ((ws.length:Int)-1).toNat=ws.length-1 by omega];exact E4 (by omega)
 have g2:ws[((ws.length:Int)-2).toNat]?=some W7:=by rw[←hn,show ((ws.length:Int)-2).toNat=ws.length-2 by omega];exact E4 (by omega)
 have hf:=BM s (B1 ws (ws.length-1))
 generalize F0 s (B1 ws (ws.length-1))=m at *
 generalize B1 ws (ws.length-1)=w1 at *
 have lD:(List.drop ((0:Nat):Int).toNat (List.take ((ws.length:Int)-2).toNat (ws.map F6)))=(ws.take (ws.length-2)).map F6:=by
  rw[show ((ws.length:Int)-2).toNat=ws.length-2 by omega,List.map_take];rfl
 have pv:(ws.take (ws.length-2)).length≤ws.length:=by rw[List.length_take];omega
 have vL:∀w∈ws.take (ws.length-2),w.length≤20000:=fun w hw=>lX w (List.mem_of_mem_take hw)
 generalize hl:ws.take (ws.length-2)=l at *
 by_cases hm:m<0
 ·rw[if_pos hm]at hR
  dsimp only at hR
  refine D0 Tryz.func141 76 fun ki E h0=>?_
  clear ki
  repeat'((first|(refine A2 (x:=W7) g2 (by omega) ?_)|(refine A2 (x:=w1) g1 (by omega) ?_)|refine A0 hf ?_|(refine B6 4 ?_;refine C5 (id:=4) ⟨[(2,.sl 1 (ws.map F6)),(3,.iptr (sL s)),(4,.ref 1 0),(6,.ref 2 0),(8,.i ws.length)],3,[(1,some (.box [.str nm,.i 1,.i f.op,.i f.col,.i f.code,.i f.lo,.i f.hi,.sl 6 (f.kids.map C3),A6,.i m,A6,.i 0,.i 0,.i 0,.i 0,.i 0,A6])),(2,some (.box [.str [],.i 0,.i 0,.i 0,.i 0,.i 0,.i 0,A6,A6,.i 0,A6,.i 0,.i 0,.i 0,.i 0,.i 0,A6]))]⟩ ?_ ?_) |refine S2 ?_|(refine T6 ?_ ?_<;>intro h<;>try exact V1 h)|intro el ke kg|intro el ke|exact T4|refine T5 ?_ ?_|intro ex)<;>try conv=>whnf)
  all_goals first
   |(exfalso;omega)
   |exact B0 h0 rfl ⟨rfl,rfl,rfl,rfl,rfl,trivial⟩ ⟨rfl,rfl,trivial⟩ rfl rfl rfl
   |(rw[←hR];exact K0 (rs:=[.cell 6 D7,.tmp 7]) (vs:=[_,_]) rfl ⟨H0 rfl rfl rfl (AD ⟨nm,1,f,[],m,[],zX⟩ (.nil 2) (.nil 1) (.nil 6)),⟨_,rfl,.refl _⟩,trivial⟩ rfl)
 rw[if_neg hm]at hR
 unfold KN at hR
 dsimp only at hR
 clear lX
 have lX:=vL
 refine D0 Tryz.func141 76 fun ki E h0=>?_
 clear ki
 repeat'((first|(refine A2 (x:=W7) g2 (by omega) ?_)|(refine A2 (x:=w1) g1 (by omega) ?_)|refine A0 hf ?_|(refine B6 4 ?_;refine C5 (id:=4) ⟨[(2,.sl 1 (ws.map F6)),(3,.iptr (sL s)),(4,.ref 1 0),(6,.ref 2 0),(8,.i ws.length)],3,[(1,some (.box [.str nm,.i 1,.i f.op,.i f.col,.i f.code,.i f.lo,.i f.hi,.sl 6 (f.kids.map C3),A6,.i m,A6,.i 0,.i 0,.i 0,.i 0,.i 0,A6])),(2,some (.box [.str [],.i 0,.i 0,.i 0,.i 0,.i 0,.i 0,A6,A6,.i 0,A6,.i 0,.i 0,.i 0,.i 0,.i 0,A6]))]⟩ ?_ ?_) |refine S2 ?_|(refine T6 ?_ ?_<;>intro h<;>try exact V1 h)|intro el ke kg|intro el ke|exact T4|refine T5 ?_ ?_|intro ex)<;>try conv=>whnf)
 all_goals first
  |(exfalso;omega)
  |exact B0 h0 rfl ⟨rfl,rfl,rfl,rfl,rfl,trivial⟩ ⟨rfl,rfl,trivial⟩ rfl rfl rfl
  |skip
 all_goals clear g1 g2 hf
 refine D5 (ι:=Nat) (fun k=>⟨[(2,.sl 1 (l.map F6)),(3,.iptr (sL s)),(4,.ref 1 0),(6,.ref 2 0),(9,.i k)],4,[(1,some (.box [.str nm,.i 1,.i f.op,.i f.col,.i f.code,.i f.lo,.i f.hi,.sl 6 (f.kids.map C3),.row 3 0 (BA s (l.take k)).length,.i m,A6,.i 0,.i 0,.i 0,.i 0,.i 0,A6])),(2,some (.box [.str [],.i 0,.i 0,.i 0,.i 0,.i 0,.i 0,A6,A6,.i 0,A6,.i 0,.i 0,.i 0,.i 0,.i 0,A6])),(3,some (.row w6 2 0 ((BA s (l.take k)).map N7)))]⟩) (fun k=>k≤l.length∧(l.take k).any (V2 s)=false) (fun k=>l.length-k) 0 ⟨Nat.zero_le _,rfl⟩
  (by refine B4 (U9 1 8 (e:=w6) (sz:=2) rfl rfl) ?_;exact B0 h0 rfl ⟨congrArg (fun z=>some (AV.sl 1 z)) lD,rfl,rfl,rfl,rfl,trivial⟩ ⟨rfl,rfl,⟨0,rfl⟩,trivial⟩ rfl rfl rfl) (fun k hI=>?_)
 obtain⟨hk,hI⟩:=hI
 have mK:=Sc (s:=s) (l.take k)
 rw[List.length_take]at mK
 by_cases kj:k<l.length
 ·obtain⟨w,nN⟩:∃w,l[k]?=some w:=⟨_,List.getElem?_eq_getElem kj⟩
  obtain⟨d,hd,h1⟩:=PG s w (lX w (List.mem_of_getElem? nN))
  have li:=PH (s:=s) hI nN
  have nR:=PI (s:=s) hI nN
  generalize BA s (l.take k)=A at *
  have rE:A.length≤30000:=by omega
  cases hb:V2 s w
  ·rw[hb]at h1
   obtain⟨q1,q2⟩:=li hb
   rw[←hd hb]at q1
   clear li nR hd hR
   repeat'((first|(refine A2 (x:=w) nN (by omega) ?_)|refine A0 h1 ?_|(refine B6 11 ?_;refine C5 (id:=11) ⟨[(2,.sl 1 (l.map F6)),(3,.iptr (sL s)),(4,.ref 1 0),(6,.ref 2 0),(9,.i k),(10,.iptr (N7 d)),(11,.b true)],4,[(1,some (.box [.str nm,.i 1,.i f.op,.i f.col,.i f.code,.i f.lo,.i f.hi,.sl 6 (f.kids.map C3),.row 3 0 (A).length,.i m,A6,.i 0,.i 0,.i 0,.i 0,.i 0,A6])),(2,some (.box [.str [],.i 0,.i 0,.i 0,.i 0,.i 0,.i 0,A6,A6,.i 0,A6,.i 0,.i 0,.i 0,.i 0,.i 0,A6])),(3,some (.row w6 2 0 ((A).map N7)))]⟩ ?_ ?_) |refine S2 ?_|(refine T6 ?_ ?_<;>intro h<;>try exact V1 h)|intro el ke kg|intro el ke|exact T4|refine T5 ?_ ?_|intro ex)<;>try conv=>whnf)
   all_goals first
    |(exfalso;omega)
    |exact B0 h0 rfl ⟨rfl,rfl,rfl,rfl,rfl,rfl,rfl,trivial⟩ ⟨rfl,rfl,⟨_,rfl⟩,trivial⟩ rfl rfl rfl
    |exact⟨k+1,⟨by omega,q2⟩,by omega,by rw[q1];exact B0 h0 rfl ⟨rfl,rfl,rfl,rfl,congrArg (fun z:Int=>some (AV.i z)) (by omega),trivial⟩ ⟨congrArg (fun z=>G1.box [.str nm,.i 1,.i f.op,.i f.col,.i f.code,.i f.lo,.i f.hi,.sl 6 (f.kids.map C3),.row 3 0 z,.i m,A6,.i 0,.i 0,.i 0,.i 0,.i 0,A6]) (by rw[List.length_append];rfl),rfl,⟨_,congrArg (G1.row w6 2 _) (by rw[List.map_append];rfl)⟩,trivial⟩ rfl rfl rfl⟩
  ·rw[hb]at h1
   obtain⟨q1,q2⟩:=nR hb
   rw[q1,q2,Bool.not_true,Bool.and_false]at hR
   clear li nR hd q1 q2
   repeat'((first|(refine A2 (x:=w) nN (by omega) ?_)|refine A0 h1 ?_|(refine B6 11 ?_;refine C5 (id:=11) ⟨[(2,.sl 1 (l.map F6)),(3,.iptr (sL s)),(4,.ref 1 0),(6,.ref 2 0),(9,.i k),(11,.b false)],4,[(1,some (.box [.str nm,.i 1,.i f.op,.i f.col,.i f.code,.i f.lo,.i f.hi,.sl 6 (f.kids.map C3),.row 3 0 (A).length,.i m,A6,.i 0,.i 0,.i 0,.i 0,.i 0,A6])),(2,some (.box [.str [],.i 0,.i 0,.i 0,.i 0,.i 0,.i 0,A6,A6,.i 0,A6,.i 0,.i 0,.i 0,.i 0,.i 0,A6])),(3,some (.row w6 2 0 ((A).map N7)))]⟩ ?_ ?_) |refine S2 ?_|(refine T6 ?_ ?_<;>intro h<;>try exact V1 h)|intro el ke kg|intro el ke|exact T4|refine T5 ?_ ?_|intro ex)<;>try conv=>whnf)
   all_goals first
    |(exfalso;omega)
    |exact B0 h0 rfl ⟨rfl,rfl,rfl,rfl,rfl,rfl,trivial⟩ ⟨rfl,rfl,⟨_,rfl⟩,trivial⟩ rfl rfl rfl
    |(rw[←hR];exact K0 (rs:=[.cell 6 D7,.tmp 7]) (vs:=[_,_]) rfl ⟨H0 rfl rfl rfl (AD ⟨nm,1,f,A,m,[],zX⟩ (.refl _) (.nil 1) (.nil 6)),⟨_,rfl,.refl _⟩,trivial⟩ rfl)
 ·obtain rfl:k=l.length:=by omega
  rw[List.take_length]at hI mK ⊢
  have vn:=Le hI
  rw[hI,Bool.not_false,Bool.and_true]at hR
  generalize BA s l=A at *
  have rE:A.length≤30000:=by omega
  clear hI
  repeat'((first|(refine B6 15 ?_;refine F5 (id:=15) (σ':=⟨[(4,.iptr [.str nm,.i 1,.i f.op,.i f.col,.i f.code,.i f.lo,.i f.hi,.sl 6 (f.kids.map C3),.sl 2 (A.map N7),.i m,A6,.i 0,.i 0,.i 0,.i 0,.i 0,A6]),(6,.ref 2 0)],4,[(2,some (.box [.str [],.i 0,.i 0,.i 0,.i 0,.i 0,.i 0,A6,A6,.i 0,A6,.i 0,.i 0,.i 0,.i 0,.i 0,A6]))]⟩) (B4 (B0 (σ':=⟨[(4,.ref 1 0),(6,.ref 2 0)],4,[(1,some (.box [.str nm,.i 1,.i f.op,.i f.col,.i f.code,.i f.lo,.i f.hi,.sl 6 (f.kids.map C3),.sl 2 (A.map N7),.i m,A6,.i 0,.i 0,.i 0,.i 0,.i 0,A6])),(2,some (.box [.str [],.i 0,.i 0,.i 0,.i 0,.i 0,.i 0,A6,A6,.i 0,A6,.i 0,.i 0,.i 0,.i 0,.i 0,A6]))]⟩) h0 rfl ⟨rfl,rfl,trivial⟩ ⟨rfl,rfl,trivial⟩ rfl rfl rfl) (B2 h0)) ?_;refine C5 (id:=15) ⟨[(6,.ref 2 0),(7,.b (decide (1≤l.length∧l.length≤3)))],4,[(2,some (.box [.str nm,.i 1,.i f.op,.i f.col,.i f.code,.i f.lo,.i f.hi,.sl 6 (f.kids.map C3),.sl 2 (A.map N7),.i m,A6,.i 0,.i 0,.i 0,.i 0,.i 0,A6]))]⟩ ?_ ?_) |refine S2 ?_|(refine T6 ?_ ?_<;>intro h<;>try exact V1 h)|intro el ke kg|intro el ke|exact T4|refine T5 ?_ ?_|intro ex)<;>try conv=>whnf)
  all_goals first
   |(exfalso;omega)
   |exact B0 h0 rfl ⟨rfl,congrArg (fun z:Bool=>some (AV.b z)) (by rw[eq_comm,decide_eq_false_iff_not];omega),trivial⟩ ⟨rfl,trivial⟩ rfl rfl rfl
   |exact B0 h0 rfl ⟨rfl,congrArg (fun z:Bool=>some (AV.b z)) (by rw[decide_eq_decide];omega),trivial⟩ ⟨rfl,trivial⟩ rfl rfl rfl
   |(rw[←hR];exact K0 (rs:=[.cell 6 D7,.tmp 7]) (vs:=[_,_]) rfl ⟨H0 rfl rfl rfl (AD ⟨nm,1,f,A,m,[],zX⟩ (.refl _) (.nil 1) (.nil 6)),⟨_,rfl,.refl _⟩,trivial⟩ rfl)
theorem TZ(s:A5)(nm:List UInt8)(f:A1)(ws:List (List UInt8))(sI:ws.length≤30000)(lX:∀w∈ws,w.length≤20000):A4 Tryz.prog 141 [sA s,.agg (bp nm f),.sl 1 (ws.map F6)] (.tup [O9 (r9 s ⟨nm,1,f,[],0,[],zX⟩ ws).1,.b (r9 s ⟨nm,1,f,[],0,[],zX⟩ ws).2]):=by
 by_cases h:2≤ws.length∧B1 ws (ws.length-2)=W7
 ·exact WU s nm f ws sI lX h.1 h.2
 ·exact Yj s nm f ws sI lX h
end Go.Proofs.YtkcekccdcpmekaaGreatDoor
