/- Chapter 18: tables: the program. -/
import Derived.Test.YtiphlhoclaogjaaGreatDoorRTb2
import Derived.Test.YtiphlhoclaogjaaGreatDoorRAvTy
import Derived.Test.YtiphlhoclaogjaaGreatDoorRE3
import Derived.Test.YtiphlhoclaogjaaGreatDoorRTa8
import Derived.Test.YtiphlhoclaogjaaGreatDoorRNm1
import Derived.Test.YtiphlhoclaogjaaGreatDoorRTb1
import Derived.Test.YtiphlhoclaogjaaGreatDoorRD2
import Derived.Test.YtiphlhoclaogjaaGreatDoorRAvC
set_option linter.unusedVariables false
set_option linter.unnecessarySimpa false
set_option linter.unusedSimpArgs false
set_option maxHeartbeats 64000000
namespace Go.Proofs.YtiphlhoclaogjaaGreatDoor
open Go Go.Av
attribute [local irreducible] C9 B3 C7 D1 DQ D0 C6 St.le A3 B7
set_option maxRecDepth 100000
theorem Ax{s:A4}{x:J7}{dims:List Pk}{mea:Int}{cnd:B6}(h:¬b7 s x dims mea cnd=0):EF s x dims mea cnd=⟨[],0,[]⟩:=if_neg h
theorem LD(s:A4)(x:J7)(dims:List Pk)(mea:Int)(cnd:B6):A3 Tryz.prog 16 [sA s,T8 x,.sl 2 (dims.map A8),.i mea,D5 cnd] (.tup [X8 (EF s x dims mea cnd),.i (b7 s x dims mea cnd)]):=by
 by_cases e1:¬K9 s x=0
 ·have hE:b7 s x dims mea cnd=K9 s x:=if_pos e1
  rw[Ax (by rw[hE];exact e1),hE]
  exact iF s x dims mea cnd e1
 have e1:=Decidable.of_not_not e1
 by_cases e2:¬L6 s (R5 dims mea cnd)=0
 ·have hE:b7 s x dims mea cnd=L6 s (R5 dims mea cnd):=by unfold b7;rw[if_neg (fun h=>h e1),if_pos e2]
  rw[Ax (by rw[hE];exact e2),hE]
  exact iG s x dims mea cnd e1 e2
 have e2:=Decidable.of_not_not e2
 cases e3:X5 x.picks (W4 s (e9 dims mea cnd))with
 |false =>
  have hE:b7 s x dims mea cnd=23:=by unfold b7;rw[if_neg (fun h=>h e1),if_neg (fun h=>h e2),if_pos e3]
  rw[Ax (by rw[hE];decide),hE]
  exact iH s x dims mea cnd e1 e2 e3
 |true =>
  have hE:b7 s x dims mea cnd=if (Y0 s dims [[]]).isSome=false then 1 else 0:=by unfold b7;rw[if_neg (fun h=>h e1),if_neg (fun h=>h e2),if_neg (by rw[e3];decide)]
  cases hL:Y0 s dims [[]]with
  |none =>
   rw[hL]at hE
   have hE:b7 s x dims mea cnd=1:=hE
   rw[Ax (by rw[hE];decide),hE]
   exact iI s x dims mea cnd e1 e2 e3 hL
  |some L =>
   rw[hL]at hE
   have hE:b7 s x dims mea cnd=0:=hE
   have hT:EF s x dims mea cnd=⟨dims,mea,W9 s x dims mea L (e8 s x cnd (W5 mea))⟩:=by unfold EF;rw[if_pos hE,hL];rfl
   rw[hT,hE]
   by_cases hm:0≤mea
   ·exact kR s x dims mea cnd L e1 e2 e3 hL hm
   ·exact kQ s x dims mea cnd L e1 e2 e3 hL hm
end Go.Proofs.YtiphlhoclaogjaaGreatDoor
namespace Go.Av
open Go Go.RowKit
theorem VN{P:Program}{f m:Nat}{args:List AV}{r:AV}(h:B7 P f 0 [] args m [] r)(hc:J1 r=true):A3 P f args r:=by
 refine⟨h.1,fun X w vs hX nL hl pd=>?_⟩
 have mc:∀θ:Th,∀k,¬owned θ [] k:=fun θ k ⟨i,b,hi,_⟩=>by cases hi
 refine Calls.mono (h.2 X ⟨fun _=>undef,fun _ _=>none⟩ w vs hX (nL.mono (fun k _ h=>h.elim id fun h=>(mc _ k h).elim) fun _ _ _=>rfl) ⟨(fun i b hi=>by cases hi),(fun i j b b' k hi=>by cases hi),(fun i b k hi=>by cases hi)⟩ hl fun j a v hj hv=>.im ((pd j a v hj hv).mono (fun _ _ _=>rfl) fun k _ hu=>?_)) ?_
 ·rcases hu with hu|⟨i,b,hi,_⟩
  ·exact hu
  ·cases hi
 ·rintro e w' ⟨⟨v,θ',rfl,hv,qi,mO,hθ⟩,rS,pO,qb,mY,nj⟩
  refine⟨v,rfl,((S7 hc).im hv).mono (fun _ _ _=>rfl) fun k _ hu=>.inl hu,rS,pO,qb,mY,fun k hk=>nj k hk (mc _ k)⟩
end Go.Av
namespace Go.Proofs.YtiphlhoclaogjaaGreatDoor
open Go Go.Av
attribute [local irreducible] C9 B3 C7 D1 DQ D0 C6 St.le A3 B7
set_option maxRecDepth 100000
theorem UA(s:A4)(x:J7)(cnd:B6)(mS:List Int):A3 Tryz.prog 24 [sA s,T8 x,D5 cnd,.sl 1 (mS.map wA)] (.sl 1 ((e8 s x cnd mS).map wA)) :=
 VN (Hh (m2:=1) (hp2:=[]) (r2:=.sl 1 ((e8 s x cnd mS).map wA)) (GM s x cnd mS) rfl fun E h0=>A6 h0) rfl
def Hs:J7:=⟨[112],0,[⟨1,1⟩],[[4,1],[9,2]]⟩
def Ac:Kz:=⟨[⟨1,1⟩],-1,[⟨[-1],2,0,0,0,0,[4,9]⟩,⟨[1],1,0,0,0,0,[4]⟩,⟨[2],1,0,0,0,0,[9]⟩]⟩
theorem dq:EF Jc Hs [⟨1,1⟩] (-1) Ox=Ac:=by kernel_rfl
theorem dr:b7 Jc Hs [⟨1,1⟩] (-1) Ox=0:=by kernel_rfl
theorem dt:e8 Jc Hs Ox []=[0,1]:=by kernel_rfl
abbrev UB:AV:=.agg [.i 1,.i 0,.i 0,.i 0,.i 0,n7]
theorem UC:NL UB (D5 Ox):=Bb ⟨.refl _,.refl _,.refl _,.refl _,.refl _,.nil 6,trivial⟩
theorem Jd:A3 Tryz.prog 11 [] (.b true):=by
 have c1:=s5 ((LD Jc Hs [⟨1,1⟩] (-1) Ox).congr (show _=AV.tup [X8 Ac,.i 0] by rw[dq,dr])) (l':=[Tx,T8 Hs,.sl 2 [[.i 1,.i 1]],.i (-1),UB]) ⟨KK,.refl _,.refl _,.refl _,UC,trivial⟩
 have c2:=(VJ Ac [2]).congr (congrArg AV.i (show _=2 by kernel_rfl))
 have c3:=s5 ((IP Jc Ac 2 0).congr (congrArg AV.b (show WS Ac 2 0=true by kernel_rfl))) (l':=[Tx,X8 Ac,.i 2,.i 0]) ⟨KK,.refl _,.refl _,.refl _,trivial⟩
 have c4:=s5 ((IP Jc Ac 0 2).congr (congrArg AV.b (show WS Ac 0 2=false by kernel_rfl))) (l':=[Tx,X8 Ac,.i 0,.i 2]) ⟨KK,.refl _,.refl _,.refl _,trivial⟩
 have c5:=s5 ((UA Jc Hs Ox []).congr (congrArg (fun z:List Int=>AV.sl 1 (z.map wA)) dt)) (l':=[Tx,T8 Hs,UB,n7]) ⟨KK,.refl _,UC,.nil 1,trivial⟩
 have c7:=(Np [0,1] [0,1]).congr (congrArg AV.b (decide_eq_true rfl))
 obtain⟨d,m,cells,hT⟩:∃d m cells,Ac=⟨d,m,cells⟩:=⟨_,_,_,rfl⟩
 have hT2:X8 Ac=.agg [.sl 2 (d.map A8),.i m,.sl 7 (cells.map U5)]:=by rw[hT]
 obtain⟨x0,xw,h0r,oU⟩:∃x:G8,x.cnt=2∧x.rows=[4,9]∧cells[(0:Int).toNat]?=some x:=by
  have:cells=Ac.cells:=by rw[hT]
  rw[this];exact⟨⟨[-1],2,0,0,0,0,[4,9]⟩,rfl,rfl,rfl⟩
 obtain⟨x2,h2c,pD⟩:∃x:G8,x.cnt=1∧cells[(2:Int).toNat]?=some x:=by
  have:cells=Ac.cells:=by rw[hT]
  rw[this];exact⟨⟨[2],1,0,0,0,0,[9]⟩,rfl,rfl⟩
 have mf:cells.length=3:=by
  have:cells=Ac.cells:=by rw[hT]
  rw[this];rfl
 rw[hT2]at c1 c2 c3 c4
 have c6:=(Np x0.rows [4,9]).congr (congrArg AV.b (decide_eq_true h0r))
 clear hT hT2
 refine B5 Tryz.func11 88 fun mK E h0=>?_
 clear mK
 repeat'((first|(refine A2 (x:=x0) oU (by omega) ?_)|(refine A2 (x:=x2) pD (by omega) ?_)|refine A0 c1 ?_|refine A0 c2 ?_|refine A0 c3 ?_|refine A0 c4 ?_|refine A0 c5 ?_|refine A0 c6 ?_|refine A0 c7 ?_|(refine B0 ?_ ?_;kernel_rfl) |refine S2 ?_|(refine T6 ?_ ?_<;>intro h<;>try exact V1 h)|intro el mI mJ|intro el mI|exact T4|refine T5 ?_ ?_|intro ex)<;>try conv=>whnf)
 all_goals first
  |exact A1 rfl rfl
  |(exfalso;omega)
def z9(s:A4)(column level v:Int):Int :=
 if (B8 s column).kind=2 then (if (d9 (fun x=>G2 s column level x) v (F9 s column)).2=true then (d9 (fun x=>G2 s column level x) v (F9 s column)).1 else -1)
 else if 0<level∧v=(-1099511627776)then v else (M9 (B8 s column) level v).1
theorem Lx{s:A4}(hr:C3 s=0){column level:Int}{c:D4}(h1:1≤column)(hc:s.cols[column.toNat]?=some c)(h3:0≤level)(h4:level≤B4 s column)(v:Int):(M3 s column level v).2=u7 s column level v∧(u7 s column level v=true→(M3 s column level v).1=z9 s column level v):=by
 have mX:=C1 hc
 obtain⟨hk,hm⟩:=KH hr h1 hc
 unfold u7 z9 M3
 rw[if_pos (show 0≤level∧level≤B4 s column from ⟨h3,h4⟩),mX]
 by_cases mW:c.kind=2
 ·have pk:∀x∈F9 s column,QH s column level x=G2 s column level x:=fun x hx=>by
   unfold QH
   rw[mX]
   exact(FL hr h1 hc mW h3 h4 hx).1.symm
  rw[if_neg (show ¬c.kind=3 by omega),if_pos mW,if_pos mW,Kr pk]
  rcases Hg (f:=fun x:Nat=>G2 s column level x) (v:=v) (l:=F9 s column)with ⟨g1,x,hx,g2,g3⟩|⟨g1,g2⟩
  ·have:(F9 s column).any (fun x=>decide (G2 s column level x=v))=true:=List.any_eq_true.2 ⟨x,hx,decide_eq_true g2⟩
   rw[this,g1,if_pos rfl]
   exact⟨rfl,fun _=>rfl⟩
  ·have:(F9 s column).any (fun x=>decide (G2 s column level x=v))=false:=by
    rw[List.any_eq_false]
    intro x hx
    rw[decide_eq_true_iff]
    exact g2 x hx
   rw[this,g1]
   exact⟨rfl,fun h=>by cases h⟩
 ·have pG:c.kind=3:=by omega
  have mL:level≤c.widths.length:=by
   have h5:=h4
   have mM:=F0 hc
   rw[B4,if_pos hr,E5,if_neg (by omega),mX,M0,if_neg mW]at h5
   exact h5
  rw[if_pos pG,if_neg mW,if_neg mW]
  by_cases h5:0<level∧v=(-1099511627776)
  ·rw[if_pos h5,if_pos h5,if_pos h5]
   exact⟨rfl,fun _=>rfl⟩
  ·rw[if_neg h5,if_neg h5,if_neg h5]
   obtain⟨e1,e2⟩:=Nd (hm pG) h3 mL h5
   exact⟨e1,fun h=>(e2 h).1⟩
def Je(s:A4)(pv:List (Pk×Int)):Bool:=pv.all fun q=>u7 s q.1.col q.1.lev q.2
def Jf(s:A4)(c:B6)(pv:List (Pk×Int)):Int:=U7 (fun a=>M2 s a (z9 s a.col (M4 a.col pv).1 (M4 a.col pv).2)) c
def Ht(s:A4)(c:B6)(picks:List Pk)(values:List Int):Int :=
 if J6 s c=0∧I7 s picks=0∧values.length=picks.length∧X5 picks (I1 s c)=true then (if Je s (picks.zip values)=true then Jf s c (picks.zip values)else 0)else 0
theorem iJ{s:A4}(hd:D9 s){i:Nat}{c:D4}(hi:0<i)(hc:s.cols[i]?=some c){n:Nat}(hn:B4 s i=n){v:Int}(hv:o4 s c v){m:Nat}(hm:m≤n):
  (M3 s i m (G2 s i m v)).2=true∧o4 s c (M3 s i m (G2 s i m v)).1∧G2 s i m (M3 s i m (G2 s i m v)).1=G2 s i m v:=by
 have hr:=hd.ok
 have zB:s.cols[(i:Int).toNat]?=some c:=by simpa using hc
 have mX:=C1 zB
 have mM:=F0 hc
 have pk:∀w,G2 s i m w=P8 s c m w:=fun w=>by
  unfold G2
  rw[hn,if_neg (by omega),mX]
 have md:(n:Int)=M0 s c:=by
  have h1:B4 s i=E5 s i:=by rw[B4,if_pos hr]
  rw[h1,E5,if_neg (by omega),mX]at hn
  exact hn.symm
 unfold M3
 rw[mX]
 by_cases hk:c.kind=2
 ·rw[if_neg (by omega)]
  obtain⟨k,rfl,rY⟩:∃k:Nat,v=k∧k∈F9 s i:=by
   rcases hv with ⟨hw,_⟩|⟨_,k,hw,hm⟩|⟨hw,_⟩
   ·rw[hw]at hk;cases hk
   ·refine⟨k,hw,?_⟩
    unfold F9;rw[mX];exact hm
   ·omega
  have qp:∀x∈F9 s i,QH s i m x=G2 s i m x:=fun x hx=>by
   unfold QH
   rw[mX]
   exact(FL hr (by omega) zB hk (by omega) (by omega) hx).1.symm
  rcases Hg (f:=QH s i m) (v:=G2 s i m k) (l:=F9 s i)with ⟨g1,y,hy,g2,g3⟩|⟨g1,g2⟩
  ·rw[g3]
   refine⟨g1,?_,by rw[←qp y hy,g2]⟩
   refine .inr (.inl ⟨hk,y,rfl,?_⟩)
   unfold F9 at hy;rw[mX]at hy;exact hy
  ·exact absurd (qp k rY) (g2 k rY)
 ·have oe:=(KH hr (column:=i) (by omega) zB).1
  have pG:c.kind=3:=by omega
  rw[if_pos pG]
  obtain⟨nm,hM⟩:∃nm,R4 c nm:=by
   rcases hd.col hc with ⟨_,rfl⟩|⟨_,rfl|rfl⟩|⟨_,h⟩
   ·cases pG
   ·cases pG
   ·cases pG
   ·exact h
  have rI:=hM.low
  have qW:=hM.high
  have xR:BN c v:=by
   rcases hv with ⟨hw,_⟩|⟨hw,_⟩|⟨_,hw⟩
   ·rw[hw]at pG;cases pG
   ·omega
   ·exact hw
  have hmn:m≤c.widths.length:=by
   have:M0 s c=c.widths.length:=by unfold M0;rw[if_neg hk]
   omega
  have ok:∀w,BN c w→o4 s c w:=fun w hw=>.inr (.inr ⟨pG,hw⟩)
  have uJ:BN c c.low:=.inl ⟨Int.le_refl _,qW.1⟩
  rw[pk,N5 hM xR]
  by_cases qC:(m:Int)=0
  ·rw[if_pos qC,if_neg (by omega)]
   have e:M1 c m 0=(c.low,c.high,true):=by unfold M1;rw[if_pos qC];rfl
   rw[e]
   refine⟨rfl,ok _ uJ,?_⟩
   rw[pk,N5 hM uJ,if_pos qC]
  ·rw[if_neg qC]
   by_cases sb:v=(-1099511627776)
   ·have ho:c.opt=true:=by
     rcases xR with hv|hv
     ·omega
     ·exact hv.1
    rw[if_pos sb,if_pos ⟨by omega,rfl⟩]
    refine⟨ho,ok _ (.inr ⟨ho,rfl⟩),?_⟩
    rw[pk,N5 hM (.inr ⟨ho,rfl⟩),if_neg qC,if_pos rfl]
   ·have nY:c.low≤v∧v≤c.high:=by
     rcases xR with hv|hv
     ·exact hv
     ·exact absurd hv.2 sb
    obtain⟨hw,_,_⟩:=l7 hM (a:=m) (b:=m) (by omega) (Nat.le_refl _) hmn
    have d:=V9 v hw.1
    have qR:=BH hw.1 (Int.le_refl _) (show C8 v (B1 c m)<C8 v (B1 c m)+B1 c m by omega)
    have tO:M1 c m (C8 v (B1 c m))=(max (C8 v (B1 c m)) c.low,min (C8 v (B1 c m)+B1 c m-1) c.high,true):=by
     unfold M1
     rw[if_neg (by omega),if_neg (by omega),qR]
     have:max (C8 v (B1 c m)) c.low≤min (C8 v (B1 c m)+B1 c m-1) c.high:=by omega
     simp[this]
    rw[if_neg sb,if_neg (by omega),tO]
    have hV:BN c (max (C8 v (B1 c m)) c.low):=.inl (by omega)
    refine⟨rfl,ok _ hV,?_⟩
    dsimp only
    rw[pk,N5 hM hV,if_neg qC,if_neg (by omega)]
    exact BH hw.1 (by omega) (by omega)
theorem Nt{α:Type}{f g:α→Bool}:∀{l:List α},(∀x∈l,f x=g x)→l.all f=l.all g
 |[],_=>rfl
 |x::r,h=>by rw[List.all_cons,List.all_cons,h x (by simp),Nt (fun y hy=>h y (by simp[hy]))]
theorem YW{f:Nat→Int}{n i:Nat}(h:i<n):((List.range n).map f).getD i 0=f i:=by
 rw[List.getD_eq_getElem?_getD,List.getElem?_map,List.getElem?_range h];rfl
theorem iK{s:A4}(hd:D9 s)(c:B6)(picks:List Pk)(values:List Int):Xq s c picks values=Ht s c picks values:=by
 unfold Xq Ht
 by_cases h:J6 s c=0∧I7 s picks=0∧values.length=picks.length∧X5 picks (I1 s c)=true
 ·rw[if_pos h,if_pos h]
  obtain⟨hc,hp,_,_⟩:=h
  have hr:=hd.ok
  have hg:=w5 hp
  have uU:∀col,B4 s col=E5 s col:=fun col=>by rw[B4,if_pos hr]
  have mX:∀q∈picks.zip values,(M3 s q.1.col q.1.lev q.2).2=u7 s q.1.col q.1.lev q.2∧(u7 s q.1.col q.1.lev q.2=true→(M3 s q.1.col q.1.lev q.2).1=z9 s q.1.col q.1.lev q.2):=fun q hm=>by
   obtain⟨k,hk⟩:=List.getElem?_of_mem (List.of_mem_zip (show (q.1,q.2)∈_ from hm)).1
   obtain⟨h1,h2,h3,h4⟩:=hg k _ hk
   exact Lx hr h1 (List.getElem?_eq_getElem (by omega)) h3 (by rw[uU];exact h4) q.2
  have mh:s8 s (picks.zip values)=Je s (picks.zip values):=Nt fun q hm=>(mX q hm).1
  unfold Li
  rw[mh]
  by_cases ha:Je s (picks.zip values)=true
  ·rw[if_pos ha,if_pos ha]
   obtain⟨_,_,_,nJ⟩:=o0 hc
   unfold Jf Cj
   refine Xg c nJ fun a haa=>?_
   obtain⟨xD,hao⟩:=Fl c nJ a haa
   obtain⟨x,hx,c1,c2,_⟩:=q9 hr xD hao
   have e:((a.col.toNat:Nat):Int)=a.col:=by omega
   rw[YW (by omega),y8,if_neg (by omega),e]
   refine congrArg (M2 s a) ?_
   rcases TN a.col (picks.zip values)with ⟨h1,_⟩|⟨q,hq,h1,h2⟩
   ·rw[h1]
    dsimp only
    have mg:0<a.col.toNat:=by omega
    have hv:=(WH hd [] 0).2 _ _ hx
    obtain⟨n,hn,_,hch⟩:=hd.chain mg hx
    have h0:=(hch _ hv).2.1
    obtain⟨k1,_,_⟩:=iJ hd mg hx hn hv (m:=0) (Nat.zero_le _)
    rw[e]at h0 k1 hn
    rw[show ((0:Nat):Int)=0 from rfl,h0]at k1
    obtain⟨g1,g2⟩:=Lx hr (column:=a.col) (level:=0) c1 hx (by omega) (by omega) 0
    exact g2 (by rw[←g1];exact k1)
   ·rw[h2]
    dsimp only
    rw[←h1]
    exact(mX q hq).2 (List.all_eq_true.1 ha q hq)
  ·rw[if_neg ha,if_neg ha]
 ·rw[if_neg h,if_neg h]
theorem UD(s:A4)(hr:C3 s=0)(column fr v to:Int):A3 Tryz.prog 122 [sA s,.i column,.i fr,.i v,.i to] (JA (T9 s column fr v to)):=by
 have:=Xv s column fr v to
 rw[dS,NN,if_pos hr]at this
 exact this
theorem Nu{s:A4}{column fr v to:Int}(h:column<1∨(s.cols.length:Int)≤column):T9 s column fr v to=(0,false):=by
 have hf:E5 s column=-1:=if_pos h
 unfold T9
 rw[if_pos (by omega)]
theorem UE{s:A4}{column level:Int}(h:column<1∨(s.cols.length:Int)≤column):∀pv:List (Pk×Int),N6 s column level pv=(0,false)
 |[]=>Nu h
 |(p,v)::r=>by
  unfold N6
  split
  ·exact Nu h
  ·exact UE h r
theorem GR(s:A4)(hr:C3 s=0)(x:J7)(k:Nat)(r:List Int)(hk:x.rows[k]?=some r)(hl:r.length=x.picks.length+1)(ob:x.picks.length≤1000)(column level:Int):A3 Tryz.prog 56 [sA s,T8 x,.i k,.i column,.i level] (JA (N6 s column level (x.picks.zip r.tail))):=by
 have h1:=fun fr v=>UD s hr column fr v level
 have mT:=F0 hk
 by_cases hc:column<1∨(s.cols.length:Int)≤column
 ·rw[UE hc]
  obtain⟨pr,ver,picks,rows⟩:=x
  dsimp only at *
  have hX:T8 ⟨pr,ver,picks,rows⟩=.agg [.str pr,.i ver,.sl 2 (picks.map A8),.sl 1 (rows.map D2)]:=rfl
  rw[hX]
  refine B5 Tryz.func56 75 fun mK E h0=>?_
  have mL:rows.length≤9223372036854775807:=by
   have:=((mK (.agg [.str pr,.i ver,.sl 2 (picks.map A8),.sl 1 (rows.map D2)]) (by simp)).agg (.sl 1 (rows.map D2)) (by simp)).sl
   simpa using this
  clear mK
  repeat'((first|refine S2 ?_|(refine T6 ?_ ?_<;>intro h<;>try exact V1 h)|intro el mI mJ|intro el mI|exact T4|refine T5 ?_ ?_|intro ex)<;>try conv=>whnf)
  all_goals first
   |(exfalso;omega)
   |exact I3 rfl rfl rfl
 ·have wm:(x.picks.zip r.tail).length=x.picks.length:=by rw[List.length_zip,List.length_tail];omega
  have uC:=fun k p v h1 h2=>@Ll x.picks r k p v h1 h2
  generalize hR:N6 s column level (x.picks.zip r.tail)=R
  generalize x.picks.zip r.tail=pv at *
  obtain⟨pr,ver,picks,rows⟩:=x
  dsimp only at *
  have hX:T8 ⟨pr,ver,picks,rows⟩=.agg [.str pr,.i ver,.sl 2 (picks.map A8),.sl 1 (rows.map D2)]:=rfl
  rw[hX]
  refine B5 Tryz.func56 75 fun mK E h0=>?_
  have mL:rows.length≤9223372036854775807:=by
   have:=((mK (.agg [.str pr,.i ver,.sl 2 (picks.map A8),.sl 1 (rows.map D2)]) (by simp)).agg (.sl 1 (rows.map D2)) (by simp)).sl
   simpa using this
  have qS:s.cols.length≤8:=(D3 hr).2.1
  clear mK
  repeat'((first|refine S2 ?_|(refine T6 ?_ ?_<;>intro h<;>try exact V1 h)|intro el mI mJ|intro el mI|exact T4|refine T5 ?_ ?_|intro ex)<;>try conv=>whnf)
  all_goals first
   |(exfalso;omega)
   |skip
  refine A9 (ι:=Nat) (fun i=>⟨[(2,.i k),(3,.i column),(4,.i level),(5,.ref 0 0),(6,.ref 1 0),(12,.i i)],2,[(0,some (.box (sL s))),(1,some (.box [.str pr,.i ver,.sl 2 (picks.map A8),.sl 1 (rows.map D2)]))]⟩)
   (fun i=>i≤picks.length∧N6 s column level (pv.drop i)=R) (fun i=>picks.length-i) 0 ⟨Nat.zero_le _,hR⟩
   (A6 h0) (fun i hI=>?_)
  obtain⟨i1,i2⟩:=hI
  by_cases pg:i<picks.length
  ·obtain⟨p,hp⟩:∃p,picks[i]?=some p:=⟨_,List.getElem?_eq_getElem pg⟩
   obtain⟨v,hv⟩:∃v,r[i+1]?=some v:=⟨_,List.getElem?_eq_getElem (by omega)⟩
   have hq:=uC i p v hp hv
   have hp2:picks[((i:Nat):Int).toNat]?=some p:=hp
   have pu:r[((i:Int)+1).toNat]?=some v:=by rw[show ((i:Int)+1).toNat=i+1 by omega];exact hv
   have mW:rows[((k:Nat):Int).toNat]?=some r:=hk
   rw[G1 hq,N6]at i2
   have h2:=h1 p.lev v
   by_cases vB:p.col=column
   ·rw[if_pos vB]at i2
    rw[i2]at h2
    repeat'((first|(refine A2 (x:=p) hp2 (by omega) ?_)|(refine A2 (x:=r) mW (by omega) ?_)|(refine A2 (x:=v) pu (by omega) ?_)|refine A0 h2 ?_|(refine B0 ?_ ?_;kernel_rfl) |refine S2 ?_|(refine T6 ?_ ?_<;>intro h<;>try exact V1 h)|intro el mI mJ|intro el mI|exact T4|refine T5 ?_ ?_|intro ex)<;>try conv=>whnf)
    all_goals first
     |(exfalso;omega)
     |exact I3 rfl rfl rfl
   ·rw[if_neg vB]at i2
    repeat'((first|(refine A2 (x:=p) hp2 (by omega) ?_)|(refine B0 ?_ ?_;kernel_rfl) |refine S2 ?_|(refine T6 ?_ ?_<;>intro h<;>try exact V1 h)|intro el mI mJ|intro el mI|exact T4|refine T5 ?_ ?_|intro ex)<;>try conv=>whnf)
    all_goals first
     |(exfalso;omega)
     |exact⟨i+1,⟨by omega,i2⟩,by omega,A6 h0⟩
  ·have he:pv.drop i=[]:=List.drop_eq_nil_of_le (by omega)
   rw[he,N6]at i2
   have h2:=h1 0 0
   rw[i2]at h2
   repeat'((first|refine A0 h2 ?_|(refine B0 ?_ ?_;kernel_rfl) |refine S2 ?_|(refine T6 ?_ ?_<;>intro h<;>try exact V1 h)|intro el mI mJ|intro el mI|exact T4|refine T5 ?_ ?_|intro ex)<;>try conv=>whnf)
   all_goals first
    |(exfalso;omega)
    |exact I3 rfl rfl rfl
end Go.Proofs.YtiphlhoclaogjaaGreatDoor
