/- Chapter 18: tables: the program. -/
import Derived.Test.YtiphlhoclaogjaaGreatDoorJTb2
import Derived.Test.YtiphlhoclaogjaaGreatDoorJAvTy
import Derived.Test.YtiphlhoclaogjaaGreatDoorJE3
import Derived.Test.YtiphlhoclaogjaaGreatDoorJTa8
import Derived.Test.YtiphlhoclaogjaaGreatDoorJRp2
import Derived.Test.YtiphlhoclaogjaaGreatDoorJTb1
import Derived.Test.YtiphlhoclaogjaaGreatDoorJD2
import Derived.Test.YtiphlhoclaogjaaGreatDoorJAvC
set_option linter.unusedVariables false
set_option linter.unnecessarySimpa false
set_option linter.unusedSimpArgs false
set_option maxHeartbeats 64000000
namespace Go.Proofs.YtiphlhoclaogjaaGreatDoor
open Go Go.Av
attribute [local irreducible] C9 B3 C8 D1 DQ D0 C7 St.le A3 B8
set_option maxRecDepth 100000
theorem Br{s:A4}{x:J9}{dims:List Pk}{mea:Int}{cnd:B7}(h:¬k0 s x dims mea cnd=0):GJ s x dims mea cnd=⟨[],0,[]⟩:=if_neg h
theorem WI(s:A4)(x:J9)(dims:List Pk)(mea:Int)(cnd:B7):A3 Tryz.prog 16 [sA s,X9 x,.sl 2 (dims.map A8),.i mea,D5 cnd] (.tup [S3 (GJ s x dims mea cnd),.i (k0 s x dims mea cnd)]):=by
 by_cases e1:¬L2 s x=0
 ·have hE:k0 s x dims mea cnd=L2 s x:=if_pos e1
  rw[Br (by rw[hE];exact e1),hE]
  exact jO s x dims mea cnd e1
 have e1:=Decidable.of_not_not e1
 by_cases e2:¬L7 s (R9 dims mea cnd)=0
 ·have hE:k0 s x dims mea cnd=L7 s (R9 dims mea cnd):=by unfold k0;rw[if_neg (fun h=>h e1),if_pos e2]
  rw[Br (by rw[hE];exact e2),hE]
  exact jP s x dims mea cnd e1 e2
 have e2:=Decidable.of_not_not e2
 cases e3:X8 x.picks (W8 s (j9 dims mea cnd))with
 |false =>
  have hE:k0 s x dims mea cnd=23:=by unfold k0;rw[if_neg (fun h=>h e1),if_neg (fun h=>h e2),if_pos e3]
  rw[Br (by rw[hE];decide),hE]
  exact jQ s x dims mea cnd e1 e2 e3
 |true =>
  have hE:k0 s x dims mea cnd=if (U9 s dims [[]]).isSome=false then 1 else 0:=by unfold k0;rw[if_neg (fun h=>h e1),if_neg (fun h=>h e2),if_neg (by rw[e3];decide)]
  cases hL:U9 s dims [[]]with
  |none =>
   rw[hL]at hE
   have hE:k0 s x dims mea cnd=1:=hE
   rw[Br (by rw[hE];decide),hE]
   exact jR s x dims mea cnd e1 e2 e3 hL
  |some L =>
   rw[hL]at hE
   have hE:k0 s x dims mea cnd=0:=hE
   have hT:GJ s x dims mea cnd=⟨dims,mea,V8 s x dims mea L (b7 s x cnd (V0 mea))⟩:=by unfold GJ;rw[if_pos hE,hL];rfl
   rw[hT,hE]
   by_cases hm:0≤mea
   ·exact lZ s x dims mea cnd L e1 e2 e3 hL hm
   ·exact lY s x dims mea cnd L e1 e2 e3 hL hm
end Go.Proofs.YtiphlhoclaogjaaGreatDoor
namespace Go.Av
open Go Go.RowKit
theorem WJ{P:Program}{f m:Nat}{args:List AV}{r:AV}(h:B8 P f 0 [] args m [] r)(hc:J1 r=true):A3 P f args r:=by
 refine⟨h.1,fun X w vs hX oP hl qh=>?_⟩
 have nf:∀θ:Th,∀k,¬owned θ [] k:=fun θ k ⟨i,b,hi,_⟩=>by cases hi
 refine Calls.mono (h.2 X ⟨fun _=>undef,fun _ _=>none⟩ w vs hX (oP.mono (fun k _ h=>h.elim id fun h=>(nf _ k h).elim) fun _ _ _=>rfl) ⟨(fun i b hi=>by cases hi),(fun i j b b' k hi=>by cases hi),(fun i b k hi=>by cases hi)⟩ hl fun j a v hj hv=>.im ((qh j a v hj hv).mono (fun _ _ _=>rfl) fun k _ hu=>?_)) ?_
 ·rcases hu with hu|⟨i,b,hi,_⟩
  ·exact hu
  ·cases hi
 ·rintro e w' ⟨⟨v,θ',rfl,hv,rX,nP,hθ⟩,si,qd,rj,nd,ot⟩
  refine⟨v,rfl,((T1 hc).im hv).mono (fun _ _ _=>rfl) fun k _ hu=>.inl hu,si,qd,rj,nd,fun k hk=>ot k hk (nf _ k)⟩
end Go.Av
namespace Go.Proofs.YtiphlhoclaogjaaGreatDoor
open Go Go.Av
attribute [local irreducible] C9 B3 C8 D1 DQ D0 C7 St.le A3 B8
set_option maxRecDepth 100000
theorem Ut(s:A4)(x:J9)(cnd:B7)(nT:List Int):A3 Tryz.prog 24 [sA s,X9 x,D5 cnd,.sl 1 (nT.map wA)] (.sl 1 ((b7 s x cnd nT).map wA)) :=
 WJ (Mg (m2:=1) (hp2:=[]) (r2:=.sl 1 ((b7 s x cnd nT).map wA)) (HG s x cnd nT) rfl fun E h0=>A6 h0) rfl
def Iv:J9:=⟨[112],0,[⟨1,1⟩],[[4,1],[9,2]]⟩
def BX:Ez:=⟨[⟨1,1⟩],-1,[⟨[-1],2,0,0,0,0,[4,9]⟩,⟨[1],1,0,0,0,0,[4]⟩,⟨[2],1,0,0,0,0,[9]⟩]⟩
theorem fF:GJ KW Iv [⟨1,1⟩] (-1) Px=BX:=by kernel_rfl
theorem fG:k0 KW Iv [⟨1,1⟩] (-1) Px=0:=by kernel_rfl
theorem fH:b7 KW Iv Px []=[0,1]:=by kernel_rfl
abbrev Uu:AV:=.agg [.i 1,.i 0,.i 0,.i 0,.i 0,n7]
theorem Uv:NL Uu (D5 Px):=CX ⟨.refl _,.refl _,.refl _,.refl _,.refl _,.nil 6,trivial⟩
theorem KY:A3 Tryz.prog 11 [] (.b true):=by
 have c1:=z1 ((WI KW Iv [⟨1,1⟩] (-1) Px).congr (show _=AV.tup [S3 BX,.i 0] by rw[fF,fG])) (l':=[Uq,X9 Iv,.sl 2 [[.i 1,.i 1]],.i (-1),Uu]) ⟨LG,.refl _,.refl _,.refl _,Uv,trivial⟩
 have c2:=(Lx BX [2]).congr (congrArg AV.i (show _=2 by kernel_rfl))
 have c3:=z1 ((Ev KW BX 2 0).congr (congrArg AV.b (show KR BX 2 0=true by kernel_rfl))) (l':=[Uq,S3 BX,.i 2,.i 0]) ⟨LG,.refl _,.refl _,.refl _,trivial⟩
 have c4:=z1 ((Ev KW BX 0 2).congr (congrArg AV.b (show KR BX 0 2=false by kernel_rfl))) (l':=[Uq,S3 BX,.i 0,.i 2]) ⟨LG,.refl _,.refl _,.refl _,trivial⟩
 have c5:=z1 ((Ut KW Iv Px []).congr (congrArg (fun z:List Int=>AV.sl 1 (z.map wA)) fH)) (l':=[Uq,X9 Iv,Uu,n7]) ⟨LG,.refl _,Uv,.nil 1,trivial⟩
 have c7:=(Om [0,1] [0,1]).congr (congrArg AV.b (decide_eq_true rfl))
 obtain⟨d,m,cells,hT⟩:∃d m cells,BX=⟨d,m,cells⟩:=⟨_,_,_,rfl⟩
 have hT2:S3 BX=.agg [.sl 2 (d.map A8),.i m,.sl 7 (cells.map O8)]:=by rw[hT]
 obtain⟨x0,yz,h0r,pY⟩:∃x:G2,x.cnt=2∧x.rows=[4,9]∧cells[(0:Int).toNat]?=some x:=by
  have:cells=BX.cells:=by rw[hT]
  rw[this];exact⟨⟨[-1],2,0,0,0,0,[4,9]⟩,rfl,rfl,rfl⟩
 obtain⟨x2,h2c,qV⟩:∃x:G2,x.cnt=1∧cells[(2:Int).toNat]?=some x:=by
  have:cells=BX.cells:=by rw[hT]
  rw[this];exact⟨⟨[2],1,0,0,0,0,[9]⟩,rfl,rfl⟩
 have ni:cells.length=3:=by
  have:cells=BX.cells:=by rw[hT]
  rw[this];rfl
 rw[hT2]at c1 c2 c3 c4
 have c6:=(Om x0.rows [4,9]).congr (congrArg AV.b (decide_eq_true h0r))
 clear hT hT2
 refine B5 Tryz.func11 88 fun nL E h0=>?_
 clear nL
 repeat'((first|(refine A2 (x:=x0) pY (by omega) ?_)|(refine A2 (x:=x2) qV (by omega) ?_)|refine A0 c1 ?_|refine A0 c2 ?_|refine A0 c3 ?_|refine A0 c4 ?_|refine A0 c5 ?_|refine A0 c6 ?_|refine A0 c7 ?_|(refine A9 ?_ ?_;kernel_rfl) |refine S2 ?_|(refine T6 ?_ ?_<;>intro h<;>try exact V1 h)|intro el nJ nK|intro el nJ|exact T4|refine T5 ?_ ?_|intro ex)<;>try conv=>whnf)
 all_goals first
  |exact A1 rfl rfl
  |(exfalso;omega)
def Au(s:A4)(column level v:Int):Int :=
 if (B6 s column).kind=2 then (if (j8 (fun x=>G1 s column level x) v (F9 s column)).2=true then (j8 (fun x=>G1 s column level x) v (F9 s column)).1 else -1)
 else if 0<level∧v=(-1099511627776)then v else (N2 (B6 s column) level v).1
theorem Mv{s:A4}(hr:C3 s=0){column level:Int}{c:D3}(h1:1≤column)(hc:s.cols[column.toNat]?=some c)(h3:0≤level)(h4:level≤B4 s column)(v:Int):(M4 s column level v).2=AO s column level v∧(AO s column level v=true→(M4 s column level v).1=Au s column level v):=by
 have nY:=B9 hc
 obtain⟨hk,hm⟩:=LC hr h1 hc
 unfold AO Au M4
 rw[if_pos (show 0≤level∧level≤B4 s column from ⟨h3,h4⟩),nY]
 by_cases nX:c.kind=2
 ·have qk:∀x∈F9 s column,RE s column level x=G1 s column level x:=fun x hx=>by
   unfold RE
   rw[nY]
   exact(GE hr h1 hc nX h3 h4 hx).1.symm
  rw[if_neg (show ¬c.kind=3 by omega),if_pos nX,if_pos nX,Lp qk]
  rcases Ih (f:=fun x:Nat=>G1 s column level x) (v:=v) (l:=F9 s column)with ⟨g1,x,hx,g2,g3⟩|⟨g1,g2⟩
  ·have:(F9 s column).any (fun x=>decide (G1 s column level x=v))=true:=List.any_eq_true.2 ⟨x,hx,decide_eq_true g2⟩
   rw[this,g1,if_pos rfl]
   exact⟨rfl,fun _=>rfl⟩
  ·have:(F9 s column).any (fun x=>decide (G1 s column level x=v))=false:=by
    rw[List.any_eq_false]
    intro x hx
    rw[decide_eq_true_iff]
    exact g2 x hx
   rw[this,g1]
   exact⟨rfl,fun h=>by cases h⟩
 ·have qI:c.kind=3:=by omega
  have nM:level≤c.widths.length:=by
   have h5:=h4
   have nN:=E9 hc
   rw[B4,if_pos hr,E6,if_neg (by omega),nY,M1,if_neg nX]at h5
   exact h5
  rw[if_pos qI,if_neg nX,if_neg nX]
  by_cases h5:0<level∧v=(-1099511627776)
  ·rw[if_pos h5,if_pos h5,if_pos h5]
   exact⟨rfl,fun _=>rfl⟩
  ·rw[if_neg h5,if_neg h5,if_neg h5]
   obtain⟨e1,e2⟩:=Od (hm qI) h3 nM h5
   exact⟨e1,fun h=>(e2 h).1⟩
def KZ(s:A4)(pv:List (Pk×Int)):Bool:=pv.all fun q=>AO s q.1.col q.1.lev q.2
def Ka(s:A4)(c:B7)(pv:List (Pk×Int)):Int:=U7 (fun a=>M3 s a (Au s a.col (M5 a.col pv).1 (M5 a.col pv).2)) c
def Iw(s:A4)(c:B7)(picks:List Pk)(values:List Int):Int :=
 if J6 s c=0∧I7 s picks=0∧values.length=picks.length∧X8 picks (I3 s c)=true then (if KZ s (picks.zip values)=true then Ka s c (picks.zip values)else 0)else 0
theorem jS{s:A4}(hd:E4 s){i:Nat}{c:D3}(hi:0<i)(hc:s.cols[i]?=some c){n:Nat}(hn:B4 s i=n){v:Int}(hv:u9 s c v){m:Nat}(hm:m≤n):
  (M4 s i m (G1 s i m v)).2=true∧u9 s c (M4 s i m (G1 s i m v)).1∧G1 s i m (M4 s i m (G1 s i m v)).1=G1 s i m v:=by
 have hr:=hd.ok
 have zq:s.cols[(i:Int).toNat]?=some c:=by simpa using hc
 have nY:=B9 zq
 have nN:=E9 hc
 have qk:∀w,G1 s i m w=Q1 s c m w:=fun w=>by
  unfold G1
  rw[hn,if_neg (by omega),nY]
 have ng:(n:Int)=M1 s c:=by
  have h1:B4 s i=E6 s i:=by rw[B4,if_pos hr]
  rw[h1,E6,if_neg (by omega),nY]at hn
  exact hn.symm
 unfold M4
 rw[nY]
 by_cases hk:c.kind=2
 ·rw[if_neg (by omega)]
  obtain⟨k,rfl,sc⟩:∃k:Nat,v=k∧k∈F9 s i:=by
   rcases hv with ⟨hw,_⟩|⟨_,k,hw,hm⟩|⟨hw,_⟩
   ·rw[hw]at hk;cases hk
   ·refine⟨k,hw,?_⟩
    unfold F9;rw[nY];exact hm
   ·omega
  have sF:∀x∈F9 s i,RE s i m x=G1 s i m x:=fun x hx=>by
   unfold RE
   rw[nY]
   exact(GE hr (by omega) zq hk (by omega) (by omega) hx).1.symm
  rcases Ih (f:=RE s i m) (v:=G1 s i m k) (l:=F9 s i)with ⟨g1,y,hy,g2,g3⟩|⟨g1,g2⟩
  ·rw[g3]
   refine⟨g1,?_,by rw[←sF y hy,g2]⟩
   refine .inr (.inl ⟨hk,y,rfl,?_⟩)
   unfold F9 at hy;rw[nY]at hy;exact hy
  ·exact absurd (sF k sc) (g2 k sc)
 ·have pi:=(LC hr (column:=i) (by omega) zq).1
  have qI:c.kind=3:=by omega
  rw[if_pos qI]
  obtain⟨nm,hM⟩:∃nm,R8 c nm:=by
   rcases hd.col hc with ⟨_,rfl⟩|⟨_,rfl|rfl⟩|⟨_,h⟩
   ·cases qI
   ·cases qI
   ·cases qI
   ·exact h
  have sY:=hM.low
  have rn:=hM.high
  have wm:CJ c v:=by
   rcases hv with ⟨hw,_⟩|⟨hw,_⟩|⟨_,hw⟩
   ·rw[hw]at qI;cases qI
   ·omega
   ·exact hw
  have hmn:m≤c.widths.length:=by
   have:M1 s c=c.widths.length:=by unfold M1;rw[if_neg hk]
   omega
  have ok:∀w,CJ c w→u9 s c w:=fun w hw=>.inr (.inr ⟨qI,hw⟩)
  have vL:CJ c c.low:=.inl ⟨Int.le_refl _,rn.1⟩
  rw[qk,N7 hM wm]
  by_cases qw:(m:Int)=0
  ·rw[if_pos qw,if_neg (by omega)]
   have e:M2 c m 0=(c.low,c.high,true):=by unfold M2;rw[if_pos qw];rfl
   rw[e]
   refine⟨rfl,ok _ vL,?_⟩
   rw[qk,N7 hM vL,if_pos qw]
  ·rw[if_neg qw]
   by_cases tw:v=(-1099511627776)
   ·have ho:c.opt=true:=by
     rcases wm with hv|hv
     ·omega
     ·exact hv.1
    rw[if_pos tw,if_pos ⟨by omega,rfl⟩]
    refine⟨ho,ok _ (.inr ⟨ho,rfl⟩),?_⟩
    rw[qk,N7 hM (.inr ⟨ho,rfl⟩),if_neg qw,if_pos rfl]
   ·have ob:c.low≤v∧v≤c.high:=by
     rcases wm with hv|hv
     ·exact hv
     ·exact absurd hv.2 tw
    obtain⟨hw,_,_⟩:=q8 hM (a:=m) (b:=m) (by omega) (Nat.le_refl _) hmn
    have d:=W3 v hw.1
    have qm:=CD hw.1 (Int.le_refl _) (show C6 v (B1 c m)<C6 v (B1 c m)+B1 c m by omega)
    have un:M2 c m (C6 v (B1 c m))=(max (C6 v (B1 c m)) c.low,min (C6 v (B1 c m)+B1 c m-1) c.high,true):=by
     unfold M2
     rw[if_neg (by omega),if_neg (by omega),qm]
     have:max (C6 v (B1 c m)) c.low≤min (C6 v (B1 c m)+B1 c m-1) c.high:=by omega
     simp[this]
    rw[if_neg tw,if_neg (by omega),un]
    have hV:CJ c (max (C6 v (B1 c m)) c.low):=.inl (by omega)
    refine⟨rfl,ok _ hV,?_⟩
    dsimp only
    rw[qk,N7 hM hV,if_neg qw,if_neg (by omega)]
    exact CD hw.1 (by omega) (by omega)
theorem Ot{α:Type}{f g:α→Bool}:∀{l:List α},(∀x∈l,f x=g x)→l.all f=l.all g
 |[],_=>rfl
 |x::r,h=>by rw[List.all_cons,List.all_cons,h x (by simp),Ot (fun y hy=>h y (by simp[hy]))]
theorem ZO{f:Nat→Int}{n i:Nat}(h:i<n):((List.range n).map f).getD i 0=f i:=by
 rw[List.getD_eq_getElem?_getD,List.getElem?_map,List.getElem?_range h];rfl
theorem jT{s:A4}(hd:E4 s)(c:B7)(picks:List Pk)(values:List Int):Yi s c picks values=Iw s c picks values:=by
 unfold Yi Iw
 by_cases h:J6 s c=0∧I7 s picks=0∧values.length=picks.length∧X8 picks (I3 s c)=true
 ·rw[if_pos h,if_pos h]
  obtain⟨hc,hp,_,_⟩:=h
  have hr:=hd.ok
  have hg:=Aa hp
  have vN:∀col,B4 s col=E6 s col:=fun col=>by rw[B4,if_pos hr]
  have nY:∀q∈picks.zip values,(M4 s q.1.col q.1.lev q.2).2=AO s q.1.col q.1.lev q.2∧(AO s q.1.col q.1.lev q.2=true→(M4 s q.1.col q.1.lev q.2).1=Au s q.1.col q.1.lev q.2):=fun q hm=>by
   obtain⟨k,hk⟩:=List.getElem?_of_mem (List.of_mem_zip (show (q.1,q.2)∈_ from hm)).1
   obtain⟨h1,h2,h3,h4⟩:=hg k _ hk
   exact Mv hr h1 (List.getElem?_eq_getElem (by omega)) h3 (by rw[vN];exact h4) q.2
  have np:AA s (picks.zip values)=KZ s (picks.zip values):=Ot fun q hm=>(nY q hm).1
  unfold Mf
  rw[np]
  by_cases ha:KZ s (picks.zip values)=true
  ·rw[if_pos ha,if_pos ha]
   obtain⟨_,_,_,oN⟩:=u6 hc
   unfold Ka Dd
   refine YZ c oN fun a haa=>?_
   obtain⟨wi,hao⟩:=Ge c oN a haa
   obtain⟨x,hx,c1,c2,_⟩:=x9 hr wi hao
   have e:((a.col.toNat:Nat):Int)=a.col:=by omega
   rw[ZO (by omega),Ak,if_neg (by omega),e]
   refine congrArg (M3 s a) ?_
   rcases UJ a.col (picks.zip values)with ⟨h1,_⟩|⟨q,hq,h1,h2⟩
   ·rw[h1]
    dsimp only
    have nj:0<a.col.toNat:=by omega
    have hv:=(Wz hd [] 0).2 _ _ hx
    obtain⟨n,hn,_,hch⟩:=hd.chain nj hx
    have h0:=(hch _ hv).2.1
    obtain⟨k1,_,_⟩:=jS hd nj hx hn hv (m:=0) (Nat.zero_le _)
    rw[e]at h0 k1 hn
    rw[show ((0:Nat):Int)=0 from rfl,h0]at k1
    obtain⟨g1,g2⟩:=Mv hr (column:=a.col) (level:=0) c1 hx (by omega) (by omega) 0
    exact g2 (by rw[←g1];exact k1)
   ·rw[h2]
    dsimp only
    rw[←h1]
    exact(nY q hq).2 (List.all_eq_true.1 ha q hq)
  ·rw[if_neg ha,if_neg ha]
 ·rw[if_neg h,if_neg h]
theorem Uw(s:A4)(hr:C3 s=0)(column fr v to:Int):A3 Tryz.prog 122 [sA s,.i column,.i fr,.i v,.i to] (Jr (U2 s column fr v to)):=by
 have:=Yn s column fr v to
 rw[eT,OM,if_pos hr]at this
 exact this
theorem Ou{s:A4}{column fr v to:Int}(h:column<1∨(s.cols.length:Int)≤column):U2 s column fr v to=(0,false):=by
 have hf:E6 s column=-1:=if_pos h
 unfold U2
 rw[if_pos (by omega)]
theorem Ux{s:A4}{column level:Int}(h:column<1∨(s.cols.length:Int)≤column):∀pv:List (Pk×Int),N8 s column level pv=(0,false)
 |[]=>Ou h
 |(p,v)::r=>by
  unfold N8
  split
  ·exact Ou h
  ·exact Ux h r
theorem HL(s:A4)(hr:C3 s=0)(x:J9)(k:Nat)(r:List Int)(hk:x.rows[k]?=some r)(hl:r.length=x.picks.length+1)(pk:x.picks.length≤1000)(column level:Int):A3 Tryz.prog 56 [sA s,X9 x,.i k,.i column,.i level] (Jr (N8 s column level (x.picks.zip r.tail))):=by
 have h1:=fun fr v=>Uw s hr column fr v level
 have nU:=E9 hk
 by_cases hc:column<1∨(s.cols.length:Int)≤column
 ·rw[Ux hc]
  obtain⟨pr,ver,picks,rows⟩:=x
  dsimp only at *
  have hX:X9 ⟨pr,ver,picks,rows⟩=.agg [.str pr,.i ver,.sl 2 (picks.map A8),.sl 1 (rows.map D4)]:=rfl
  rw[hX]
  refine B5 Tryz.func56 75 fun nL E h0=>?_
  have nM:rows.length≤9223372036854775807:=by
   have:=((nL (.agg [.str pr,.i ver,.sl 2 (picks.map A8),.sl 1 (rows.map D4)]) (by simp)).agg (.sl 1 (rows.map D4)) (by simp)).sl
   simpa using this
  clear nL
  repeat'((first|refine S2 ?_|(refine T6 ?_ ?_<;>intro h<;>try exact V1 h)|intro el nJ nK|intro el nJ|exact T4|refine T5 ?_ ?_|intro ex)<;>try conv=>whnf)
  all_goals first
   |(exfalso;omega)
   |exact I5 rfl rfl rfl
 ·have wh:(x.picks.zip r.tail).length=x.picks.length:=by rw[List.length_zip,List.length_tail];omega
  have tE:=fun k p v h1 h2=>@Mj x.picks r k p v h1 h2
  generalize hR:N8 s column level (x.picks.zip r.tail)=R
  generalize x.picks.zip r.tail=pv at *
  obtain⟨pr,ver,picks,rows⟩:=x
  dsimp only at *
  have hX:X9 ⟨pr,ver,picks,rows⟩=.agg [.str pr,.i ver,.sl 2 (picks.map A8),.sl 1 (rows.map D4)]:=rfl
  rw[hX]
  refine B5 Tryz.func56 75 fun nL E h0=>?_
  have nM:rows.length≤9223372036854775807:=by
   have:=((nL (.agg [.str pr,.i ver,.sl 2 (picks.map A8),.sl 1 (rows.map D4)]) (by simp)).agg (.sl 1 (rows.map D4)) (by simp)).sl
   simpa using this
  have rp:s.cols.length≤8:=(D2 hr).2.1
  clear nL
  repeat'((first|refine S2 ?_|(refine T6 ?_ ?_<;>intro h<;>try exact V1 h)|intro el nJ nK|intro el nJ|exact T4|refine T5 ?_ ?_|intro ex)<;>try conv=>whnf)
  all_goals first
   |(exfalso;omega)
   |skip
  refine B0 (ι:=Nat) (fun i=>⟨[(2,.i k),(3,.i column),(4,.i level),(5,.ref 0 0),(6,.ref 1 0),(12,.i i)],2,[(0,some (.box (sL s))),(1,some (.box [.str pr,.i ver,.sl 2 (picks.map A8),.sl 1 (rows.map D4)]))]⟩)
   (fun i=>i≤picks.length∧N8 s column level (pv.drop i)=R) (fun i=>picks.length-i) 0 ⟨Nat.zero_le _,hR⟩
   (A6 h0) (fun i hI=>?_)
  obtain⟨i1,i2⟩:=hI
  by_cases qi:i<picks.length
  ·obtain⟨p,hp⟩:∃p,picks[i]?=some p:=⟨_,List.getElem?_eq_getElem qi⟩
   obtain⟨v,hv⟩:∃v,r[i+1]?=some v:=⟨_,List.getElem?_eq_getElem (by omega)⟩
   have hq:=tE i p v hp hv
   have hp2:picks[((i:Nat):Int).toNat]?=some p:=hp
   have qq:r[((i:Int)+1).toNat]?=some v:=by rw[show ((i:Int)+1).toNat=i+1 by omega];exact hv
   have nX:rows[((k:Nat):Int).toNat]?=some r:=hk
   rw[F7 hq,N8]at i2
   have h2:=h1 p.lev v
   by_cases ug:p.col=column
   ·rw[if_pos ug]at i2
    rw[i2]at h2
    repeat'((first|(refine A2 (x:=p) hp2 (by omega) ?_)|(refine A2 (x:=r) nX (by omega) ?_)|(refine A2 (x:=v) qq (by omega) ?_)|refine A0 h2 ?_|(refine A9 ?_ ?_;kernel_rfl) |refine S2 ?_|(refine T6 ?_ ?_<;>intro h<;>try exact V1 h)|intro el nJ nK|intro el nJ|exact T4|refine T5 ?_ ?_|intro ex)<;>try conv=>whnf)
    all_goals first
     |(exfalso;omega)
     |exact I5 rfl rfl rfl
   ·rw[if_neg ug]at i2
    repeat'((first|(refine A2 (x:=p) hp2 (by omega) ?_)|(refine A9 ?_ ?_;kernel_rfl) |refine S2 ?_|(refine T6 ?_ ?_<;>intro h<;>try exact V1 h)|intro el nJ nK|intro el nJ|exact T4|refine T5 ?_ ?_|intro ex)<;>try conv=>whnf)
    all_goals first
     |(exfalso;omega)
     |exact⟨i+1,⟨by omega,i2⟩,by omega,A6 h0⟩
  ·have he:pv.drop i=[]:=List.drop_eq_nil_of_le (by omega)
   rw[he,N8]at i2
   have h2:=h1 0 0
   rw[i2]at h2
   repeat'((first|refine A0 h2 ?_|(refine A9 ?_ ?_;kernel_rfl) |refine S2 ?_|(refine T6 ?_ ?_<;>intro h<;>try exact V1 h)|intro el nJ nK|intro el nJ|exact T4|refine T5 ?_ ?_|intro ex)<;>try conv=>whnf)
   all_goals first
    |(exfalso;omega)
    |exact I5 rfl rfl rfl
end Go.Proofs.YtiphlhoclaogjaaGreatDoor
