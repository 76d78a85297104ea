/- Chapter 5: drawn conditions are right. Chapter 5: conditions out of others: what they need, and their truth values. Chapter 5: values that have a value at a level, and truth values from coarse values. Draws: drawn rows fit. -/
import Derived.Test.YtiphlhoclaogjaaGreatDoorQDr8
import Derived.Test.YtiphlhoclaogjaaGreatDoorQCm1
import Derived.Test.YtiphlhoclaogjaaGreatDoorQC3
import Derived.Test.YtiphlhoclaogjaaGreatDoorQCm2
set_option linter.unusedVariables false
set_option linter.unnecessarySimpa false
set_option linter.unusedSimpArgs false
set_option maxHeartbeats 64000000
namespace Go.Proofs.YtiphlhoclaogjaaGreatDoor
open Go Go.Av
attribute [local irreducible] C7 B1 D1 C8 DQ D0 C6 St.le A3 B8
set_option maxRecDepth 100000
theorem QR{s:A4}{c:B0}(h:G7 s c=0)(hk:c.kids=[]):T9 s c=0∧P2 c=1∧P9 c=1:=by
 rw[DO,if_pos h,DN,Gg,hk]
 exact⟨rfl,rfl,rfl⟩
theorem Tc(s:A4):G7 s (.mk 1 0 0 0 0 [])=0 :=
 Gi (by simp[B0.op,B0.col,B0.code,B0.lo,B0.hi,B0.kids,T8]) (by simp[B0.op])
theorem Td{s:A4}(hd:C3 s)(l:List UInt8)(a:Nat):G7 s (BT l s a).1=0∧(BT l s a).1.kids=[]:=by
 unfold BT
 dsimp only
 generalize B7 l a 5=q
 have h2:=(An (l:=l) (a:=q.2) hd.two.1).2
 have h3:=(An (l:=l) (a:=q.2) hd.two.2).2
 generalize S6 l q.2 s 2=k at *
 generalize S6 l q.2 s 3=m at *
 obtain⟨k1,k2⟩:=k
 obtain⟨m1,m2⟩:=m
 dsimp only at h2 h3 ⊢
 obtain⟨x,hx⟩:∃x,s.cols[m1]?=some x:=⟨_,List.getElem?_eq_getElem h3.1⟩
 have uA:B4 s m1=x:=C0 (by simpa using hx)
 have hxb:-4≤x.low∧x.low≤2:=by
  rw[uA]at h3
  rcases hd.col hx with ⟨_,rfl⟩|⟨_,rfl|rfl⟩|⟨_,nm,hm⟩
  ·cases h3.2
  ·cases h3.2
  ·cases h3.2
  ·exact hm.low
 split
 ·refine⟨?_,rfl⟩
  obtain⟨c,hc⟩:∃c,s.cols[k1]?=some c:=⟨_,List.getElem?_eq_getElem h2.1⟩
  have nt:B4 s k1=c:=C0 (by simpa using hc)
  have oM:1≤(B9 s (B4 s k1)).2.length:=by
   rw[nt]at h2 ⊢
   obtain⟨_,e,h5,_⟩:=hd.lvs hc h2.2
   rw[e]at h5
   have:=Aj (B9 s c).1 (B9 s c).2 (C4 (B9 s c).1 (B9 s c).2-1)
   omega
  have hn:=G1 l k2 (n:=(B9 s (B4 s k1)).2.length) (by omega)
  refine WY (by simp[B0.op,B0.col,B0.code,B0.lo,B0.hi,B0.kids,T8]) rfl ⟨?_,?_,?_⟩ ?_
  ·show (0:Int)≤(k1:Int);omega
  ·show (k1:Int)<s.cols.length;omega
  ·exact h2.2
  ·show ¬(((B7 l k2 (B9 s (B4 s k1)).2.length).1:Int)<0∨((B9 s (B4 s k1)).2.length:Int)≤((B7 l k2 (B9 s (B4 s k1)).2.length).1:Int))
   omega
 ·split
  ·refine⟨?_,rfl⟩
   have yR:=G1 l m2 (n:=44) (by omega)
   have yg:=G1 l (B7 l m2 44).2 (n:=30) (by omega)
   rw[uA]
   refine WZ (by simp[B0.op,B0.col,B0.code,B0.lo,B0.hi,B0.kids,T8]) rfl ⟨?_,?_,?_⟩ ?_
   ·show (0:Int)≤(m1:Int);omega
   ·show (m1:Int)<s.cols.length;omega
   ·exact h3.2
   ·show ¬(x.low+(-3+((B7 l m2 44).1:Int))+((B7 l (B7 l m2 44).2 30).1:Int)<x.low+(-3+((B7 l m2 44).1:Int))∨x.low+(-3+((B7 l m2 44).1:Int)) < -1000000∨1000000<x.low+(-3+((B7 l m2 44).1:Int))+((B7 l (B7 l m2 44).2 30).1:Int))
    omega
  ·split
   ·split
    ·refine⟨?_,rfl⟩
     rename_i ho
     rw[uA]at ho
     refine Wa (x:=x) (by simp[B0.op,B0.col,B0.code,B0.lo,B0.hi,B0.kids,T8]) rfl ⟨?_,?_,?_⟩ ?_ ho
     ·show (0:Int)≤(m1:Int);omega
     ·show (m1:Int)<s.cols.length;omega
     ·exact h3.2
     ·show s.cols[((m1:Nat):Int).toNat]?=some x
      rw[Int.toNat_natCast];exact hx
    ·exact⟨Tc s,rfl⟩
   ·exact⟨Tc s,rfl⟩
theorem Hj{s:A4}(hd:C3 s)(l:List UInt8):∀d a,T9 s (R1 l s d a).1=0∧P2 (R1 l s d a).1+1≤2 ^ (d+1)∧P9 (R1 l s d a).1≤d+1
 |0,a=>by
  obtain⟨h1,h2⟩:=Td hd l a
  obtain⟨h3,h4,h5⟩:=QR h1 h2
  show T9 s (BT l s a).1=0∧_
  exact⟨h3,by show P2 (BT l s a).1+1≤_;rw[h4];decide,by show P9 (BT l s a).1≤_;omega⟩
 |d+1,a=>by
  have hp:2 ^ (d+1+1)=2*2 ^ (d+1):=by rw[Nat.pow_succ];omega
  have oA:2≤2 ^ (d+1):=by rw[Nat.pow_succ];have:=Nat.one_le_two_pow (n:=d);omega
  unfold R1
  dsimp only
  generalize B7 l a 5=q
  obtain⟨x1,x2,x3⟩:=Hj hd l d q.2
  generalize R1 l s d q.2=x at *
  obtain⟨y1,y2,y3⟩:=Hj hd l d x.2
  generalize R1 l s d x.2=y at *
  have two:∀o:Int,o=5∨o=6→G7 s (.mk o 0 0 0 0 [x.1,y.1])=0:=by
   intro o ho
   refine Gi ?_ ?_
   ·rcases ho with rfl|rfl<;>simp[B0.op,B0.col,B0.code,B0.lo,B0.hi,B0.kids,T8]
   ·rcases ho with rfl|rfl<;>simp[B0.op]
  have xD:∀o:Int,o=5∨o=6→T9 s (.mk o 0 0 0 0 [x.1,y.1])=0∧P2 (.mk o 0 0 0 0 [x.1,y.1])+1≤2 ^ (d+1+1)∧P9 (.mk o 0 0 0 0 [x.1,y.1])≤d+1+1:=by
   intro o ho
   rw[DO,if_pos (two o ho)]
   refine⟨?_,?_,?_⟩
   ·show X4 s [x.1,y.1]=0
    simp[X4,x1,y1]
   ·show X3 [x.1,y.1]+1+1≤_
    simp only[X3];omega
   ·show V4 [x.1,y.1] 0+1≤_
    simp only[V4];omega
  split
  ·have h7:G7 s (.mk 7 0 0 0 0 [x.1])=0:=Gi (by simp[B0.op,B0.col,B0.code,B0.lo,B0.hi,B0.kids,T8]) (by simp[B0.op])
   dsimp only
   rw[DO,if_pos h7]
   refine⟨?_,?_,?_⟩
   ·show X4 s [x.1]=0
    simp[X4,x1]
   ·show X3 [x.1]+1+1≤_
    simp only[X3];omega
   ·show V4 [x.1] 0+1≤_
    simp only[V4];omega
  ·split
   ·exact xD 5 (.inl rfl)
   ·split
    ·exact xD 6 (.inr rfl)
    ·obtain⟨h1,h2⟩:=Td hd l q.2
     obtain⟨h3,h4,h5⟩:=QR h1 h2
     exact⟨h3,by rw[h4];omega,by omega⟩
theorem Hk{s:A4}(hd:C3 s)(l:List UInt8)(d a:Nat)(h:d≤4):H0 s (R1 l s d a).1=0∧P2 (R1 l s d a).1≤31:=by
 obtain⟨h1,h2,h3⟩:=Hj hd l d a
 have hp:2 ^ (d+1)≤2 ^ 5:=Nat.pow_le_pow_right (by omega) (by omega)
 have hp2:2 ^ 5=32:=by decide
 unfold H0
 rw[if_pos hd.ok,if_neg (by omega),if_neg (by omega)]
 exact⟨h1,by omega⟩
theorem bU{s:A4}{o:Int}{ks:List B0}(ho:o=5∨o=6∨o=7)(hl:(ks.length:Int)=T8 o):G7 s (.mk o 0 0 0 0 ks)=0:=by
 refine Gi ⟨?_,hl,?_,?_,?_⟩ ?_
 ·show 1≤o∧o≤7;omega
 ·show ¬(o≠2∧o≠3∧o≠4∧(0:Int)≠0);omega
 ·show ¬(o≠2∧(0:Int)≠0);omega
 ·exact .inr ⟨rfl,rfl⟩
 ·show o≠2∧o≠3∧o≠4;omega
theorem ig{s:A4}{x:B0}(hx:T9 s x=0):T9 s (.mk 7 0 0 0 0 [x])=0:=by
 have h1:G7 s (.mk 7 0 0 0 0 [x])=0:=bU (by omega) (by rw[(KO 7).2.1 rfl];rfl)
 rw[DO,if_pos h1]
 show X4 s [x]=0
 simp[X4,hx]
theorem ii{s:A4}{c:B0}(hr:C5 s=0)(h1:P2 c≤40)(h2:P9 c≤10)(h3:T9 s c=0):H0 s c=0:=by
 unfold H0
 rw[if_pos hr,if_neg (by omega),if_neg (by omega)]
 exact h3
theorem ij(o:Int)(x:B0):P2 (.mk o 0 0 0 0 [x])=P2 x+1∧P9 (.mk o 0 0 0 0 [x])=P9 x+1:=by
 constructor
 ·show X3 [x]+1=_
  simp only[X3]<;>omega
 ·show V4 [x] 0+1=_
  simp only[V4]<;>omega
theorem ik{s:A4}{c:B0}(h:H0 s c=0):L3 s c=K8 (o9 s (X5 c)) 0 s.cols.length:=by
 unfold L3;rw[if_pos h]
theorem Te{s:A4}{c:B0}{p:Pk}(h:p∈L3 s c):H0 s c=0∧0≤p.col∧p.col<s.cols.length∧p.lev=o9 s (X5 c) p.col.toNat∧0<p.lev:=by
 by_cases hc:H0 s c=0
 ·rw[ik hc]at h
  obtain⟨h1,h2,h3,h4⟩:=AR h
  exact⟨hc,by omega,by omega,h3,h4⟩
 ·unfold L3 at h;rw[if_neg hc]at h;cases h
theorem Df(s:A4)(c:B0):(L3 s c).length≤s.cols.length:=by
 unfold L3
 split
 ·exact y6 _ _ _
 ·simp
theorem Nj{l qF:List Pk}(h:∀n∈qF,∃p∈l,p.col=n.col∧n.lev≤p.lev):z4 l qF=true:=by
 unfold z4
 rw[Bool.not_eq_true',List.any_eq_false]
 intro n hn
 obtain⟨p,hp,h1⟩:=h n hn
 rw[Bool.not_eq_true',Bool.not_eq_false,List.any_eq_true]
 exact⟨p,hp,decide_eq_true h1⟩
def v8(f:Nat→Int)(v:Int):List Nat→Int×Bool
 |[]=>(0,false)
 |x::r=>if f x=v then ((x:Int),true)else v8 f v r
theorem Hl{f:Nat→Int}{v:Int}:∀{l:List Nat},((v8 f v l).2=true∧∃x∈l,f x=v∧(v8 f v l).1=x)∨(v8 f v l=(0,false)∧∀x∈l,f x≠v)
 |[]=>.inr ⟨rfl,fun x h=>by cases h⟩
 |x::r=>by
  unfold v8
  by_cases e:f x=v
  ·rw[if_pos e];exact .inl ⟨rfl,x,List.mem_cons_self ..,e,rfl⟩
  ·rw[if_neg e]
   rcases Hl (f:=f) (v:=v) (l:=r)with ⟨h1,y,hy,h2,h3⟩|⟨h1,h2⟩
   ·exact .inl ⟨h1,y,List.mem_cons_of_mem _ hy,h2,h3⟩
   ·refine .inr ⟨h1,fun y hy=>?_⟩
    rcases List.mem_cons.1 hy with rfl|hy
    ·exact e
    ·exact h2 y hy
theorem LH{f g:Nat→Int}{v:Int}:∀{l:List Nat},(∀x∈l,f x=g x)→v8 f v l=v8 g v l
 |[],_=>rfl
 |x::r,h=>by
  unfold v8
  rw[h x (by simp),LH fun y hy=>h y (by simp[hy])]
def QT(s:A4)(column level:Int)(x:Nat):Int:=N3 (B9 s (B4 s column)).1 (B9 s (B4 s column)).2 x level
def N5(s:A4)(column level v:Int):Int×Bool :=
 if (B4 s column).kind=3 then (if 0<level∧v=(-1099511627776)then (v,(B4 s column).opt)else ((M1 (B4 s column) level v).1,(M1 (B4 s column) level v).2.2))
 else v8 (QT s column level) v (H4 s column)
theorem Ox{s:A4}(hr:C5 s=0){column:Int}{c:D6}(h1:1≤column)(hc:s.cols[column.toNat]?=some c):(c.kind=2∨c.kind=3)∧(c.kind=3→meaE c=0):=by
 obtain⟨_,_,_,h4,_⟩:=E9 hr
 have h5:=(v4 (h4 _ _ hc)).2.2.1
 refine⟨?_,fun h=>CA h5 h⟩
 rcases LA h5 with h|h
 ·omega
 ·exact h
def Hm(col:Int)(pv:List (Pk×Int)):Int×Int:=pv.foldl (fun z q=>if q.1.col=col then (q.1.lev,q.2)else z) (0,0)
theorem Yb(col:Int)(l:List (Pk×Int))(q:Pk×Int):Hm col (l++[q])=if q.1.col=col then (q.1.lev,q.2)else Hm col l:=by
 unfold Hm;rw[List.foldl_append];rfl
def v9(s:A4)(pv:List (Pk×Int))(i:Nat):Int:=if i=0∧(Hm i pv=(0,0))then 0 else (N5 s i (Hm i pv).1 (Hm i pv).2).1
def p7(s:A4)(row:List Int):Prop:=row.length=s.cols.length∧∀(i:Nat) c,s.cols[i]?=some c→i8 s c (row.getD i 0)
theorem Nk{s:A4}(hd:C3 s)(l:List UInt8):∀(n k:Nat) (x:List Int×Nat),k+n=s.cols.length→x.1.length=k→(∀(i:Nat) c,i<k→s.cols[i]?=some c→i8 s c (x.1.getD i 0))→p7 s (rowFrom l s k x n).1
 |0,k,x,hk,hl,h=>by
  refine⟨by show x.1.length=_;omega,fun i c hc=>h i c ?_ hc⟩
  have:=(List.getElem?_eq_some_iff.1 hc).1
  omega
 |n+1,k,x,hk,hl,h=>by
  obtain⟨c0,qt⟩:∃c,s.cols[k]?=some c:=⟨_,List.getElem?_eq_getElem (by omega)⟩
  refine Nk hd l n (k+1) _ (by omega) (by simp[hl]) fun i c hi hc=>?_
  dsimp only
  by_cases e:i<k
  ·have:=h i c e hc
   rw[List.getD_eq_getElem?_getD]at this ⊢
   rw[List.getElem?_append_left (by omega)]
   exact this
  ·obtain rfl:i=k:=by omega
   rw[qt]at hc
   cases hc
   rw[List.getD_eq_getElem?_getD,List.getElem?_append_right (by omega),hl,Nat.sub_self]
   exact Wi hd l x.2 qt
theorem il{s:A4}(hd:C3 s)(l:List UInt8)(a:Nat):p7 s (j7 l a s).1 :=
 Nk hd l s.cols.length 0 ([],a) (by omega) rfl fun i c hi=>absurd hi (Nat.not_lt_zero _)
theorem i8.hold{s:A4}{c:D6}{v:Int}(h:i8 s c v):Ai s c v=true:=by
 unfold Ai
 rcases h with ⟨hk,h1,h2⟩|⟨hk,n,rfl,hn⟩|⟨hk,h1⟩
 ·rw[if_pos hk];exact decide_eq_true (by omega)
 ·rw[if_neg (by omega),if_pos hk]
  obtain⟨g1,g2,g3⟩:=On hn
  have:=(Hc g1 g2).1 (by rw[←EZ ⟨by omega,by omega,g1⟩];simpa using g3)
  rw[this,decide_eq_true (show (0:Int)≤n∧(n:Int)<(B9 s c).2.length by omega)]
  rfl
 ·rw[if_neg (by omega),if_neg (by omega)]
  rcases h1 with h1|h1
  ·rw[decide_eq_true h1];rfl
  ·rw[h1.1,h1.2];simp
theorem io{s:A4}(hr:C5 s=0){row:List Int}(h:p7 s row):s8 s row=0:=by
 unfold s8
 rw[if_pos hr,if_pos]
 unfold KM
 rw[decide_eq_true h.1,Bool.true_and,Bool.not_eq_true',List.any_eq_false]
 rintro ⟨c,v⟩ hm
 obtain⟨i,hi⟩:=List.mem_iff_getElem?.1 hm
 rw[List.getElem?_zip_eq_some]at hi
 have:=(h.2 i c hi.1)
 rw[D2 hi.2]at this
 unfold KL
 rw[this.hold]
 decide
theorem ip{s:A4}(hr:C5 s=0){column level:Int}{c:D6}(h1:1≤column)(hc:s.cols[column.toNat]?=some c)(h4:level≤F2 s column)(hk:c.kind=3):level≤c.widths.length:=by
 have nf:=D4 hc
 unfold F2 at h4
 rw[if_neg (by omega),C0 hc,N0,if_neg (by omega)]at h4
 exact h4
theorem JY(s:A4)(hr:C5 s=0)(column level v:Int)(c:D6)(h1:1≤column)(hc:s.cols[column.toNat]?=some c)(h3:0≤level)(h4:level≤F2 s column):A3 Tryz.prog 158 [sA s,.i column,.i level,.i v] (.tup [.i (N5 s column level v).1,.b (N5 s column level v).2]):=by
 obtain⟨hk,hm⟩:=Ox hr h1 hc
 unfold N5
 rw[C0 hc]
 by_cases qi:c.kind=3
 ·rw[if_pos qi]
  have ob:=ip hr h1 hc h4 qi
  have uU:=QF c level v (hm qi) h3 ob
  by_cases hmv:0<level∧v=(-1099511627776)
  ·rw[if_pos hmv]
   refine C1 Tryz.func158 68 fun nd E h0=>?_
   clear nd
   repeat'((first|(refine A2 (x:=c) hc (by omega) ?_) |refine S2 ?_|(refine T6 ?_ ?_<;>intro h<;>try exact V1 h)|intro el nX nY|intro el nX|exact T4|refine T5 ?_ ?_|intro ex)<;>try conv=>whnf)
   all_goals first
    |(exfalso;omega)
    |exact V2 rfl rfl rfl
  ·rw[if_neg hmv]
   generalize M1 c level v=S at *
   obtain⟨a,b,ok⟩:=S
   refine C1 Tryz.func158 68 fun nd E h0=>?_
   clear nd
   repeat'((first|(refine A2 (x:=c) hc (by omega) ?_)|refine A1 uU ?_ |refine S2 ?_|(refine T6 ?_ ?_<;>intro h<;>try exact V1 h)|intro el nX nY|intro el nX|exact T4|refine T5 ?_ ?_|intro ex)<;>try conv=>whnf)
   all_goals first
    |(exfalso;omega)
    |exact V2 rfl rfl rfl
 ·rw[if_neg qi]
  have nr:c.kind=2:=by omega
  have hl:=AP.lst hr (List.mem_of_getElem? hc) nr
  obtain⟨lx,ov⟩:∃l,s.lists[c.lst.toNat]?=some l:=⟨_,List.getElem?_eq_getElem (by omega)⟩
  have om:chk lx.1 lx.2=0:=(E9 hr).2.2.1 _ (List.mem_of_getElem? ov)
  have hg:=BG om
  have uO:=m5 (nm:=lx.1) (cs:=lx.2) (by omega)
  have oU:=Aj lx.1 lx.2 (C4 lx.1 lx.2-1)
  have qR:=Dd lx.1 lx.2 (by omega)
  have uf:=Ge lx.1 lx.2 (C4 lx.1 lx.2-1) (by omega)
  have rm:=fun (leaf:Nat)=>KI lx.1 lx.2 leaf level (by omega)
  have e1:H4 s column=I5 lx.1 lx.2 (C4 lx.1 lx.2-1):=by
   unfold H4
   rw[C0 hc,I3 ov]
  have e2:QT s column level=fun x:Nat=>N3 lx.1 lx.2 x level:=by
   funext x
   unfold QT
   rw[C0 hc,I3 ov]
  rw[e1,e2]
  generalize I5 lx.1 lx.2 (C4 lx.1 lx.2-1)=L at *
  refine C1 Tryz.func158 68 fun nd E h0=>?_
  clear nd
  repeat'((first|(refine A2 (x:=c) hc (by omega) ?_)|(refine A2 (x:=lx) ov (by omega) ?_)|refine A1 qR ?_|refine A1 uf ?_|(refine B5 ?_ ?_;kernel_rfl) |refine S2 ?_|(refine T6 ?_ ?_<;>intro h<;>try exact V1 h)|intro el nX nY|intro el nX|exact T4|refine T5 ?_ ?_|intro ex)<;>try conv=>whnf)
  all_goals first
   |(exfalso;omega)
   |skip
  refine B2 (ι:=Nat) (fun k=>⟨[(2,.i level),(3,.i v),(14,.ref 2 0),(54,.sl 1 (L.map iA)),(55,.i L.length),(56,.i k)],3,[(2,some (.box (x4 lx)))]⟩)
   (fun k=>k≤L.length∧v8 (fun x:Nat=>N3 lx.1 lx.2 x level) v L=v8 (fun x:Nat=>N3 lx.1 lx.2 x level) v (L.drop k)) (fun k=>L.length-k) 0 ⟨Nat.zero_le _,rfl⟩
   (A6 h0) (fun k hI=>?_)
  obtain⟨qA,hI⟩:=hI
  repeat'((first|refine A1 (rm _) ?_ |refine S2 ?_|(refine T6 ?_ ?_<;>intro h<;>try exact V1 h)|intro el nX nY|intro el nX|exact T4|refine T5 ?_ ?_|intro ex)<;>try conv=>whnf)
  all_goals first
   |exact V2 rfl rfl (by rw[hI,H1 nX,v8,if_pos h];rfl)
   |exact V2 rfl rfl (by rw[hI,Z0 h];rfl)
   |exact⟨k+1,⟨by omega,by rw[hI,H1 nX,v8,if_neg h]⟩,by omega,A6 h0⟩
theorem Yc{s:A4}{l:List (Pk×Int)}{q:Pk×Int}(h1:1≤q.1.col)(i:Nat):v9 s (l++[q]) i=if q.1.col.toNat=i then (N5 s q.1.col q.1.lev q.2).1 else v9 s l i:=by
 unfold v9
 rw[Yb]
 by_cases e:q.1.col.toNat=i
 ·have e2:q.1.col=(i:Int):=by omega
  rw[if_pos e2,if_pos e,if_neg (by omega),e2]
 ·rw[if_neg (show ¬q.1.col=(i:Int) by omega),if_neg e]
theorem Ed{f g:Nat→Int}{n:Nat}(h:∀i,i<n→f i=g i):U0 f n=U0 g n:=by
 unfold U0
 refine List.map_congr_left fun i hi=>?_
 rw[h i (List.mem_range.1 hi)]
def p8(s:A4)(pv:List (Pk×Int)):Bool:=pv.all fun q=>(N5 s q.1.col q.1.lev q.2).2
def Lv(s:A4)(c:B0)(pv:List (Pk×Int)):Int:=if p8 s pv=true then BQ s c ((List.range s.cols.length).map (v9 s pv))else 0
theorem Oy{α:Type}{p:α→Bool}{l:List α}{k:Nat}{x:α}(hx:l[k]?=some x)(h:p x=false):l.all p=false:=by
 rw[List.all_eq_false]
 exact⟨x,List.mem_of_getElem? hx,by rw[h];decide⟩
theorem CD{s:A4}{l:List Pk}(h:J7 s l=0):∀(k:Nat) p,l[k]?=some p→1≤p.col∧p.col<s.cols.length∧0≤p.lev∧p.lev≤F2 s p.col:=by
 unfold J7 at h
 by_cases hr:C5 s=0
 ·rw[if_pos hr]at h
  intro k p hp
  have:=O5 h k p hp
  rw[Nat.zero_add]at this
  unfold Cd at this
  by_cases hq:j3 s p=0
  ·unfold j3 at hq
   split at hq
   ·cases hq
   ·rename_i h1
    split at hq
    ·cases hq
    ·rename_i h2
     unfold F2 at h1 ⊢
     unfold F2 at h2
     split at h1
     ·omega
     ·rename_i h3
      rw[if_neg h3]at h2 ⊢
      omega
  ·rw[if_neg hq]at this
   exact absurd this hq
 ·rw[if_neg hr]at h
  exact absurd h hr
theorem bV(s:A4)(hr:C5 s=0)(c:B0)(oz:T9 s c=0)(picks:List Pk)(values:List Int)(hp:J7 s picks=0)(hl:values.length=picks.length):A3 Tryz.prog 130 [sA s,E0 c,.sl 2 (picks.map B6),.sl 1 (values.map wA)] (.i (Lv s c (picks.zip values))):=by
 have xz:=CD hp
 have hn:=(E9 hr).2.1
 have hh:=YW s hr c oz ((List.range s.cols.length).map (v9 s (picks.zip values))) (by simp)
 unfold Lv
 have zx:(picks.zip values).length=picks.length:=by rw[List.length_zip];omega
 generalize wU:picks.zip values=pv at *
 have oy:∀(k:Nat) p v,picks[k]?=some p→values[k]?=some v→pv[k]?=some (p,v):=fun k p v h1 h2=>by
  rw[←wU,List.getElem?_zip_eq_some];exact⟨h1,h2⟩
 rw[G0]at *
 refine C1 Tryz.func130 66 fun nd E h0=>?_
 have nZ:picks.length≤9223372036854775807:=by have:=(nd (.sl 2 (picks.map B6)) (by simp)).sl;simpa using this
 clear nd
 repeat'((first|refine S2 ?_|(refine T6 ?_ ?_<;>intro h<;>try exact V1 h)|intro el nX nY|intro el nX|exact T4|refine T5 ?_ ?_|intro ex)<;>try conv=>whnf)
 refine B2 (ι:=Nat) (fun i=>⟨[(2,.sl 2 (picks.map B6)),(3,.sl 1 (values.map wA)),(4,.ref 0 0),(5,.ref 1 0),(9,.row 2 0 s.cols.length),(10,.i i)],3,[(0,some (.box (sL s))),(1,some (.box (P1 c))),(2,some (.row 3 1 0 (U0 (fun j=>if j=0 then 0 else if j<i then (N5 s j 0 0).1 else 0) s.cols.length)))]⟩)
  (fun i=>1≤i∧i≤max 1 s.cols.length) (fun i=>s.cols.length-i) 1 ⟨Nat.le_refl _,by omega⟩
  (B3 h0 rfl ⟨rfl,rfl,rfl,rfl,rfl,rfl,trivial⟩ ⟨rfl,rfl,⟨0,congrArg (D3.row 3 1 0) (by rw[Int.toNat_natCast];refine Eq.trans ?_ (QN _).symm;exact Ed fun j hj=>by split;rfl;rw[if_neg (by omega)])⟩,trivial⟩ rfl rfl rfl) (fun i hI=>?_)
 obtain⟨wO,oW⟩:=hI
 by_cases nf:i<s.cols.length
 ·obtain⟨x,hx⟩:∃x,s.cols[i]?=some x:=⟨_,List.getElem?_eq_getElem nf⟩
  have ui:=JY s hr i 0 0 x (by omega) (by simpa using hx) (Int.le_refl _) (Oo hr (by omega) (by omega))
  have nl:(U0 (fun j=>if j=0 then 0 else if j<i then (N5 s j 0 0).1 else 0) s.cols.length)[((((i:Nat):Int).toNat:Nat):Int).toNat]?=some [.i (if i=0 then 0 else if i<i then (N5 s i 0 0).1 else 0)]:=by
   rw[Int.toNat_natCast,Int.toNat_natCast];exact Hh nf
  have od:(U0 (fun j=>if j=0 then 0 else if j<i then (N5 s j 0 0).1 else 0) s.cols.length).set i [.i (N5 s i 0 0).1]=U0 (fun j=>if j=0 then 0 else if j<i+1 then (N5 s j 0 0).1 else 0) s.cols.length:=by
   rw[Lr]
   refine Ed fun j hj=>?_
   by_cases e:i=j
   ·subst e
    rw[if_pos rfl,if_neg (by omega),if_pos (by omega)]
   ·rw[if_neg e]
    by_cases e0:j=0
    ·rw[if_pos e0,if_pos e0]
    ·rw[if_neg e0,if_neg e0]
     by_cases e1:j<i
     ·rw[if_pos e1,if_pos (by omega)]
     ·rw[if_neg e1,if_neg (by omega)]
  repeat'((first|refine A1 ui ?_ |refine S2 ?_|(refine T6 ?_ ?_<;>intro h<;>try exact V1 h)|intro el nX nY|intro el nX|exact T4|refine T5 ?_ ?_|intro ex)<;>try conv=>whnf)
  all_goals first
   |(exfalso;omega)
   |exact⟨i+1,by omega,by omega,B3 h0 rfl ⟨rfl,rfl,rfl,rfl,rfl,rfl,trivial⟩ ⟨rfl,rfl,⟨_,congrArg (D3.row 3 1 _) od.symm⟩,trivial⟩ rfl rfl rfl⟩
 ·have xf:U0 (fun j=>if j=0 then 0 else if j<i then (N5 s j 0 0).1 else 0) s.cols.length=U0 (v9 s []) s.cols.length:=Ed fun j hj=>by
   unfold v9 Hm
   by_cases e:j=0
   ·rw[if_pos e,if_pos ⟨e,rfl⟩]
   ·rw[if_neg e,if_pos (show j<i by omega),if_neg (fun hh:j=0∧_=>e hh.1)]
    rfl
  rw[xf]
  repeat'((first|refine S2 ?_|(refine T6 ?_ ?_<;>intro h<;>try exact V1 h)|intro el nX nY|intro el nX|exact T4|refine T5 ?_ ?_|intro ex)<;>try conv=>whnf)
  all_goals first
   |(exfalso;omega)
   |skip
  refine B2 (ι:=Nat) (fun k=>⟨[(3,.sl 1 (values.map wA)),(4,.ref 0 0),(5,.ref 1 0),(9,.row 2 0 s.cols.length),(34,.sl 2 (picks.map B6)),(35,.i picks.length),(36,.i k)],3,[(0,some (.box (sL s))),(1,some (.box (P1 c))),(2,some (.row 3 1 0 (U0 (v9 s (pv.take k)) s.cols.length)))]⟩)
   (fun k=>k≤picks.length∧p8 s (pv.take k)=true) (fun k=>picks.length-k) 0 ⟨Nat.zero_le _,rfl⟩
   (A6 h0) (fun k hK=>?_)
  obtain⟨qA,hK⟩:=hK
  by_cases no:k<picks.length
  ·obtain⟨p,qh⟩:∃p,picks[k]?=some p:=⟨_,List.getElem?_eq_getElem no⟩
   obtain⟨v,wS⟩:∃v,values[k]?=some v:=⟨_,List.getElem?_eq_getElem (by omega)⟩
   have hq:=oy k p v qh wS
   obtain⟨c1,c2,c3,c4⟩:=xz k p qh
   obtain⟨x,hx⟩:∃x,s.cols[p.col.toNat]?=some x:=⟨_,List.getElem?_eq_getElem (by omega)⟩
   have ui:=JY s hr p.col p.lev v x c1 hx c3 c4
   have oe:=fun i=>Yc (s:=s) (l:=pv.take k) (q:=(p,v)) c1 i
   rw[←I0 hq]at oe
   have pS:p8 s (pv.take (k+1))=(N5 s p.col p.lev v).2:=by
    unfold p8 at hK ⊢
    rw[I0 hq,List.all_append,hK]
    simp
   dsimp only at oe
   have sD:(N5 s p.col p.lev v).2=false→p8 s pv=false:=fun h=>Oy hq h
   generalize N5 s p.col p.lev v=S at *
   obtain⟨w,ok⟩:=S
   dsimp only at *
   cases ok
   ·rw[if_neg (by rw[sD rfl];decide)]
    repeat'((first|refine A1 ui ?_|(refine A2 (x:=p) qh (by omega) ?_)|(refine A2 (x:=v) wS (by omega) ?_)|(refine B5 ?_ ?_;kernel_rfl) |refine S2 ?_|(refine T6 ?_ ?_<;>intro h<;>try exact V1 h)|intro el nX nY|intro el nX|exact T4|refine T5 ?_ ?_|intro ex)<;>try conv=>whnf)
    all_goals first
     |(exfalso;omega)
     |exact A0 rfl rfl
   ·have nl:(U0 (v9 s (pv.take k)) s.cols.length)[((p.col.toNat:Nat):Int).toNat]?=some [.i (v9 s (pv.take k) p.col.toNat)]:=by
     rw[Int.toNat_natCast];exact Hh (by omega)
    repeat'((first|refine A1 ui ?_|(refine A2 (x:=p) qh (by omega) ?_)|(refine A2 (x:=v) wS (by omega) ?_)|(refine B5 ?_ ?_;kernel_rfl) |refine S2 ?_|(refine T6 ?_ ?_<;>intro h<;>try exact V1 h)|intro el nX nY|intro el nX|exact T4|refine T5 ?_ ?_|intro ex)<;>try conv=>whnf)
    all_goals first
     |(exfalso;omega)
     |exact⟨k+1,⟨by omega,pS⟩,by omega,B3 h0 rfl ⟨rfl,rfl,rfl,rfl,rfl,rfl,rfl,trivial⟩ ⟨rfl,rfl,⟨_,congrArg (D3.row 3 1 _) (by refine Eq.trans ?_ Lr.symm;exact Ed fun j hj=>oe j)⟩,trivial⟩ rfl rfl rfl⟩
  ·have qG:pv.take k=pv:=List.take_of_length_le (by omega)
   rw[qG]at hK ⊢
   rw[if_pos hK]
   have hh2:A3 Tryz.prog 182 [sA s,.agg (P1 c),.sl 1 (U0 (v9 s pv) s.cols.length)] (.i (BQ s c ((List.range s.cols.length).map (v9 s pv)))):=by
    have e:U0 (v9 s pv) s.cols.length=((List.range s.cols.length).map (v9 s pv)).map wA:=by unfold U0;rw[List.map_map];rfl
    rw[e];exact hh
   repeat'((first|refine J9 2 ?_|refine A1 hh2 ?_ |refine S2 ?_|(refine T6 ?_ ?_<;>intro h<;>try exact V1 h)|intro el nX nY|intro el nX|exact T4|refine T5 ?_ ?_|intro ex)<;>try conv=>whnf)
   all_goals first
    |(exfalso;omega)
    |exact A0 rfl rfl
end Go.Proofs.YtiphlhoclaogjaaGreatDoor
