/- Chapter 5: drawn conditions are right. Chapter 5: conditions out of others: what they need, and their truth values. Chapter 5: values that have a value at a level, and truth values from coarse values. Draws: drawn rows fit. -/
import Derived.Test.YtjkbhaaobhgkdabGreatDoorRDr8
import Derived.Test.YtjkbhaaobhgkdabGreatDoorRC1
import Derived.Test.YtjkbhaaobhgkdabGreatDoorRC3
import Derived.Test.YtjkbhaaobhgkdabGreatDoorRSx
set_option linter.unusedVariables false
set_option linter.unnecessarySimpa false
set_option linter.unusedSimpArgs false
set_option maxHeartbeats 64000000
namespace Go.Proofs.YtjkbhaaobhgkdabGreatDoor
open Go Go.Av
attribute [local irreducible] D0 B0 D2 C7 DQ D1 C8 St.le A3 B6
set_option maxRecDepth 100000
theorem QV{s:A4}{c:B1}(h:G4 s c=0)(hk:c.kids=[]):X0 s c=0∧R2 c=1∧R7 c=1:=by
 rw[Ez,if_pos h,Db,Gt,hk]
 exact⟨rfl,rfl,rfl⟩
theorem Tb(s:A4):G4 s (.mk 1 0 0 0 0 [])=0 :=
 Kc (by simp[B1.op,B1.col,B1.code,B1.lo,B1.hi,B1.kids,U0]) (by simp[B1.op])
theorem Tc{s:A4}(hd:C4 s)(l:List UInt8)(a:Nat):G4 s (Bn l s a).1=0∧(Bn l s a).1.kids=[]:=by
 unfold Bn
 dsimp only
 generalize B3 l a 5=q
 have h2:=(BL (l:=l) (a:=q.2) hd.two.1).2
 have h3:=(BL (l:=l) (a:=q.2) hd.two.2).2
 generalize R9 l q.2 s 2=k at *
 generalize R9 l q.2 s 3=m at *
 obtain⟨k1,k2⟩:=k
 obtain⟨m1,m2⟩:=m
 dsimp only at h2 h3 ⊢
 obtain⟨x,hx⟩:∃x,s.cols[m1]?=some x:=⟨_,List.getElem?_eq_getElem h3.1⟩
 have tX:B4 s m1=x:=B7 (by simpa using hx)
 have hxb:-4≤x.low∧x.low≤2:=by
  rw[tX]at h3
  rcases hd.col hx with ⟨_,rfl⟩|⟨_,rfl|rfl⟩|⟨_,nm,hm⟩
  ·cases h3.2
  ·cases h3.2
  ·cases h3.2
  ·exact hm.low
 split
 ·refine⟨?_,rfl⟩
  obtain⟨c,hc⟩:∃c,s.cols[k1]?=some c:=⟨_,List.getElem?_eq_getElem h2.1⟩
  have nh:B4 s k1=c:=B7 (by simpa using hc)
  have oF:1≤(C1 s (B4 s k1)).2.length:=by
   rw[nh]at h2 ⊢
   obtain⟨_,e,h5,_⟩:=hd.lvs hc h2.2
   rw[e]at h5
   have:=Cq (C1 s c).1 (C1 s c).2 (C3 (C1 s c).1 (C1 s c).2-1)
   omega
  have hn:=F9 l k2 (n:=(C1 s (B4 s k1)).2.length) (by omega)
  refine WX (by simp[B1.op,B1.col,B1.code,B1.lo,B1.hi,B1.kids,U0]) rfl ⟨?_,?_,?_⟩ ?_
  ·show (0:Int)≤(k1:Int);omega
  ·show (k1:Int)<s.cols.length;omega
  ·exact h2.2
  ·show ¬(((B3 l k2 (C1 s (B4 s k1)).2.length).1:Int)<0∨((C1 s (B4 s k1)).2.length:Int)≤((B3 l k2 (C1 s (B4 s k1)).2.length).1:Int))
   omega
 ·split
  ·refine⟨?_,rfl⟩
   have xy:=F9 l m2 (n:=44) (by omega)
   have yA:=F9 l (B3 l m2 44).2 (n:=30) (by omega)
   rw[tX]
   refine WY (by simp[B1.op,B1.col,B1.code,B1.lo,B1.hi,B1.kids,U0]) rfl ⟨?_,?_,?_⟩ ?_
   ·show (0:Int)≤(m1:Int);omega
   ·show (m1:Int)<s.cols.length;omega
   ·exact h3.2
   ·show ¬(x.low+(-3+((B3 l m2 44).1:Int))+((B3 l (B3 l m2 44).2 30).1:Int)<x.low+(-3+((B3 l m2 44).1:Int))∨x.low+(-3+((B3 l m2 44).1:Int)) < -1000000∨1000000<x.low+(-3+((B3 l m2 44).1:Int))+((B3 l (B3 l m2 44).2 30).1:Int))
    omega
  ·split
   ·split
    ·refine⟨?_,rfl⟩
     rename_i ho
     rw[tX]at ho
     refine WZ (x:=x) (by simp[B1.op,B1.col,B1.code,B1.lo,B1.hi,B1.kids,U0]) rfl ⟨?_,?_,?_⟩ ?_ ho
     ·show (0:Int)≤(m1:Int);omega
     ·show (m1:Int)<s.cols.length;omega
     ·exact h3.2
     ·show s.cols[((m1:Nat):Int).toNat]?=some x
      rw[Int.toNat_natCast];exact hx
    ·exact⟨Tb s,rfl⟩
   ·exact⟨Tb s,rfl⟩
theorem MG{s:A4}(hd:C4 s)(l:List UInt8):∀d a,X0 s (S6 l s d a).1=0∧R2 (S6 l s d a).1+1≤2 ^ (d+1)∧R7 (S6 l s d a).1≤d+1
 |0,a=>by
  obtain⟨h1,h2⟩:=Tc hd l a
  obtain⟨h3,h4,h5⟩:=QV h1 h2
  show X0 s (Bn l s a).1=0∧_
  exact⟨h3,by show R2 (Bn l s a).1+1≤_;rw[h4];decide,by show R7 (Bn l s a).1≤_;omega⟩
 |d+1,a=>by
  have hp:2 ^ (d+1+1)=2*2 ^ (d+1):=by rw[Nat.pow_succ];omega
  have nq:2≤2 ^ (d+1):=by rw[Nat.pow_succ];have:=Nat.one_le_two_pow (n:=d);omega
  unfold S6
  dsimp only
  generalize B3 l a 5=q
  obtain⟨x1,x2,x3⟩:=MG hd l d q.2
  generalize S6 l s d q.2=x at *
  obtain⟨y1,y2,y3⟩:=MG hd l d x.2
  generalize S6 l s d x.2=y at *
  have two:∀o:Int,o=5∨o=6→G4 s (.mk o 0 0 0 0 [x.1,y.1])=0:=by
   intro o ho
   refine Kc ?_ ?_
   ·rcases ho with rfl|rfl<;>simp[B1.op,B1.col,B1.code,B1.lo,B1.hi,B1.kids,U0]
   ·rcases ho with rfl|rfl<;>simp[B1.op]
  have wO:∀o:Int,o=5∨o=6→X0 s (.mk o 0 0 0 0 [x.1,y.1])=0∧R2 (.mk o 0 0 0 0 [x.1,y.1])+1≤2 ^ (d+1+1)∧R7 (.mk o 0 0 0 0 [x.1,y.1])≤d+1+1:=by
   intro o ho
   rw[Ez,if_pos (two o ho)]
   refine⟨?_,?_,?_⟩
   ·show Y4 s [x.1,y.1]=0
    simp[Y4,x1,y1]
   ·show Y3 [x.1,y.1]+1+1≤_
    simp only[Y3];omega
   ·show W9 [x.1,y.1] 0+1≤_
    simp only[W9];omega
  split
  ·have h7:G4 s (.mk 7 0 0 0 0 [x.1])=0:=Kc (by simp[B1.op,B1.col,B1.code,B1.lo,B1.hi,B1.kids,U0]) (by simp[B1.op])
   dsimp only
   rw[Ez,if_pos h7]
   refine⟨?_,?_,?_⟩
   ·show Y4 s [x.1]=0
    simp[Y4,x1]
   ·show Y3 [x.1]+1+1≤_
    simp only[Y3];omega
   ·show W9 [x.1] 0+1≤_
    simp only[W9];omega
  ·split
   ·exact wO 5 (.inl rfl)
   ·split
    ·exact wO 6 (.inr rfl)
    ·obtain⟨h1,h2⟩:=Tc hd l q.2
     obtain⟨h3,h4,h5⟩:=QV h1 h2
     exact⟨h3,by rw[h4];omega,by omega⟩
theorem YU{s:A4}(hd:C4 s)(l:List UInt8)(d a:Nat)(h:d≤4):J6 s (S6 l s d a).1=0∧R2 (S6 l s d a).1≤31:=by
 obtain⟨h1,h2,h3⟩:=MG hd l d a
 have hp:2 ^ (d+1)≤2 ^ 5:=Nat.pow_le_pow_right (by omega) (by omega)
 have hp2:2 ^ 5=32:=by decide
 unfold J6
 rw[if_pos hd.ok,if_neg (by omega),if_neg (by omega)]
 exact⟨h1,by omega⟩
theorem iV{s:A4}{c:B1}(h:J6 s c=0):L5 s c=K6 (s8 s (Y5 c)) 0 s.cols.length:=by
 unfold L5;rw[if_pos h]
theorem eF{s:A4}{c:B1}{p:Pk}(h:p∈L5 s c):J6 s c=0∧0≤p.col∧p.col<s.cols.length∧p.lev=s8 s (Y5 c) p.col.toNat∧0<p.lev:=by
 by_cases hc:J6 s c=0
 ·rw[iV hc]at h
  obtain⟨h1,h2,h3,h4⟩:=Aq h
  exact⟨hc,by omega,by omega,h3,h4⟩
 ·unfold L5 at h;rw[if_neg hc]at h;cases h
theorem Ds(s:A4)(c:B1):(L5 s c).length≤s.cols.length:=by
 unfold L5
 split
 ·exact AF _ _ _
 ·simp
theorem Td{l pu:List Pk}(h:∀n∈pu,∃p∈l,p.col=n.col∧n.lev≤p.lev):AM l pu=true:=by
 unfold AM
 rw[Bool.not_eq_true',List.any_eq_false]
 intro n hn
 obtain⟨p,hp,h1⟩:=h n hn
 rw[Bool.not_eq_true',Bool.not_eq_false,List.any_eq_true]
 exact⟨p,hp,decide_eq_true h1⟩
def Dt(f:Nat→Int)(v:Int):List Nat→Int×Bool
 |[]=>(0,false)
 |x::r=>if f x=v then ((x:Int),true)else Dt f v r
theorem Nq{f:Nat→Int}{v:Int}:∀{l:List Nat},((Dt f v l).2=true∧∃x∈l,f x=v∧(Dt f v l).1=x)∨(Dt f v l=(0,false)∧∀x∈l,f x≠v)
 |[]=>.inr ⟨rfl,fun x h=>by cases h⟩
 |x::r=>by
  unfold Dt
  by_cases e:f x=v
  ·rw[if_pos e];exact .inl ⟨rfl,x,List.mem_cons_self ..,e,rfl⟩
  ·rw[if_neg e]
   rcases Nq (f:=f) (v:=v) (l:=r)with ⟨h1,y,hy,h2,h3⟩|⟨h1,h2⟩
   ·exact .inl ⟨h1,y,List.mem_cons_of_mem _ hy,h2,h3⟩
   ·refine .inr ⟨h1,fun y hy=>?_⟩
    rcases List.mem_cons.1 hy with rfl|hy
    ·exact e
    ·exact h2 y hy
def Wh(s:A4)(column level:Int)(x:Nat):Int:=M6 (C1 s (B4 s column)).1 (C1 s (B4 s column)).2 x level
def R4(s:A4)(column level v:Int):Int×Bool :=
 if (B4 s column).kind=3 then (if 0<level∧v=(-1099511627776)then (v,(B4 s column).opt)else ((N8 (B4 s column) level v).1,(N8 (B4 s column) level v).2.2))
 else Dt (Wh s column level) v (J3 s column)
theorem Wi{s:A4}(hr:C5 s=0){column:Int}{c:D4}(h1:1≤column)(hc:s.cols[column.toNat]?=some c):(c.kind=2∨c.kind=3)∧(c.kind=3→meaE c=0):=by
 obtain⟨_,_,_,h4,_⟩:=F2 hr
 have h5:=(BF (h4 _ _ hc)).2.2.1
 refine⟨?_,fun h=>EC h5 h⟩
 rcases LK h5 with h|h
 ·omega
 ·exact h
def Hq(col:Int)(pv:List (Pk×Int)):Int×Int:=pv.foldl (fun z q=>if q.1.col=col then (q.1.lev,q.2)else z) (0,0)
theorem YV(col:Int)(l:List (Pk×Int))(q:Pk×Int):Hq col (l++[q])=if q.1.col=col then (q.1.lev,q.2)else Hq col l:=by
 unfold Hq;rw[List.foldl_append];rfl
def AZ(s:A4)(pv:List (Pk×Int))(i:Nat):Int:=if i=0∧(Hq i pv=(0,0))then 0 else (R4 s i (Hq i pv).1 (Hq i pv).2).1
def o9(s:A4)(row:List Int):Prop:=row.length=s.cols.length∧∀(i:Nat) c,s.cols[i]?=some c→c9 s c (row.getD i 0)
theorem Nr{s:A4}(hd:C4 s)(l:List UInt8):∀(n k:Nat) (x:List Int×Nat),k+n=s.cols.length→x.1.length=k→(∀(i:Nat) c,i<k→s.cols[i]?=some c→c9 s c (x.1.getD i 0))→o9 s (rowFrom l s k x n).1
 |0,k,x,hk,hl,h=>by
  refine⟨by show x.1.length=_;omega,fun i c hc=>h i c ?_ hc⟩
  have:=(List.getElem?_eq_some_iff.1 hc).1
  omega
 |n+1,k,x,hk,hl,h=>by
  obtain⟨c0,qv⟩:∃c,s.cols[k]?=some c:=⟨_,List.getElem?_eq_getElem (by omega)⟩
  refine Nr hd l n (k+1) _ (by omega) (by simp[hl]) fun i c hi hc=>?_
  dsimp only
  by_cases e:i<k
  ·have:=h i c e hc
   rw[List.getD_eq_getElem?_getD]at this ⊢
   rw[List.getElem?_append_left (by omega)]
   exact this
  ·obtain rfl:i=k:=by omega
   rw[qv]at hc
   cases hc
   rw[List.getD_eq_getElem?_getD,List.getElem?_append_right (by omega),hl,Nat.sub_self]
   exact Wg hd l x.2 qv
theorem iW{s:A4}(hd:C4 s)(l:List UInt8)(a:Nat):o9 s (j5 l a s).1 :=
 Nr hd l s.cols.length 0 ([],a) (by omega) rfl fun i c hi=>absurd hi (Nat.not_lt_zero _)
theorem c9.hold{s:A4}{c:D4}{v:Int}(h:c9 s c v):BG s c v=true:=by
 unfold BG
 rcases h with ⟨hk,h1,h2⟩|⟨hk,n,rfl,hn⟩|⟨hk,h1⟩
 ·rw[if_pos hk];exact decide_eq_true (by omega)
 ·rw[if_neg (by omega),if_pos hk]
  obtain⟨g1,g2,g3⟩:=Ou hn
  have:=(Hh g1 g2).1 (by rw[←Ek ⟨by omega,by omega,g1⟩];simpa using g3)
  rw[this,decide_eq_true (show (0:Int)≤n∧(n:Int)<(C1 s c).2.length by omega)]
  rfl
 ·rw[if_neg (by omega),if_neg (by omega)]
  rcases h1 with h1|h1
  ·rw[decide_eq_true h1];rfl
  ·rw[h1.1,h1.2];simp
theorem iX{s:A4}(hr:C5 s=0){row:List Int}(h:o9 s row):s6 s row=0:=by
 unfold s6
 rw[if_pos hr,if_pos]
 unfold KZ
 rw[decide_eq_true h.1,Bool.true_and,Bool.not_eq_true',List.any_eq_false]
 rintro ⟨c,v⟩ hm
 obtain⟨i,hi⟩:=List.mem_iff_getElem?.1 hm
 rw[List.getElem?_zip_eq_some]at hi
 have:=(h.2 i c hi.1)
 rw[D3 hi.2]at this
 unfold KY
 rw[this.hold]
 decide
theorem iY{s:A4}(hr:C5 s=0){column level:Int}{c:D4}(h1:1≤column)(hc:s.cols[column.toNat]?=some c)(h4:level≤F0 s column)(hk:c.kind=3):level≤c.widths.length:=by
 have nR:=D6 hc
 unfold F0 at h4
 rw[if_neg (by omega),B7 hc,N7,if_neg (by omega)]at h4
 exact h4
theorem Jd(s:A4)(hr:C5 s=0)(column level v:Int)(c:D4)(h1:1≤column)(hc:s.cols[column.toNat]?=some c)(h3:0≤level)(h4:level≤F0 s column):A3 Tryz.prog 100 [sA s,.i column,.i level,.i v] (.tup [.i (R4 s column level v).1,.b (R4 s column level v).2]):=by
 obtain⟨hk,hm⟩:=Wi hr h1 hc
 unfold R4
 rw[B7 hc]
 by_cases rT:c.kind=3
 ·rw[if_pos rT]
  have ob:=iY hr h1 hc h4 rT
  have uG:=QI c level v (hm rT) h3 ob
  by_cases hmv:0<level∧v=(-1099511627776)
  ·rw[if_pos hmv]
   refine C0 Tryz.func100 68 fun nQ E h0=>?_
   clear nQ
   repeat'((first|(refine A2 (x:=c) hc (by omega) ?_) |refine S2 ?_|(refine T6 ?_ ?_<;>intro h<;>try exact V1 h)|intro el nN nP|intro el nN|exact T4|refine T5 ?_ ?_|intro ex)<;>try conv=>whnf)
   all_goals first
    |(exfalso;omega)
    |exact T8 rfl rfl rfl
  ·rw[if_neg hmv]
   generalize N8 c level v=S at *
   obtain⟨a,b,ok⟩:=S
   refine C0 Tryz.func100 68 fun nQ E h0=>?_
   clear nQ
   repeat'((first|(refine A2 (x:=c) hc (by omega) ?_)|refine A1 uG ?_ |refine S2 ?_|(refine T6 ?_ ?_<;>intro h<;>try exact V1 h)|intro el nN nP|intro el nN|exact T4|refine T5 ?_ ?_|intro ex)<;>try conv=>whnf)
   all_goals first
    |(exfalso;omega)
    |exact T8 rfl rfl rfl
 ·rw[if_neg rT]
  have ni:c.kind=2:=by omega
  have hl:=Ap.lst hr (List.mem_of_getElem? hc) ni
  obtain⟨lx,ol⟩:∃l,s.lists[c.lst.toNat]?=some l:=⟨_,List.getElem?_eq_getElem (by omega)⟩
  have oU:chk lx.1 lx.2=0:=(F2 hr).2.2.1 _ (List.mem_of_getElem? ol)
  have hg:=Bc oU
  have tx:=l7 (nm:=lx.1) (cs:=lx.2) (by omega)
  have oX:=Cq lx.1 lx.2 (C3 lx.1 lx.2-1)
  have qG:=Dq lx.1 lx.2 (by omega)
  have uB:=Gs lx.1 lx.2 (C3 lx.1 lx.2-1) (by omega)
  have rS:=fun (leaf:Nat)=>KV lx.1 lx.2 leaf level (by omega)
  have e1:J3 s column=H6 lx.1 lx.2 (C3 lx.1 lx.2-1):=by
   unfold J3
   rw[B7 hc,I7 ol]
  have e2:Wh s column level=fun x:Nat=>M6 lx.1 lx.2 x level:=by
   funext x
   unfold Wh
   rw[B7 hc,I7 ol]
  rw[e1,e2]
  generalize H6 lx.1 lx.2 (C3 lx.1 lx.2-1)=L at *
  refine C0 Tryz.func100 68 fun nQ E h0=>?_
  clear nQ
  repeat'((first|(refine A2 (x:=c) hc (by omega) ?_)|(refine A2 (x:=lx) ol (by omega) ?_)|refine A1 qG ?_|refine A1 uB ?_|(refine B8 ?_ ?_;kernel_rfl) |refine S2 ?_|(refine T6 ?_ ?_<;>intro h<;>try exact V1 h)|intro el nN nP|intro el nN|exact T4|refine T5 ?_ ?_|intro ex)<;>try conv=>whnf)
  all_goals first
   |(exfalso;omega)
   |skip
  refine B2 (ι:=Nat) (fun k=>⟨[(2,.i level),(3,.i v),(14,.ref 2 0),(54,.sl 1 (L.map iA)),(55,.i L.length),(56,.i k)],3,[(2,some (.box (z1 lx)))]⟩)
   (fun k=>k≤L.length∧Dt (fun x:Nat=>M6 lx.1 lx.2 x level) v L=Dt (fun x:Nat=>M6 lx.1 lx.2 x level) v (L.drop k)) (fun k=>L.length-k) 0 ⟨Nat.zero_le _,rfl⟩
   (A6 h0) (fun k hI=>?_)
  obtain⟨pk,hI⟩:=hI
  repeat'((first|refine A1 (rS _) ?_ |refine S2 ?_|(refine T6 ?_ ?_<;>intro h<;>try exact V1 h)|intro el nN nP|intro el nN|exact T4|refine T5 ?_ ?_|intro ex)<;>try conv=>whnf)
  all_goals first
   |exact T8 rfl rfl (by rw[hI,G6 nN,Dt,if_pos h];rfl)
   |exact T8 rfl rfl (by rw[hI,W4 h];rfl)
   |exact⟨k+1,⟨by omega,by rw[hI,G6 nN,Dt,if_neg h]⟩,by omega,A6 h0⟩
theorem YW{s:A4}{l:List (Pk×Int)}{q:Pk×Int}(h1:1≤q.1.col)(i:Nat):AZ s (l++[q]) i=if q.1.col.toNat=i then (R4 s q.1.col q.1.lev q.2).1 else AZ s l i:=by
 unfold AZ
 rw[YV]
 by_cases e:q.1.col.toNat=i
 ·have e2:q.1.col=(i:Int):=by omega
  rw[if_pos e2,if_pos e,if_neg (by omega),e2]
 ·rw[if_neg (show ¬q.1.col=(i:Int) by omega),if_neg e]
theorem Eo{f g:Nat→Int}{n:Nat}(h:∀i,i<n→f i=g i):R8 f n=R8 g n:=by
 unfold R8
 refine List.map_congr_left fun i hi=>?_
 rw[h i (List.mem_range.1 hi)]
def Cw(s:A4)(pv:List (Pk×Int)):Bool:=pv.all fun q=>(R4 s q.1.col q.1.lev q.2).2
def Te(s:A4)(c:B1)(pv:List (Pk×Int)):Int:=if Cw s pv=true then Dr s c ((List.range s.cols.length).map (AZ s pv))else 0
theorem Wj{α:Type}{p:α→Bool}{l:List α}{k:Nat}{x:α}(hx:l[k]?=some x)(h:p x=false):l.all p=false:=by
 rw[List.all_eq_false]
 exact⟨x,List.mem_of_getElem? hx,by rw[h];decide⟩
theorem EF{s:A4}{l:List Pk}(h:K9 s l=0):∀(k:Nat) p,l[k]?=some p→1≤p.col∧p.col<s.cols.length∧0≤p.lev∧p.lev≤F0 s p.col:=by
 unfold K9 at h
 by_cases hr:C5 s=0
 ·rw[if_pos hr]at h
  intro k p hp
  have:=N5 h k p hp
  rw[Nat.zero_add]at this
  unfold Cr at this
  by_cases hq:l8 s p=0
  ·unfold l8 at hq
   split at hq
   ·cases hq
   ·rename_i h1
    split at hq
    ·cases hq
    ·rename_i h2
     unfold F0 at h1 ⊢
     unfold F0 at h2
     split at h1
     ·omega
     ·rename_i h3
      rw[if_neg h3]at h2 ⊢
      omega
  ·rw[if_neg hq]at this
   exact absurd this hq
 ·rw[if_neg hr]at h
  exact absurd h hr
theorem bJ(s:A4)(hr:C5 s=0)(c:B1)(oe:X0 s c=0)(picks:List Pk)(values:List Int)(hp:K9 s picks=0)(hl:values.length=picks.length):A3 Tryz.prog 111 [sA s,E7 c,.sl 2 (picks.map B5),.sl 1 (values.map wA)] (.i (Te s c (picks.zip values))):=by
 have yi:=EF hp
 have hn:=(F2 hr).2.1
 have hh:=YQ s hr c oe ((List.range s.cols.length).map (AZ s (picks.zip values))) (by simp)
 unfold Te
 have hzl:(picks.zip values).length=picks.length:=by rw[List.length_zip];omega
 generalize yX:picks.zip values=pv at *
 have pB:∀(k:Nat) p v,picks[k]?=some p→values[k]?=some v→pv[k]?=some (p,v):=fun k p v h1 h2=>by
  rw[←yX,List.getElem?_zip_eq_some];exact⟨h1,h2⟩
 rw[F8]at *
 refine C0 Tryz.func111 66 fun nQ E h0=>?_
 have nO:picks.length≤9223372036854775807:=by have:=(nQ (.sl 2 (picks.map B5)) (by simp)).sl;simpa using this
 clear nQ
 repeat'((first|refine S2 ?_|(refine T6 ?_ ?_<;>intro h<;>try exact V1 h)|intro el nN nP|intro el nN|exact T4|refine T5 ?_ ?_|intro ex)<;>try conv=>whnf)
 refine B2 (ι:=Nat) (fun i=>⟨[(2,.sl 2 (picks.map B5)),(3,.sl 1 (values.map wA)),(4,.ref 0 0),(5,.ref 1 0),(9,.row 2 0 s.cols.length),(10,.i i)],3,[(0,some (.box (sL s))),(1,some (.box (O4 c))),(2,some (.row 3 1 0 (R8 (fun j=>if j=0 then 0 else if j<i then (R4 s j 0 0).1 else 0) s.cols.length)))]⟩)
  (fun i=>1≤i∧i≤max 1 s.cols.length) (fun i=>s.cols.length-i) 1 ⟨Nat.le_refl _,by omega⟩
  (A8 h0 rfl ⟨rfl,rfl,rfl,rfl,rfl,rfl,trivial⟩ ⟨rfl,rfl,⟨0,congrArg (C9.row 3 1 0) (by rw[Int.toNat_natCast];refine Eq.trans ?_ (QR _).symm;exact Eo fun j hj=>by split;rfl;rw[if_neg (by omega)])⟩,trivial⟩ rfl rfl rfl) (fun i hI=>?_)
 obtain⟨vx,oS⟩:=hI
 by_cases nR:i<s.cols.length
 ·obtain⟨x,hx⟩:∃x,s.cols[i]?=some x:=⟨_,List.getElem?_eq_getElem nR⟩
  have vG:=Jd s hr i 0 0 x (by omega) (by simpa using hx) (Int.le_refl _) (Ov hr (by omega) (by omega))
  have nk:(R8 (fun j=>if j=0 then 0 else if j<i then (R4 s j 0 0).1 else 0) s.cols.length)[((((i:Nat):Int).toNat:Nat):Int).toNat]?=some [.i (if i=0 then 0 else if i<i then (R4 s i 0 0).1 else 0)]:=by
   rw[Int.toNat_natCast,Int.toNat_natCast];exact Hm nR
  have oQ:(R8 (fun j=>if j=0 then 0 else if j<i then (R4 s j 0 0).1 else 0) s.cols.length).set i [.i (R4 s i 0 0).1]=R8 (fun j=>if j=0 then 0 else if j<i+1 then (R4 s j 0 0).1 else 0) s.cols.length:=by
   rw[MD]
   refine Eo fun j hj=>?_
   by_cases e:i=j
   ·subst e
    rw[if_pos rfl,if_neg (by omega),if_pos (by omega)]
   ·rw[if_neg e]
    by_cases e0:j=0
    ·rw[if_pos e0,if_pos e0]
    ·rw[if_neg e0,if_neg e0]
     by_cases e1:j<i
     ·rw[if_pos e1,if_pos (by omega)]
     ·rw[if_neg e1,if_neg (by omega)]
  repeat'((first|refine A1 vG ?_ |refine S2 ?_|(refine T6 ?_ ?_<;>intro h<;>try exact V1 h)|intro el nN nP|intro el nN|exact T4|refine T5 ?_ ?_|intro ex)<;>try conv=>whnf)
  all_goals first
   |(exfalso;omega)
   |exact⟨i+1,by omega,by omega,A8 h0 rfl ⟨rfl,rfl,rfl,rfl,rfl,rfl,trivial⟩ ⟨rfl,rfl,⟨_,congrArg (C9.row 3 1 _) oQ.symm⟩,trivial⟩ rfl rfl rfl⟩
 ·have xa:R8 (fun j=>if j=0 then 0 else if j<i then (R4 s j 0 0).1 else 0) s.cols.length=R8 (AZ s []) s.cols.length:=Eo fun j hj=>by
   unfold AZ Hq
   by_cases e:j=0
   ·rw[if_pos e,if_pos ⟨e,rfl⟩]
   ·rw[if_neg e,if_pos (show j<i by omega),if_neg (fun hh:j=0∧_=>e hh.1)]
    rfl
  rw[xa]
  repeat'((first|refine S2 ?_|(refine T6 ?_ ?_<;>intro h<;>try exact V1 h)|intro el nN nP|intro el nN|exact T4|refine T5 ?_ ?_|intro ex)<;>try conv=>whnf)
  all_goals first
   |(exfalso;omega)
   |skip
  refine B2 (ι:=Nat) (fun k=>⟨[(3,.sl 1 (values.map wA)),(4,.ref 0 0),(5,.ref 1 0),(9,.row 2 0 s.cols.length),(34,.sl 2 (picks.map B5)),(35,.i picks.length),(36,.i k)],3,[(0,some (.box (sL s))),(1,some (.box (O4 c))),(2,some (.row 3 1 0 (R8 (AZ s (pv.take k)) s.cols.length)))]⟩)
   (fun k=>k≤picks.length∧Cw s (pv.take k)=true) (fun k=>picks.length-k) 0 ⟨Nat.zero_le _,rfl⟩
   (A6 h0) (fun k hK=>?_)
  obtain⟨pk,hK⟩:=hK
  by_cases nZ:k<picks.length
  ·obtain⟨p,qT⟩:∃p,picks[k]?=some p:=⟨_,List.getElem?_eq_getElem nZ⟩
   obtain⟨v,vw⟩:∃v,values[k]?=some v:=⟨_,List.getElem?_eq_getElem (by omega)⟩
   have hq:=pB k p v qT vw
   obtain⟨c1,c2,c3,c4⟩:=yi k p qT
   obtain⟨x,hx⟩:∃x,s.cols[p.col.toNat]?=some x:=⟨_,List.getElem?_eq_getElem (by omega)⟩
   have vG:=Jd s hr p.col p.lev v x c1 hx c3 c4
   have oy:=fun i=>YW (s:=s) (l:=pv.take k) (q:=(p,v)) c1 i
   rw[←I3 hq]at oy
   have pM:Cw s (pv.take (k+1))=(R4 s p.col p.lev v).2:=by
    unfold Cw at hK ⊢
    rw[I3 hq,List.all_append,hK]
    simp
   dsimp only at oy
   have tC:(R4 s p.col p.lev v).2=false→Cw s pv=false:=fun h=>Wj hq h
   generalize R4 s p.col p.lev v=S at *
   obtain⟨w,ok⟩:=S
   dsimp only at *
   cases ok
   ·rw[if_neg (by rw[tC rfl];decide)]
    repeat'((first|refine A1 vG ?_|(refine A2 (x:=p) qT (by omega) ?_)|(refine A2 (x:=v) vw (by omega) ?_)|(refine B8 ?_ ?_;kernel_rfl) |refine S2 ?_|(refine T6 ?_ ?_<;>intro h<;>try exact V1 h)|intro el nN nP|intro el nN|exact T4|refine T5 ?_ ?_|intro ex)<;>try conv=>whnf)
    all_goals first
     |(exfalso;omega)
     |exact A0 rfl rfl
   ·have nk:(R8 (AZ s (pv.take k)) s.cols.length)[((p.col.toNat:Nat):Int).toNat]?=some [.i (AZ s (pv.take k) p.col.toNat)]:=by
     rw[Int.toNat_natCast];exact Hm (by omega)
    repeat'((first|refine A1 vG ?_|(refine A2 (x:=p) qT (by omega) ?_)|(refine A2 (x:=v) vw (by omega) ?_)|(refine B8 ?_ ?_;kernel_rfl) |refine S2 ?_|(refine T6 ?_ ?_<;>intro h<;>try exact V1 h)|intro el nN nP|intro el nN|exact T4|refine T5 ?_ ?_|intro ex)<;>try conv=>whnf)
    all_goals first
     |(exfalso;omega)
     |exact⟨k+1,⟨by omega,pM⟩,by omega,A8 h0 rfl ⟨rfl,rfl,rfl,rfl,rfl,rfl,rfl,trivial⟩ ⟨rfl,rfl,⟨_,congrArg (C9.row 3 1 _) (by refine Eq.trans ?_ MD.symm;exact Eo fun j hj=>oy j)⟩,trivial⟩ rfl rfl rfl⟩
  ·have qD:pv.take k=pv:=List.take_of_length_le (by omega)
   rw[qD]at hK ⊢
   rw[if_pos hK]
   have hh2:A3 Tryz.prog 155 [sA s,.agg (O4 c),.sl 1 (R8 (AZ s pv) s.cols.length)] (.i (Dr s c ((List.range s.cols.length).map (AZ s pv)))):=by
    have e:R8 (AZ s pv) s.cols.length=((List.range s.cols.length).map (AZ s pv)).map wA:=by unfold R8;rw[List.map_map];rfl
    rw[e];exact hh
   repeat'((first|refine I6 2 ?_|refine A1 hh2 ?_ |refine S2 ?_|(refine T6 ?_ ?_<;>intro h<;>try exact V1 h)|intro el nN nP|intro el nN|exact T4|refine T5 ?_ ?_|intro ex)<;>try conv=>whnf)
   all_goals first
    |(exfalso;omega)
    |exact A0 rfl rfl
end Go.Proofs.YtjkbhaaobhgkdabGreatDoor
