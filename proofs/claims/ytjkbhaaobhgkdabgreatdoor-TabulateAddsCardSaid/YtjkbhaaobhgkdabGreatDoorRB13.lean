/- Chapter 2: values that a row can have, at all levels. Draws: values, rows and picks, and that they are right. Chapter 2: when a coarser level divides as a finer one does. Chapter 2: the least level of a column of a drawn schema. -/
import Derived.Test.YtjkbhaaobhgkdabGreatDoorRB12
import Derived.Test.YtjkbhaaobhgkdabGreatDoorRB8
import Derived.Test.YtjkbhaaobhgkdabGreatDoorRSx
set_option linter.unusedVariables false
set_option linter.unnecessarySimpa false
set_option linter.unusedSimpArgs false
set_option maxHeartbeats 64000000
namespace Go.Proofs.YtjkbhaaobhgkdabGreatDoor
open Go Go.Av
attribute [local irreducible] D0 B0 D2 C7 DQ D1 C8 St.le A3 B6
set_option maxRecDepth 100000
def Gw(ws:List Int)(lv:Nat):Int:=ws.getD (ws.length-lv) 0
def dv(ws:List Int):Bool:=decide (1≤ws.length) && decide (ws.length≤4) && decide (Gw ws ws.length=1) && ((List.range 5).all fun a=>(List.range (a+1)).all fun b=>decide (b=0) || decide (ws.length<a) || (decide (1≤Gw ws a∧Gw ws a≤20) && decide (1≤Gw ws b∧Gw ws b≤20) && decide (Gw ws b=Gw ws a*(Gw ws b / Gw ws a)∧1≤Gw ws b / Gw ws a)))
theorem TR:En.all dv=true:=by decide +kernel
theorem Jb{c:D4}{lv:Nat}(h:lv≤c.widths.length):A9 c lv=Gw c.widths lv:=by
 unfold A9 Gw
 congr 1
 omega
theorem Oy{c:D4}{nm:List UInt8}(h:P8 c nm):1≤c.widths.length∧c.widths.length≤4∧A9 c c.widths.length=1:=by
 have h1:=List.all_eq_true.1 TR _ h.wid
 simp only[dv,Bool.and_eq_true,decide_eq_true_eq]at h1
 rw[Jb (Nat.le_refl _)]
 exact⟨h1.1.1.1,h1.1.1.2,h1.1.2⟩
theorem k6{c:D4}{nm:List UInt8}(h:P8 c nm){a b:Nat}(hb:1≤b)(vP:b≤a)(ha:a≤c.widths.length):(1≤A9 c a∧A9 c a≤20)∧(1≤A9 c b∧A9 c b≤20)∧∃m,1≤m∧A9 c b=A9 c a*m:=by
 have h1:=List.all_eq_true.1 TR _ h.wid
 simp only[dv,Bool.and_eq_true,decide_eq_true_eq,List.all_eq_true,List.mem_range,Bool.or_eq_true]at h1
 have h2:=h1.2 a (by omega) b (by omega)
 rw[Jb ha,Jb (by omega)]
 rcases h2 with (h2|h2)|h2
 ·omega
 ·omega
 ·exact⟨h2.1.1,h2.1.2,_,h2.2.2,h2.2.1⟩
theorem X5(v:Int){w:Int}:C6 v w=w*(v / w):=by
 have:=Int.mul_ediv_add_emod v w
 unfold C6
 omega
theorem bC(v:Int):C6 v 1=v:=by unfold C6;omega
theorem TS(v:Int){w m:Int}(hw:1≤w)(hm:1≤m):C6 (C6 v w) (w*m)=C6 v (w*m):=by
 rw[X5,X5,X5]
 congr 1
 rw[Int.mul_ediv_mul_of_pos _ _ (by omega:(0:Int)<w),Int.ediv_ediv_of_nonneg (by omega)]
theorem BK{x v w:Int}(hw:1≤w)(h1:C6 v w≤x)(h2:x<C6 v w+w):C6 x w=C6 v w:=by
 rw[X5]at h1 h2
 rw[X5,X5]
 congr 1
 have e:x=(x-w*(v / w))+w*(v / w):=by omega
 rw[e,Int.add_mul_ediv_left _ _ (by omega:w≠0),Int.ediv_eq_zero_of_lt (by omega) (by omega)]
 omega
theorem QT{x v w m:Int}(hw:1≤w)(hm:1≤m)(h1:C6 v w≤x)(h2:x<C6 v w+w):C6 x (w*m)=C6 v (w*m):=by
 rw[←TS x hw hm,BK hw h1 h2,TS v hw hm]
def BS(c:D4)(v:Int):Prop:=(c.low≤v∧v≤c.high)∨(c.opt=true∧v=(-1099511627776))
theorem M4{s:A4}{c:D4}{nm:List UInt8}(h:P8 c nm){v:Int}(hv:BS c v)(lv:Int):O9 s c lv v=if lv=0 then 0 else if v=(-1099511627776)then (-1099511627776)else C6 v (A9 c lv):=by
 have hk:=h.kind
 have h1:=h.low
 have h2:=h.high
 unfold O9
 rw[if_neg (by omega),if_neg]
 rcases hv with hv|hv<;>omega
theorem dw{s:A4}{c:D4}{nm:List UInt8}(h:P8 c nm){v:Int}(hv:BS c v){a b:Nat}(vP:b≤a)(ha:a≤c.widths.length):Bm c a (O9 s c a v) b=(O9 s c b v,true):=by
 have hl:=h.low
 have hh:=h.high
 rw[M4 h hv,M4 h hv]
 by_cases ha0:a=0
 ·subst ha0
  have pE:b=0:=by omega
  subst pE
  simp[Bm,N8]
 ·by_cases hm:v=(-1099511627776)
  ·have ho:c.opt=true:=by
    rcases hv with hv|hv
    ·omega
    ·exact hv.1
   rw[if_neg (by omega),if_pos hm]
   unfold Bm
   rw[if_pos ⟨by omega,rfl⟩,ho]
   by_cases pE:b=0
   ·subst pE;simp
   ·rw[if_neg (by omega),if_neg (by omega),if_pos hm]
  ·have oY:c.low≤v∧v≤c.high:=by
    rcases hv with hv|hv
    ·exact hv
    ·exact absurd hv.2 hm
   rw[if_neg (by omega),if_neg hm,if_neg hm]
   obtain⟨hw,_,_⟩:=k6 h (a:=a) (b:=a) (by omega) (Nat.le_refl _) ha
   have hd:=T9 v hw.1
   have qS:=BK hw.1 (Int.le_refl _) (show C6 v (A9 c a)<C6 v (A9 c a)+A9 c a by omega)
   have uG:N8 c a (C6 v (A9 c a))=(max (C6 v (A9 c a)) c.low,min (C6 v (A9 c a)+A9 c a-1) c.high,true):=by
    unfold N8
    rw[if_neg (by omega),if_neg (by omega),qS]
    have:max (C6 v (A9 c a)) c.low≤min (C6 v (A9 c a)+A9 c a-1) c.high:=by omega
    simp[this]
   unfold Bm
   rw[if_neg (by omega),uG]
   simp only[Bool.true_eq_false,if_false]
   by_cases pE:b=0
   ·subst pE;simp
   ·rw[if_neg (by omega),if_neg (by omega),if_neg (by omega)]
    obtain⟨_,_,m,hm1,qt⟩:=k6 h (a:=a) (b:=b) (by omega) vP ha
    have e1:=QT (x:=max (C6 v (A9 c a)) c.low) (v:=v) hw.1 hm1 (by omega) (by omega)
    have e2:=QT (x:=min (C6 v (A9 c a)+A9 c a-1) c.high) (v:=v) hw.1 hm1 (by omega) (by omega)
    rw[qt,e1,e2]
    simp
theorem dz{s:A4}{c:D4}{nm:List UInt8}(h:P8 c nm){v:Int}(hv:BS c v):O9 s c c.widths.length v=v:=by
 obtain⟨h1,h2,h3⟩:=Oy h
 rw[M4 h hv,if_neg (by omega),h3,bC]
 split
 ·rename_i e;exact e.symm
 ·rfl
def Oz(cs:List Code):Bool:=(H6 E3 cs (C3 E3 cs-1)).all fun v=>W0 cs v && decide (M6 E3 cs v (C3 E3 cs-1)=v) && decide (M6 E3 cs v 0=0) && ((List.range (C3 E3 cs).toNat).all fun a=>(List.range (a+1)).all fun b=>decide (Ej E3 cs a (M6 E3 cs v a) b=(M6 E3 cs v b,true)))
theorem TT:LJ.all Oz=true:=by decide +kernel
theorem TU{a b:List UInt8}(h:D5 a=D5 b)(cs:List Code)(fr v to:Int):∀(l:List Nat) (out:Int) (sm:Bool),Cp a cs fr v to l out sm=Cp b cs fr v to l out sm
 |[],out,sm=>rfl
 |x::r,out,sm=>by simp only[Cp,Gv h,TU h cs fr v to r]
theorem eA{a b:List UInt8}(h:D5 a=D5 b)(cs:List Code)(fr v to:Int):Ej a cs fr v to=Ej b cs fr v to:=by
 unfold Ej
 rw[Bf h,BJ h,TU h]
theorem C4.lst{s:A4}(h:C4 s){c:D4}(hc:c=Dd∨c=Hn):(C1 s c).2∈LJ∧D5 (C1 s c).1=D5 E3∧(C1 s c).2.length≤10:=by
 obtain⟨l1,l2,m1,m2,e⟩:=h.ls
 rcases hc with rfl|rfl
 ·have:C1 s Dd=(E3,l1):=by unfold C1;rw[e];rfl
  rw[this];exact⟨m1,rfl,(Cu m1).len⟩
 ·have:C1 s Hn=(EM,l2):=by unfold C1;rw[e];rfl
  rw[this];exact⟨m2,ki,(Cu m2).len⟩
def c9(s:A4)(c:D4)(v:Int):Prop:=(c.kind=1∧1≤v∧v≤60)∨(c.kind=2∧∃n:Nat,v=n∧n∈H6 (C1 s c).1 (C1 s c).2 (C3 (C1 s c).1 (C1 s c).2-1))∨(c.kind=3∧BS c v)
structure eB(s:A4)(c:D4)(n:Nat):Prop where
 fin:N7 s c=n
 le:n≤4
 top:∀v,c9 s c v→O9 s c n v=v
 zero:∀v,c9 s c v→O9 s c 0 v=0
 turn:∀v,c9 s c v→∀a b:Nat,b≤a→a≤n→(if c.kind=2 then Ej (C1 s c).1 (C1 s c).2 a (O9 s c a v) b else Bm c a (O9 s c a v) b)=(O9 s c b v,true)
theorem C4.facts{s:A4}(h:C4 s){i:Nat}{c:D4}(hi:0<i)(hc:s.cols[i]?=some c):∃n,eB s c n:=by
 rcases h.col hc with ⟨rfl,_⟩|⟨_,qZ⟩|⟨_,nm,hm⟩
 ·omega
 ·obtain⟨hf,pN,nO⟩:=h.lst qZ
  have hk:c.kind=2:=by rcases qZ with rfl|rfl<;>rfl
  have rI:=Cu hf
  have qa:=BJ pN (C1 s c).2
  have ht:=List.all_eq_true.1 TT _ hf
  simp only[Oz,Bool.and_eq_true,decide_eq_true_eq,List.all_eq_true,List.mem_range]at ht
  obtain⟨n,hn⟩:=Int.eq_ofNat_of_zero_le (show 0≤C3 E3 (C1 s c).2-1 by have:=rI.lv;omega)
  have ok:∀v,c9 s c v→∃j:Nat,v=j∧j∈H6 E3 (C1 s c).2 n:=by
   rintro v (⟨h1,_⟩|⟨_,j,h1,h2⟩|⟨h1,_⟩)
   ·omega
   ·exact⟨j,h1,by rw[←hn,←qa,←Bf pN];exact h2⟩
   ·omega
  have coa:∀j:Nat,j∈H6 E3 (C1 s c).2 n→∀lv:Int,O9 s c lv j=M6 E3 (C1 s c).2 j lv:=by
   intro j hj lv
   have h1:=rI.mem j (by rw[hn];exact hj)
   have h2:=(ht j (by rw[hn];exact hj)).1.1.1
   unfold O9
   rw[if_pos hk,Gv pN,if_pos]
   unfold BG
   rw[if_neg (by omega),if_pos hk,h2]
   simp;omega
  refine⟨n,⟨?_,?_,?_,?_,?_⟩⟩
  ·unfold N7;rw[if_pos hk,qa,hn]
  ·have:=rI.lv;omega
  ·intro v hv
   obtain⟨j,rfl,hj⟩:=ok v hv
   rw[coa j hj,←hn]
   exact(ht j (by rw[hn];exact hj)).1.1.2
  ·intro v hv
   obtain⟨j,rfl,hj⟩:=ok v hv
   rw[coa j hj]
   exact(ht j (by rw[hn];exact hj)).1.2
  ·intro v hv a b vP ha
   obtain⟨j,rfl,hj⟩:=ok v hv
   rw[if_pos hk,coa j hj,coa j hj,eA pN]
   exact(ht j (by rw[hn];exact hj)).2 a (by omega) b (by omega)
 ·have hk:=hm.kind
  have ok:∀v,c9 s c v→BS c v:=by
   rintro v (⟨h1,_⟩|⟨h1,_⟩|⟨_,h1⟩)
   ·omega
   ·omega
   ·exact h1
  refine⟨c.widths.length,⟨?_,(Oy hm).2.1,?_,?_,?_⟩⟩
  ·unfold N7;rw[if_neg (by omega)]
  ·intro v hv;exact dz hm (ok v hv)
  ·intro v hv;rw[M4 hm (ok v hv),if_pos rfl]
  ·intro v hv a b vP ha
   rw[if_neg (by omega)]
   exact dw hm (ok v hv) vP ha
theorem C4.chain{s:A4}(h:C4 s){i:Nat}{c:D4}(hi:0<i)(hc:s.cols[i]?=some c):∃n:Nat,B9 s i=n∧n≤4∧∀v,c9 s c v→I0 s i n v=v∧I0 s i 0 v=0∧∀a b:Nat,b≤a→a≤n→YF s i a (I0 s i a v) b=(I0 s i b v,true):=by
 obtain⟨n,hf⟩:=h.facts hi hc
 have nR:=D6 hc
 have nh:B4 s i=c:=B7 (by simpa using hc)
 have yC:F0 s i=n:=by unfold F0;rw[if_neg (by omega),nh];exact hf.fin
 have yM:B9 s i=n:=by unfold B9;rw[if_pos h.ok];exact yC
 have coa:∀(lv:Nat) v,lv≤n→I0 s i lv v=O9 s c lv v:=by
  intro lv v qa
  unfold I0
  rw[yM,if_neg (by omega),nh]
 refine⟨n,yM,hf.le,fun v hv=>⟨?_,?_,?_⟩⟩
 ·rw[coa n v (Nat.le_refl _)];exact hf.top v hv
 ·have:=coa 0 v (Nat.zero_le _)
  rw[show ((0:Nat):Int)=0 from rfl]at this
  rw[this];exact hf.zero v hv
 ·intro a b vP ha
  have ht:=hf.turn v hv a b vP ha
  rw[coa a v ha,coa b v (by omega)]
  unfold YF Z0
  rw[if_pos h.ok,yC,if_neg (by omega),nh,ht]
  simp
def u4(l:List UInt8)(a:Nat)(s:A4)(k:Int):Int×Nat :=
 let c:=B4 s k
 if c.kind=1 then (1+((B3 l a 60).1:Int),(B3 l a 60).2)
 else if c.kind=2 then ((((J3 s k).getD (B3 l a (J3 s k).length).1 0:Nat):Int),(B3 l a (J3 s k).length).2)
 else if c.opt=true then
  (if ((B3 l a 4).1:Int)=3 then ((-1099511627776),(B3 l a 4).2)else (c.low+((B3 l (B3 l a 4).2 (c.high-c.low+1)).1:Int),(B3 l (B3 l a 4).2 (c.high-c.low+1)).2))
 else (c.low+((B3 l a (c.high-c.low+1)).1:Int),(B3 l a (c.high-c.low+1)).2)
def rowFrom(l:List UInt8)(s:A4):Nat→List Int×Nat→Nat→List Int×Nat
 |_,x,0=>x
 |k,x,n+1=>rowFrom l s (k+1) (x.1++[(u4 l x.2 s k).1],(u4 l x.2 s k).2) n
def j5(l:List UInt8)(a:Nat)(s:A4):List Int×Nat:=rowFrom l s 0 ([],a) s.cols.length
theorem C4.lvs{s:A4}(h:C4 s){i:Nat}{c:D4}(hc:s.cols[i]?=some c)(hk:c.kind=2):(0≤c.lst∧c.lst<s.lists.length)∧J3 s i=H6 (C1 s c).1 (C1 s c).2 (C3 (C1 s c).1 (C1 s c).2-1)∧1≤(J3 s i).length∧(J3 s i).length≤10:=by
 have nh:B4 s i=c:=B7 (by simpa using hc)
 have e:J3 s i=H6 (C1 s c).1 (C1 s c).2 (C3 (C1 s c).1 (C1 s c).2-1):=by unfold J3;rw[nh]
 rcases h.col hc with ⟨_,rfl⟩|⟨_,qZ⟩|⟨_,nm,hm⟩
 ·cases hk
 ·obtain⟨hf,pN,nO⟩:=h.lst qZ
  have rI:=(Cu hf).at'
  refine⟨?_,e,?_⟩
  ·rw[h.lens.1];rcases qZ with rfl|rfl<;>decide
  ·rw[e,BJ pN,Bf pN];exact rI
 ·have:=hm.kind;omega
theorem Wg{s:A4}(h:C4 s)(l:List UInt8)(a:Nat){i:Nat}{c:D4}(hc:s.cols[i]?=some c):c9 s c (u4 l a s i).1:=by
 have nh:B4 s i=c:=B7 (by simpa using hc)
 unfold u4
 rw[nh]
 rcases h.col hc with ⟨_,rfl⟩|⟨_,qZ⟩|⟨_,nm,hm⟩
 ·have:=F9 l a (n:=60) (by omega)
  exact .inl ⟨rfl,by simp only[ME,if_true];omega⟩
 ·have hk:c.kind=2:=by rcases qZ with rfl|rfl<;>rfl
  obtain⟨_,h1,h2,h3⟩:=h.lvs hc hk
  have hn:=F9 l a (n:=(J3 s i).length) (by omega)
  dsimp only
  rw[if_neg (by omega),if_pos hk]
  have nR:(B3 l a (J3 s i).length).1<(J3 s i).length:=by omega
  refine .inr (.inl ⟨hk,_,rfl,?_⟩)
  rw[←h1,D3 (List.getElem?_eq_getElem nR)]
  exact List.getElem_mem nR
 ·have hk:=hm.kind
  have hh:=hm.high
  have n1:=F9 l a (n:=c.high-c.low+1) (by omega)
  have n2:=F9 l (B3 l a 4).2 (n:=c.high-c.low+1) (by omega)
  dsimp only
  rw[if_neg (by omega),if_neg (by omega)]
  refine .inr (.inr ⟨hk,?_⟩)
  split
  ·split
   ·exact .inr ⟨by assumption,rfl⟩
   ·exact .inl ⟨by dsimp only;omega,by dsimp only;omega⟩
  ·exact .inl ⟨by dsimp only;omega,by dsimp only;omega⟩
theorem TV(x:Int){w:Int}(hw:1≤w):(x+1) / w=x / w+(if (x+1) % w=0 then 1 else 0):=by
 have h1:=Int.mul_ediv_add_emod x w
 have h2:=Int.emod_nonneg x (b:=w) (by omega)
 have h3:=Int.emod_lt_of_pos x (b:=w) (by omega)
 by_cases h:x % w+1=w
 ·have e:x+1=w*(x / w+1):=by rw[Int.mul_add,Int.mul_one];omega
  have e2:(x+1) % w=0:=by rw[e];exact Int.mul_emod_right w _
  have e3:(x+1) / w=x / w+1:=by rw[e];exact Int.mul_ediv_cancel_left _ (by omega)
  rw[if_pos e2,e3]
 ·have e:x+1=(x % w+1)+w*(x / w):=by omega
  have e3:(x+1) / w=x / w:=by
   rw[e,Int.add_mul_ediv_left _ _ (by omega:w≠0),Int.ediv_eq_zero_of_lt (by omega) (by omega)]
   omega
  have e2:(x+1) % w=x % w+1:=by
   have:=Int.mul_ediv_add_emod (x+1) w
   rw[e3]at this
   omega
  rw[if_neg (by omega),e3]
  omega
def Gx(low high w W:Int):Prop:=∀t,low<t→t≤high→t % w=0→t % W=0
theorem YS{t w m:Int}(h:t % (w*m)=0):t % w=0:=by
 have:=Int.dvd_of_emod_eq_zero h
 exact Int.emod_eq_zero_of_dvd (Int.dvd_trans (Int.dvd_mul_right w m) this)
theorem cnt{w m:Int}(hw:1≤w)(hm:1≤m)(low:Int):∀j:Nat,(low+j) / (w*m)-low / (w*m)≤(low+j) / w-low / w∧((low+j) / (w*m)-low / (w*m)=(low+j) / w-low / w↔Gx low (low+j) w (w*m))
 |0=>⟨by simp,by
   constructor
   ·intro _ t h1 h2;omega
   ·intro _;simp⟩
 |j+1=>by
  obtain⟨h1,h2⟩:=cnt hw hm low j
  have hW:1≤w*m:=by
   have:=Int.mul_le_mul hw hm (by omega) (by omega)
   simpa using this
  have e:low+((j+1:Nat):Int)=(low+j)+1:=by omega
  rw[e,TV _ hw,TV _ hW]
  have ext:Gx low (low+j+1) w (w*m)↔Gx low (low+j) w (w*m)∧((low+j+1) % w=0→(low+j+1) % (w*m)=0):=by
   constructor
   ·intro h
    exact⟨fun t h3 h4=>h t h3 (by omega),fun h3=>h _ (by omega) (by omega) h3⟩
   ·rintro ⟨h3,h4⟩ t h5 h6 h7
    by_cases h8:t=low+j+1
    ·subst h8;exact h4 h7
    ·exact h3 t h5 (by omega) h7
  rw[ext,←h2]
  by_cases ha:(low+j+1) % w=0
  ·by_cases hb:(low+j+1) % (w*m)=0
   ·rw[if_pos ha,if_pos hb]
    exact⟨by omega,by constructor<;>(intro h;first|exact⟨by omega,fun _=>hb⟩|(have:=h.1;omega))⟩
   ·rw[if_pos ha,if_neg hb]
    exact⟨by omega,by constructor<;>(intro h;first|(exfalso;omega)|exact absurd (h.2 ha) hb)⟩
  ·have hb:¬(low+j+1) % (w*m)=0:=fun h=>ha (YS h)
   rw[if_neg ha,if_neg hb]
   exact⟨by omega,by constructor<;>(intro h;first|exact⟨by omega,fun h=>absurd h ha⟩|(have:=h.1;omega))⟩
theorem PA{w m low high:Int}(hw:1≤w)(hm:1≤m)(h:low≤high):high / (w*m)-low / (w*m)≤high / w-low / w∧(high / (w*m)-low / (w*m)=high / w-low / w↔Gx low high w (w*m)):=by
 obtain⟨j,hj⟩:=Int.eq_ofNat_of_zero_le (show 0≤high-low by omega)
 have:=cnt hw hm low j
 rwa[show low+(j:Int)=high by omega]at this
def Cv(low high w W:Int):Bool:=decide (high<(low / w+1)*w) || (decide (((low / w+1)*w).tmod W=0) && (decide (high<(low / w+1)*w+w) || decide (((low / w+1)*w+w).tmod W=0)))
theorem iT{t W:Int}:t.tmod W=0↔t % W=0:=by
 constructor
 ·intro h;exact Int.emod_eq_zero_of_dvd (Int.dvd_of_tmod_eq_zero h)
 ·intro h;exact Int.tmod_eq_zero_of_dvd (Int.dvd_of_emod_eq_zero h)
theorem eC{w m low high:Int}(hw:1≤w)(hm:1≤m):Cv low high w (w*m)=true↔Gx low high w (w*m):=by
 have hd:=Int.mul_ediv_add_emod low w
 have ru:=Int.emod_nonneg low (b:=w) (by omega)
 have uJ:=Int.emod_lt_of_pos low (b:=w) (by omega)
 have ef:(low / w+1)*w=w*(low / w)+w:=by rw[Int.add_mul,Int.mul_comm];omega
 have fm:((low / w+1)*w) % w=0:=by rw[Int.mul_comm];exact Int.mul_emod_right w _
 have gm:((low / w+1)*w+w) % w=0:=by
  rw[show (low / w+1)*w+w=w*(low / w+1+1) by rw[Int.mul_add,Int.mul_comm w (low / w+1)];omega]
  exact Int.mul_emod_right w _
 have geF:∀t,low<t→t % w=0→t=(low / w+1)*w∨(low / w+1)*w+w≤t:=by
  intro t h1 h2
  obtain⟨q,rfl⟩:=Int.dvd_of_emod_eq_zero h2
  have h3:low / w<q:=by
   rcases Int.lt_or_le (low / w) q with h|h
   ·exact h
   ·have:=Int.mul_le_mul_of_nonneg_left h (show 0≤w by omega);omega
  by_cases h4:q=low / w+1
  ·left;rw[h4,Int.mul_comm]
  ·right
   have:=Int.mul_le_mul_of_nonneg_left (show low / w+1+1≤q by omega) (show 0≤w by omega)
   rw[Int.mul_add,Int.mul_add]at this
   omega
 unfold Cv
 simp only[Bool.or_eq_true,Bool.and_eq_true,decide_eq_true_eq,iT]
 constructor
 ·intro h t h1 h2 h3
  rcases h with h|⟨h,h4⟩
  ·rcases geF t h1 h3 with h5|h5<;>omega
  ·rcases geF t h1 h3 with h5|h5
   ·rw[h5];exact h
   ·rcases h4 with h4|h4
    ·omega
    ·have d1:=Int.dvd_of_emod_eq_zero h
     have d2:=Int.dvd_of_emod_eq_zero h4
     have d3:w*m ∣ w:=by
      have:=Int.dvd_sub d2 d1
      rwa[show (low / w+1)*w+w-(low / w+1)*w=w by omega]at this
     exact Int.emod_eq_zero_of_dvd (Int.dvd_trans d3 (Int.dvd_of_emod_eq_zero h3))
 ·intro h
  by_cases h1:high<(low / w+1)*w
  ·exact .inl h1
  ·refine .inr ⟨h _ (by omega) (by omega) fm,?_⟩
   by_cases h2:high<(low / w+1)*w+w
   ·exact .inl h2
   ·exact .inr (h _ (by omega) (by omega) gm)
def YT(f g:Int→Int)(l:List Int):Prop:=∀x∈l,∀y∈l,f x≠f y→g x≠g y
theorem eD{w m low high:Int}(hw:1≤w)(hm:1≤m)(rk:low≤high):(∀x y,low≤x→x≤high→low≤y→y≤high→C6 x w≠C6 y w→C6 x (w*m)≠C6 y (w*m))↔Gx low high w (w*m):=by
 have hW:1≤w*m:=by
  have:=Int.mul_le_mul hw hm (by omega) (by omega)
  simpa using this
 constructor
 ·intro h t h1 h2 h3
  refine Classical.byContradiction fun h4=>?_
  have e1:C6 t w=t:=by unfold C6;omega
  have b1:=T9 (t-1) hw
  have b2:=T9 t hW
  have e2:C6 t (w*m)≤t-1:=by
   have:=Int.emod_nonneg t (b:=w*m) (by omega)
   unfold C6;omega
  have e3:C6 (t-1) (w*m)=C6 t (w*m):=BK hW e2 (by omega)
  exact h t (t-1) (by omega) h2 (by omega) (by omega) (by omega) e3.symm
 ·intro h
  have key:∀x y,low≤x→y≤high→x<y→C6 x w≠C6 y w→C6 x (w*m)≠C6 y (w*m):=by
   intro x y h1 h2 h3 h4
   have b1:=T9 y hw
   have b3:=T9 x hW
   have hx:x<C6 y w:=by
    rcases Int.lt_or_le x (C6 y w)with h5|h5
    ·exact h5
    ·exact absurd (BK hw h5 (by omega)) h4
   have h6:C6 y w % w=0:=by rw[X5];exact Int.mul_emod_right w _
   have h7:=h (C6 y w) (by omega) (by omega) h6
   have h8:C6 (C6 y w) (w*m)=C6 y w:=by unfold C6 at h7 ⊢;omega
   have h9:=Nd hW b1.2
   omega
  intro x y h1 h2 h3 h4 h5 h6
  rcases Int.lt_trichotomy x y with h7|h7|h7
  ·exact key x y h1 h4 h7 h5 h6
  ·exact h5 (by rw[h7])
  ·exact key y x h3 h2 h7 (Ne.symm h5) h6.symm
theorem y4{s:A4}{c:D4}{nm:List UInt8}(h:P8 c nm){L:Nat}(h1:1≤L)(h2:L≤c.widths.length):K1 s c L=c.high / A9 c L-c.low / A9 c L+1+(if c.opt=true then 1 else 0):=by
 obtain⟨hw,_,_⟩:=k6 h (a:=L) (b:=L) h1 (Nat.le_refl _) h2
 have hk:=h.kind
 unfold K1
 rw[if_neg (by omega),if_neg (by omega),X5,X5,←Int.mul_sub,Int.mul_ediv_cancel_left _ (by omega)]
theorem GB{s:A4}{c:D4}{nm:List UInt8}(h:P8 c nm):K1 s c 0=1:=by
 have hk:=h.kind
 unfold K1
 rw[if_neg (by omega),if_pos rfl]
theorem Jc{a b w:Int}(hw:1≤w)(h:a≤b):a / w≤b / w:=Int.ediv_le_ediv (by omega) h
theorem bD{s:A4}{c:D4}{nm:List UInt8}(h:P8 c nm){o L:Nat}(ho:o≤L)(hL:L≤c.widths.length):K1 s c o≤K1 s c L:=by
 have hh:=h.high
 by_cases h0:o=0
 ·subst h0
  rw[show ((0:Nat):Int)=0 from rfl,GB h]
  by_cases hL0:L=0
  ·subst hL0;rw[show ((0:Nat):Int)=0 from rfl,GB h];omega
  ·obtain⟨hw,_,_⟩:=k6 h (a:=L) (b:=L) (by omega) (Nat.le_refl _) hL
   rw[y4 h (by omega) hL]
   have:=Jc hw.1 hh.1
   split<;>omega
 ·obtain⟨hw,_,m,hm,e⟩:=k6 h (a:=L) (b:=o) (by omega) ho hL
  rw[y4 h (by omega) hL,y4 h (by omega) (by omega),e]
  have:=(PA hw.1 hm hh.1).1
  omega
def TW(c:D4):List Int:=(List.range (c.high-c.low+1).toNat).map (fun i:Nat=>c.low+(i:Int))++(if c.opt=true then [(-1099511627776)]else [])
theorem As{c:D4}{v:Int}:v∈TW c↔BS c v:=by
 unfold TW BS
 rw[List.mem_append,List.mem_map]
 constructor
 ·rintro (⟨i,hi,rfl⟩|h)
  ·rw[List.mem_range]at hi;left;omega
  ·split at h
   ·rename_i ho;simp at h;exact .inr ⟨ho,h⟩
   ·cases h
 ·rintro (h|⟨h1,h2⟩)
  ·exact .inl ⟨(v-c.low).toNat,by rw[List.mem_range];omega,by omega⟩
  ·right;rw[if_pos h1,h2];simp
theorem eE{s:A4}{c:D4}{nm:List UInt8}(h:P8 c nm){o L:Nat}(ho:o≤L)(hL:L≤c.widths.length):YT (O9 s c L) (O9 s c o) (TW c)↔K1 s c o=K1 s c L:=by
 have hl:=h.low
 have hh:=h.high
 have rk:BS c c.low:=.inl (by omega)
 have rN:BS c c.high:=.inl (by omega)
 by_cases hoL:o=L
 ·subst hoL
  exact⟨fun _=>rfl,fun _ x _ y _ h=>h⟩
 obtain⟨hw,_,_⟩:=k6 h (a:=L) (b:=L) (by omega) (Nat.le_refl _) hL
 have sI:=fun v (hv:c.low≤v∧v≤c.high)=>T9 v hw.1
 by_cases h0:o=0
 ·subst h0
  rw[y4 h (by omega) hL,show ((0:Nat):Int)=0 from rfl,GB h]
  have qI:=Jc hw.1 hh.1
  constructor
  ·intro hd
   have z:∀x y,BS c x→BS c y→O9 s c L x=O9 s c L y:=by
    intro x y hx hy
    refine Classical.byContradiction fun hne=>hd x (As.2 hx) y (As.2 hy) hne ?_
    rw[M4 h hx,M4 h hy,if_pos rfl,if_pos rfl]
   have nf:¬c.opt=true:=by
    intro sX
    have:=z c.low ((-1099511627776)) rk (.inr ⟨sX,rfl⟩)
    rw[M4 h rk,M4 h (.inr ⟨sX,rfl⟩),if_neg (by omega),if_neg (by omega),if_neg (by omega),if_pos rfl]at this
    have:=sI c.low (by omega)
    omega
   have:=z c.low c.high rk rN
   rw[M4 h rk,M4 h rN,if_neg (by omega),if_neg (by omega),if_neg (by omega),if_neg (by omega),X5,X5]at this
   have e:c.low / A9 c L=c.high / A9 c L:=Int.eq_of_mul_eq_mul_left (show A9 c L≠0 by omega) this
   rw[if_neg nf,e];omega
  ·intro he x hx y hy hne
   exfalso
   apply hne
   have nf:¬c.opt=true:=by
    intro sX;rw[if_pos sX]at he;omega
   rw[if_neg nf]at he
   have e:c.low / A9 c L=c.high / A9 c L:=by omega
   have z:∀x,BS c x→O9 s c L x=A9 c L*(c.low / A9 c L):=by
    intro x hx
    have pq:c.low≤x∧x≤c.high:=by
     rcases hx with hx|hx
     ·exact hx
     ·exact absurd hx.1 nf
    rw[M4 h hx,if_neg (by omega),if_neg (by omega),X5]
    have h1:=Jc hw.1 pq.1
    have h2:=Jc hw.1 pq.2
    congr 1
    omega
   rw[z x (As.1 hx),z y (As.1 hy)]
 ·obtain⟨_,hW,m,hm,e⟩:=k6 h (a:=L) (b:=o) (by omega) ho hL
  rw[y4 h (by omega) hL,y4 h (by omega) (by omega)]
  have hc:=(PA hw.1 hm hh.1).2
  have sg:=eD hw.1 hm hh.1
  rw[←e]at hc sg
  have e1:(c.high / A9 c o-c.low / A9 c o+1+(if c.opt=true then 1 else 0)=c.high / A9 c L-c.low / A9 c L+1+(if c.opt=true then 1 else 0))↔(c.high / A9 c o-c.low / A9 c o=c.high / A9 c L-c.low / A9 c L):=by
   constructor<;>intro h<;>omega
  rw[e1,hc,←sg]
  have coa:∀lv:Nat,1≤lv→∀x,c.low≤x→x≤c.high→O9 s c lv x=C6 x (A9 c lv):=by
   intro lv qa x h1 h2
   rw[M4 h (.inl ⟨h1,h2⟩),if_neg (by omega),if_neg (by omega)]
  constructor
  ·intro hd x y h1 h2 h3 h4 h5
   have:=hd x (As.2 (.inl ⟨h1,h2⟩)) y (As.2 (.inl ⟨h3,h4⟩))
   rw[coa L (by omega) x h1 h2,coa L (by omega) y h3 h4,coa o (by omega) x h1 h2,coa o (by omega) y h3 h4]at this
   exact this h5
  ·intro hd x hx y hy hne
   have bW:=fun v (hv:c.low≤v∧v≤c.high)=>T9 v hW.1
   rcases As.1 hx with pq|pq<;>rcases As.1 hy with qz|qz
   ·rw[coa L (by omega) x pq.1 pq.2,coa L (by omega) y qz.1 qz.2]at hne
    rw[coa o (by omega) x pq.1 pq.2,coa o (by omega) y qz.1 qz.2]
    exact hd x y pq.1 pq.2 qz.1 qz.2 hne
   ·have:=bW x pq
    rw[coa o (by omega) x pq.1 pq.2,M4 h (.inr qz),if_neg (by omega),if_pos qz.2]
    omega
   ·have:=bW y qz
    rw[coa o (by omega) y qz.1 qz.2,M4 h (.inr pq),if_neg (by omega),if_pos pq.2]
    omega
   ·exfalso;apply hne;rw[pq.2,qz.2]
def a7(f g:Int→Int)(x y:Int):Bool:=!(decide (f x≠f y) && decide (g x=g y))
def divB(f g:Int→Int)(l:List Int):Bool:=(List.range l.length).all fun i=>(List.range i).all fun k=>a7 f g (l.getD i 0) (l.getD k 0)
theorem TX{f g:Int→Int}{l:List Int}:divB f g l=true↔YT f g l:=by
 unfold divB YT
 simp only[List.all_eq_true,List.mem_range]
 constructor
 ·intro h x hx y hy hne hg
  obtain⟨i,hi,rfl⟩:=List.getElem_of_mem hx
  obtain⟨k,hk,rfl⟩:=List.getElem_of_mem hy
  have g1:l.getD i 0=l[i]:=D3 (List.getElem?_eq_getElem hi)
  have g2:l.getD k 0=l[k]:=D3 (List.getElem?_eq_getElem hk)
  rcases Nat.lt_trichotomy i k with h1|h1|h1
  ·have:=h k hk i h1
   rw[g1,g2]at this
   simp[a7,Ne.symm hne,hg]at this
  ·subst h1;exact hne rfl
  ·have:=h i hi k h1
   rw[g1,g2]at this
   simp[a7,hne,hg]at this
 ·intro h i hi k hk
  have g1:l.getD i 0=l[i]:=D3 (List.getElem?_eq_getElem hi)
  have oH:k<l.length:=by omega
  have g2:l.getD k 0=l[k]:=D3 (List.getElem?_eq_getElem oH)
  rw[g1,g2]
  by_cases hne:f l[i]=f l[k]
  ·simp[a7,hne]
  ·have:=h _ (List.getElem_mem hi) _ (List.getElem_mem oH) hne
   simp[a7,this]
def EN(s:A4)(c:D4):List Int:=if c.kind=2 then (H6 (C1 s c).1 (C1 s c).2 (C3 (C1 s c).1 (C1 s c).2-1)).map fun n:Nat=>(n:Int)else TW c
structure TY(s:A4)(c:D4)(n:Nat):Prop where
 fin:N7 s c=n
 le:n≤4
 mono:∀o L:Nat,o≤L→L≤n→K1 s c o≤K1 s c L
 divs:∀o L:Nat,o≤L→L≤n→(YT (O9 s c L) (O9 s c o) (EN s c)↔K1 s c o=K1 s c L)
def bE(cs:List Code):Bool:=(List.range (C3 E3 cs).toNat).all fun L=>(List.range (L+1)).all fun o=>decide ((H6 E3 cs o).length≤(H6 E3 cs L).length) && decide ((H6 E3 cs (C3 E3 cs-1)).all (fun x=>(H6 E3 cs (C3 E3 cs-1)).all fun y=>decide (M6 E3 cs x L=M6 E3 cs y L) || !(decide (M6 E3 cs x o=M6 E3 cs y o)))=decide ((H6 E3 cs o).length=(H6 E3 cs L).length))
theorem bF:LJ.all bE=true:=by decide +kernel
theorem C4.blk{s:A4}(h:C4 s){i:Nat}{c:D4}(hi:0<i)(hc:s.cols[i]?=some c):∃n,TY s c n:=by
 rcases h.col hc with ⟨rfl,_⟩|⟨_,qZ⟩|⟨_,nm,hm⟩
 ·omega
 ·obtain⟨hf,pN,nO⟩:=h.lst qZ
  have hk:c.kind=2:=by rcases qZ with rfl|rfl<;>rfl
  have rI:=Cu hf
  have qa:=BJ pN (C1 s c).2
  have ht:=List.all_eq_true.1 TT _ hf
  simp only[Oz,Bool.and_eq_true,decide_eq_true_eq,List.all_eq_true,List.mem_range]at ht
  have hb:=List.all_eq_true.1 bF _ hf
  simp only[bE,List.all_eq_true,List.mem_range,Bool.and_eq_true,decide_eq_true_eq]at hb
  obtain⟨n,hn⟩:=Int.eq_ofNat_of_zero_le (show 0≤C3 E3 (C1 s c).2-1 by have:=rI.lv;omega)
  have coa:∀j:Nat,j∈H6 E3 (C1 s c).2 n→∀lv:Int,O9 s c lv j=M6 E3 (C1 s c).2 j lv:=by
   intro j hj lv
   have h1:=rI.mem j (by rw[hn];exact hj)
   have h2:=(ht j (by rw[hn];exact hj)).1.1.1
   unfold O9
   rw[if_pos hk,Gv pN,if_pos]
   unfold BG
   rw[if_neg (by omega),if_pos hk,h2]
   simp;omega
  have blk:∀lv:Int,K1 s c lv=(H6 E3 (C1 s c).2 lv).length:=by
   intro lv;unfold K1;rw[if_pos hk,Bf pN]
  refine⟨n,⟨?_,?_,?_,?_⟩⟩
  ·unfold N7;rw[if_pos hk,qa,hn]
  ·have:=rI.lv;omega
  ·intro o L h1 h2
   have:=(hb L (by omega) o (by omega)).1
   rw[blk,blk];omega
  ·intro o L h1 h2
   have:=(hb L (by omega) o (by omega)).2
   rw[blk,blk]
   have e:EN s c=(H6 E3 (C1 s c).2 n).map fun n:Nat=>(n:Int):=by unfold EN;rw[if_pos hk,qa,Bf pN,hn]
   rw[e]
   rw[hn]at this
   have e2:(((H6 E3 (C1 s c).2 o).length:Int)=((H6 E3 (C1 s c).2 L).length:Int))↔(H6 E3 (C1 s c).2 o).length=(H6 E3 (C1 s c).2 L).length:=by omega
   rw[e2,←decide_eq_true_iff (p:=(H6 E3 (C1 s c).2 o).length=(H6 E3 (C1 s c).2 L).length),←this]
   simp only[List.all_eq_true,Bool.or_eq_true,decide_eq_true_eq,Bool.not_eq_true',decide_eq_false_iff_not]
   constructor
   ·intro hd x hx y hy
    by_cases hxy:M6 E3 (C1 s c).2 x L=M6 E3 (C1 s c).2 y L
    ·exact .inl hxy
    ·have:=hd x (List.mem_map.2 ⟨x,hx,rfl⟩) y (List.mem_map.2 ⟨y,hy,rfl⟩)
     rw[coa x hx,coa y hy,coa x hx,coa y hy]at this
     exact .inr (this hxy)
   ·intro hd x hx y hy hne
    obtain⟨x',pq,rfl⟩:=List.mem_map.1 hx
    obtain⟨y',qz,rfl⟩:=List.mem_map.1 hy
    rw[coa x' pq,coa y' qz]at hne ⊢
    rcases hd x' pq y' qz with h3|h3
    ·exact absurd h3 hne
    ·exact h3
 ·have hk:=hm.kind
  have e:EN s c=TW c:=by unfold EN;rw[if_neg (by omega)]
  refine⟨c.widths.length,⟨?_,(Oy hm).2.1,fun o L h1 h2=>bD hm h1 h2,fun o L h1 h2=>by rw[e];exact eE hm h1 h2⟩⟩
  unfold N7;rw[if_neg (by omega)]
theorem Ga{s:A4}{c:D4}{n:Nat}(h:TY s c n):∀L:Nat,L≤n→P7 s c L≤L∧K1 s c (P7 s c L:Nat)=K1 s c L∧∀o:Nat,o<P7 s c L→K1 s c o≠K1 s c L
 |0,_=>⟨Nat.le_refl _,rfl,fun o ho=>absurd ho (Nat.not_lt_zero _)⟩
 |L+1,hL=>by
  unfold P7
  by_cases he:K1 s c L=K1 s c (L+1:Nat)
  ·rw[if_pos he]
   obtain⟨h1,h2,h3⟩:=Ga h L (by omega)
   exact⟨by omega,by rw[h2,he],fun o ho=>by rw[←he];exact h3 o ho⟩
  ·rw[if_neg he]
   refine⟨Nat.le_refl _,rfl,fun o ho heo=>?_⟩
   have h1:=h.mono o L (by omega) (by omega)
   have h2:=h.mono L (L+1) (by omega) hL
   omega
theorem TZ{s:A4}{c:D4}{n:Nat}(h:TY s c n){L k:Nat}(hL:L≤n)(h1:∀o:Nat,o<k→K1 s c o≠K1 s c L)(h2:K1 s c k=K1 s c L):(k:Int)=P7 s c L:=by
 obtain⟨e1,e2,e3⟩:=Ga h L hL
 rcases Nat.lt_trichotomy k (P7 s c L)with h3|h3|h3
 ·exact absurd h2 (e3 k h3)
 ·rw[h3]
 ·exact absurd e2 (h1 _ h3)
end Go.Proofs.YtjkbhaaobhgkdabGreatDoor
