/- Chapter 2: values that a row can have, at all levels. Draws: values, rows and picks, and that they are right. Chapter 2: when a coarser level divides as a finer one does. Chapter 2: the least level of a column of a drawn schema. -/
import Derived.Test.YtiphlhoclaogjaaGreatDoorRB12
import Derived.Test.YtiphlhoclaogjaaGreatDoorRCd1
import Derived.Test.YtiphlhoclaogjaaGreatDoorRSx
set_option linter.unusedVariables false
set_option linter.unnecessarySimpa false
set_option linter.unusedSimpArgs false
set_option maxHeartbeats 64000000
namespace Go.Proofs.YtiphlhoclaogjaaGreatDoor
open Go Go.Av
attribute [local irreducible] C9 B3 C7 D1 DQ D0 C6 St.le A3 B7
set_option maxRecDepth 100000
def Gl(ws:List Int)(lv:Nat):Int:=ws.getD (ws.length-lv) 0
def dC(ws:List Int):Bool:=decide (1≤ws.length) && decide (ws.length≤4) && decide (Gl ws ws.length=1) && ((List.range 5).all fun a=>(List.range (a+1)).all fun b=>decide (b=0) || decide (ws.length<a) || (decide (1≤Gl ws a∧Gl ws a≤20) && decide (1≤Gl ws b∧Gl ws b≤20) && decide (Gl ws b=Gl ws a*(Gl ws b / Gl ws a)∧1≤Gl ws b / Gl ws a)))
theorem TD:EY.all dC=true:=by decide +kernel
theorem JL{c:D4}{lv:Nat}(h:lv≤c.widths.length):B1 c lv=Gl c.widths lv:=by
 unfold B1 Gl
 congr 1
 omega
theorem Oh{c:D4}{nm:List UInt8}(h:R4 c nm):1≤c.widths.length∧c.widths.length≤4∧B1 c c.widths.length=1:=by
 have h1:=List.all_eq_true.1 TD _ h.wid
 simp only[dC,Bool.and_eq_true,decide_eq_true_eq]at h1
 rw[JL (Nat.le_refl _)]
 exact⟨h1.1.1.1,h1.1.1.2,h1.1.2⟩
theorem l7{c:D4}{nm:List UInt8}(h:R4 c nm){a b:Nat}(hb:1≤b)(uc:b≤a)(ha:a≤c.widths.length):(1≤B1 c a∧B1 c a≤20)∧(1≤B1 c b∧B1 c b≤20)∧∃m,1≤m∧B1 c b=B1 c a*m:=by
 have h1:=List.all_eq_true.1 TD _ h.wid
 simp only[dC,Bool.and_eq_true,decide_eq_true_eq,List.all_eq_true,List.mem_range,Bool.or_eq_true]at h1
 have h2:=h1.2 a (by omega) b (by omega)
 rw[JL ha,JL (by omega)]
 rcases h2 with (h2|h2)|h2
 ·omega
 ·omega
 ·exact⟨h2.1.1,h2.1.2,_,h2.2.2,h2.2.1⟩
theorem a8(v:Int){w:Int}:C8 v w=w*(v / w):=by
 have:=Int.mul_ediv_add_emod v w
 unfold C8
 omega
theorem aL(v:Int):C8 v 1=v:=by unfold C8;omega
theorem TE(v:Int){w m:Int}(hw:1≤w)(hm:1≤m):C8 (C8 v w) (w*m)=C8 v (w*m):=by
 rw[a8,a8,a8]
 congr 1
 rw[Int.mul_ediv_mul_of_pos _ _ (by omega:(0:Int)<w),Int.ediv_ediv_of_nonneg (by omega)]
theorem BH{x v w:Int}(hw:1≤w)(h1:C8 v w≤x)(h2:x<C8 v w+w):C8 x w=C8 v w:=by
 rw[a8]at h1 h2
 rw[a8,a8]
 congr 1
 have e:x=(x-w*(v / w))+w*(v / w):=by omega
 rw[e,Int.add_mul_ediv_left _ _ (by omega:w≠0),Int.ediv_eq_zero_of_lt (by omega) (by omega)]
 omega
theorem QF{x v w m:Int}(hw:1≤w)(hm:1≤m)(h1:C8 v w≤x)(h2:x<C8 v w+w):C8 x (w*m)=C8 v (w*m):=by
 rw[←TE x hw hm,BH hw h1 h2,TE v hw hm]
def BN(c:D4)(v:Int):Prop:=(c.low≤v∧v≤c.high)∨(c.opt=true∧v=(-1099511627776))
theorem N5{s:A4}{c:D4}{nm:List UInt8}(h:R4 c nm){v:Int}(hv:BN c v)(lv:Int):P8 s c lv v=if lv=0 then 0 else if v=(-1099511627776)then (-1099511627776)else C8 v (B1 c lv):=by
 have hk:=h.kind
 have h1:=h.low
 have h2:=h.high
 unfold P8
 rw[if_neg (by omega),if_neg]
 rcases hv with hv|hv<;>omega
theorem dD{s:A4}{c:D4}{nm:List UInt8}(h:R4 c nm){v:Int}(hv:BN c v){a b:Nat}(uc:b≤a)(ha:a≤c.widths.length):BF c a (P8 s c a v) b=(P8 s c b v,true):=by
 have hl:=h.low
 have hh:=h.high
 rw[N5 h hv,N5 h hv]
 by_cases zb:a=0
 ·subst zb
  have ns:b=0:=by omega
  subst ns
  simp[BF,M1]
 ·by_cases hm:v=(-1099511627776)
  ·have ho:c.opt=true:=by
    rcases hv with hv|hv
    ·omega
    ·exact hv.1
   rw[if_neg (by omega),if_pos hm]
   unfold BF
   rw[if_pos ⟨by omega,rfl⟩,ho]
   by_cases ns:b=0
   ·subst ns;simp
   ·rw[if_neg (by omega),if_neg (by omega),if_pos hm]
  ·have nY:c.low≤v∧v≤c.high:=by
    rcases hv with hv|hv
    ·exact hv
    ·exact absurd hv.2 hm
   rw[if_neg (by omega),if_neg hm,if_neg hm]
   obtain⟨hw,_,_⟩:=l7 h (a:=a) (b:=a) (by omega) (Nat.le_refl _) ha
   have hd:=V9 v hw.1
   have qR:=BH hw.1 (Int.le_refl _) (show C8 v (B1 c a)<C8 v (B1 c a)+B1 c a by omega)
   have tO:M1 c a (C8 v (B1 c a))=(max (C8 v (B1 c a)) c.low,min (C8 v (B1 c a)+B1 c a-1) c.high,true):=by
    unfold M1
    rw[if_neg (by omega),if_neg (by omega),qR]
    have:max (C8 v (B1 c a)) c.low≤min (C8 v (B1 c a)+B1 c a-1) c.high:=by omega
    simp[this]
   unfold BF
   rw[if_neg (by omega),tO]
   simp only[Bool.true_eq_false,if_false]
   by_cases ns:b=0
   ·subst ns;simp
   ·rw[if_neg (by omega),if_neg (by omega),if_neg (by omega)]
    obtain⟨_,_,m,hm1,qt⟩:=l7 h (a:=a) (b:=b) (by omega) uc ha
    have e1:=QF (x:=max (C8 v (B1 c a)) c.low) (v:=v) hw.1 hm1 (by omega) (by omega)
    have e2:=QF (x:=min (C8 v (B1 c a)+B1 c a-1) c.high) (v:=v) hw.1 hm1 (by omega) (by omega)
    rw[qt,e1,e2]
    simp
theorem dE{s:A4}{c:D4}{nm:List UInt8}(h:R4 c nm){v:Int}(hv:BN c v):P8 s c c.widths.length v=v:=by
 obtain⟨h1,h2,h3⟩:=Oh h
 rw[N5 h hv,if_neg (by omega),h3,aL]
 split
 ·rename_i e;exact e.symm
 ·rfl
def Oi(cs:List Code):Bool:=(H1 G0 cs (C5 G0 cs-1)).all fun v=>Y7 cs v && decide (L1 G0 cs v (C5 G0 cs-1)=v) && decide (L1 G0 cs v 0=0) && ((List.range (C5 G0 cs).toNat).all fun a=>(List.range (a+1)).all fun b=>decide (De G0 cs a (L1 G0 cs v a) b=(L1 G0 cs v b,true)))
theorem TF:NG.all Oi=true:=by decide +kernel
theorem TG{a b:List UInt8}(h:D6 a=D6 b)(cs:List Code)(fr v to:Int):∀(l:List Nat) (out:Int) (sm:Bool),x8 a cs fr v to l out sm=x8 b cs fr v to l out sm
 |[],out,sm=>rfl
 |x::r,out,sm=>by simp only[x8,TC h,TG h cs fr v to r]
theorem dF{a b:List UInt8}(h:D6 a=D6 b)(cs:List Code)(fr v to:Int):De a cs fr v to=De b cs fr v to:=by
 unfold De
 rw[Gk h,Cm h,TG h]
theorem D9.lst{s:A4}(h:D9 s){c:D4}(hc:c=JK∨c=Sz):(C2 s c).2∈NG∧D6 (C2 s c).1=D6 G0∧(C2 s c).2.length≤10:=by
 obtain⟨l1,l2,m1,m2,e⟩:=h.ls
 rcases hc with rfl|rfl
 ·have:C2 s JK=(G0,l1):=by unfold C2;rw[e];rfl
  rw[this];exact⟨m1,rfl,(Dt m1).len⟩
 ·have:C2 s Sz=(Dz,l2):=by unfold C2;rw[e];rfl
  rw[this];exact⟨m2,jl,(Dt m2).len⟩
def o4(s:A4)(c:D4)(v:Int):Prop:=(c.kind=1∧1≤v∧v≤60)∨(c.kind=2∧∃n:Nat,v=n∧n∈H1 (C2 s c).1 (C2 s c).2 (C5 (C2 s c).1 (C2 s c).2-1))∨(c.kind=3∧BN c v)
structure dG(s:A4)(c:D4)(n:Nat):Prop where
 fin:M0 s c=n
 le:n≤4
 top:∀v,o4 s c v→P8 s c n v=v
 zero:∀v,o4 s c v→P8 s c 0 v=0
 turn:∀v,o4 s c v→∀a b:Nat,b≤a→a≤n→(if c.kind=2 then De (C2 s c).1 (C2 s c).2 a (P8 s c a v) b else BF c a (P8 s c a v) b)=(P8 s c b v,true)
theorem D9.facts{s:A4}(h:D9 s){i:Nat}{c:D4}(hi:0<i)(hc:s.cols[i]?=some c):∃n,dG s c n:=by
 rcases h.col hc with ⟨rfl,_⟩|⟨_,ph⟩|⟨_,nm,hm⟩
 ·omega
 ·obtain⟨hf,pX,mL⟩:=h.lst ph
  have hk:c.kind=2:=by rcases ph with rfl|rfl<;>rfl
  have pT:=Dt hf
  have oV:=Cm pX (C2 s c).2
  have ht:=List.all_eq_true.1 TF _ hf
  simp only[Oi,Bool.and_eq_true,decide_eq_true_eq,List.all_eq_true,List.mem_range]at ht
  obtain⟨n,hn⟩:=Int.eq_ofNat_of_zero_le (show 0≤C5 G0 (C2 s c).2-1 by have:=pT.lv;omega)
  have ok:∀v,o4 s c v→∃j:Nat,v=j∧j∈H1 G0 (C2 s c).2 n:=by
   rintro v (⟨h1,_⟩|⟨_,j,h1,h2⟩|⟨h1,_⟩)
   ·omega
   ·exact⟨j,h1,by rw[←hn,←oV,←Gk pX];exact h2⟩
   ·omega
  have coa:∀j:Nat,j∈H1 G0 (C2 s c).2 n→∀lv:Int,P8 s c lv j=L1 G0 (C2 s c).2 j lv:=by
   intro j hj lv
   have h1:=pT.mem j (by rw[hn];exact hj)
   have h2:=(ht j (by rw[hn];exact hj)).1.1.1
   unfold P8
   rw[if_pos hk,TC pX,if_pos]
   unfold BD
   rw[if_neg (by omega),if_pos hk,h2]
   simp;omega
  refine⟨n,⟨?_,?_,?_,?_,?_⟩⟩
  ·unfold M0;rw[if_pos hk,oV,hn]
  ·have:=pT.lv;omega
  ·intro v hv
   obtain⟨j,rfl,hj⟩:=ok v hv
   rw[coa j hj,←hn]
   exact(ht j (by rw[hn];exact hj)).1.1.2
  ·intro v hv
   obtain⟨j,rfl,hj⟩:=ok v hv
   rw[coa j hj]
   exact(ht j (by rw[hn];exact hj)).1.2
  ·intro v hv a b uc ha
   obtain⟨j,rfl,hj⟩:=ok v hv
   rw[if_pos hk,coa j hj,coa j hj,dF pX]
   exact(ht j (by rw[hn];exact hj)).2 a (by omega) b (by omega)
 ·have hk:=hm.kind
  have ok:∀v,o4 s c v→BN c v:=by
   rintro v (⟨h1,_⟩|⟨h1,_⟩|⟨_,h1⟩)
   ·omega
   ·omega
   ·exact h1
  refine⟨c.widths.length,⟨?_,(Oh hm).2.1,?_,?_,?_⟩⟩
  ·unfold M0;rw[if_neg (by omega)]
  ·intro v hv;exact dE hm (ok v hv)
  ·intro v hv;rw[N5 hm (ok v hv),if_pos rfl]
  ·intro v hv a b uc ha
   rw[if_neg (by omega)]
   exact dD hm (ok v hv) uc ha
theorem D9.chain{s:A4}(h:D9 s){i:Nat}{c:D4}(hi:0<i)(hc:s.cols[i]?=some c):∃n:Nat,B4 s i=n∧n≤4∧∀v,o4 s c v→G2 s i n v=v∧G2 s i 0 v=0∧∀a b:Nat,b≤a→a≤n→NN s i a (G2 s i a v) b=(G2 s i b v,true):=by
 obtain⟨n,hf⟩:=h.facts hi hc
 have mM:=F0 hc
 have mX:B8 s i=c:=C1 (by simpa using hc)
 have uR:E5 s i=n:=by unfold E5;rw[if_neg (by omega),mX];exact hf.fin
 have uU:B4 s i=n:=by unfold B4;rw[if_pos h.ok];exact uR
 have coa:∀(lv:Nat) v,lv≤n→G2 s i lv v=P8 s c lv v:=by
  intro lv v oV
  unfold G2
  rw[uU,if_neg (by omega),mX]
 refine⟨n,uU,hf.le,fun v hv=>⟨?_,?_,?_⟩⟩
 ·rw[coa n v (Nat.le_refl _)];exact hf.top v hv
 ·have:=coa 0 v (Nat.zero_le _)
  rw[show ((0:Nat):Int)=0 from rfl]at this
  rw[this];exact hf.zero v hv
 ·intro a b uc ha
  have ht:=hf.turn v hv a b uc ha
  rw[coa a v ha,coa b v (by omega)]
  unfold NN T9
  rw[if_pos h.ok,uR,if_neg (by omega),mX,ht]
  simp
def u5(l:List UInt8)(a:Nat)(s:A4)(k:Int):Int×Nat :=
 let c:=B8 s k
 if c.kind=1 then (1+((C0 l a 60).1:Int),(C0 l a 60).2)
 else if c.kind=2 then ((((F9 s k).getD (C0 l a (F9 s k).length).1 0:Nat):Int),(C0 l a (F9 s k).length).2)
 else if c.opt=true then
  (if ((C0 l a 4).1:Int)=3 then ((-1099511627776),(C0 l a 4).2)else (c.low+((C0 l (C0 l a 4).2 (c.high-c.low+1)).1:Int),(C0 l (C0 l a 4).2 (c.high-c.low+1)).2))
 else (c.low+((C0 l a (c.high-c.low+1)).1:Int),(C0 l a (c.high-c.low+1)).2)
def rowFrom(l:List UInt8)(s:A4):Nat→List Int×Nat→Nat→List Int×Nat
 |_,x,0=>x
 |k,x,n+1=>rowFrom l s (k+1) (x.1++[(u5 l x.2 s k).1],(u5 l x.2 s k).2) n
def k5(l:List UInt8)(a:Nat)(s:A4):List Int×Nat:=rowFrom l s 0 ([],a) s.cols.length
def Gm(l:List UInt8)(s:A4):Nat→List Pk×Nat→Nat→List Pk×Nat
 |_,x,0=>x
 |k,x,n+1=>if (0:Int)<((C0 l x.2 4).1:Int)then Gm l s (k+1) (x.1++[⟨k,((C0 l (C0 l x.2 4).2 (B4 s k+1)).1:Int)⟩],(C0 l (C0 l x.2 4).2 (B4 s k+1)).2) n else Gm l s (k+1) (x.1,(C0 l x.2 4).2) n
def Du(l:List UInt8)(a:Nat)(s:A4):List Pk×Nat:=Gm l s 1 ([],a) (s.cols.length-1)
theorem D9.lvs{s:A4}(h:D9 s){i:Nat}{c:D4}(hc:s.cols[i]?=some c)(hk:c.kind=2):(0≤c.lst∧c.lst<s.lists.length)∧F9 s i=H1 (C2 s c).1 (C2 s c).2 (C5 (C2 s c).1 (C2 s c).2-1)∧1≤(F9 s i).length∧(F9 s i).length≤10:=by
 have mX:B8 s i=c:=C1 (by simpa using hc)
 have e:F9 s i=H1 (C2 s c).1 (C2 s c).2 (C5 (C2 s c).1 (C2 s c).2-1):=by unfold F9;rw[mX]
 rcases h.col hc with ⟨_,rfl⟩|⟨_,ph⟩|⟨_,nm,hm⟩
 ·cases hk
 ·obtain⟨hf,pX,mL⟩:=h.lst ph
  have pT:=(Dt hf).at'
  refine⟨?_,e,?_⟩
  ·rw[h.lens.1];rcases ph with rfl|rfl<;>decide
  ·rw[e,Cm pX,Gk pX];exact pT
 ·have:=hm.kind;omega
theorem WG{s:A4}(h:D9 s)(l:List UInt8)(a:Nat){i:Nat}{c:D4}(hc:s.cols[i]?=some c):o4 s c (u5 l a s i).1:=by
 have mX:B8 s i=c:=C1 (by simpa using hc)
 unfold u5
 rw[mX]
 rcases h.col hc with ⟨_,rfl⟩|⟨_,ph⟩|⟨_,nm,hm⟩
 ·have:=I2 l a (n:=60) (by omega)
  exact .inl ⟨rfl,by simp only[Sy,if_true];omega⟩
 ·have hk:c.kind=2:=by rcases ph with rfl|rfl<;>rfl
  obtain⟨_,h1,h2,h3⟩:=h.lvs hc hk
  have hn:=I2 l a (n:=(F9 s i).length) (by omega)
  dsimp only
  rw[if_neg (by omega),if_pos hk]
  have mM:(C0 l a (F9 s i).length).1<(F9 s i).length:=by omega
  refine .inr (.inl ⟨hk,_,rfl,?_⟩)
  rw[←h1,D7 (List.getElem?_eq_getElem mM)]
  exact List.getElem_mem mM
 ·have hk:=hm.kind
  have hh:=hm.high
  have n1:=I2 l a (n:=c.high-c.low+1) (by omega)
  have n2:=I2 l (C0 l a 4).2 (n:=c.high-c.low+1) (by omega)
  dsimp only
  rw[if_neg (by omega),if_neg (by omega)]
  refine .inr (.inr ⟨hk,?_⟩)
  split
  ·split
   ·exact .inr ⟨by assumption,rfl⟩
   ·exact .inl ⟨by dsimp only;omega,by dsimp only;omega⟩
  ·exact .inl ⟨by dsimp only;omega,by dsimp only;omega⟩
theorem TH(x:Int){w:Int}(hw:1≤w):(x+1) / w=x / w+(if (x+1) % w=0 then 1 else 0):=by
 have h1:=Int.mul_ediv_add_emod x w
 have h2:=Int.emod_nonneg x (b:=w) (by omega)
 have h3:=Int.emod_lt_of_pos x (b:=w) (by omega)
 by_cases h:x % w+1=w
 ·have e:x+1=w*(x / w+1):=by rw[Int.mul_add,Int.mul_one];omega
  have e2:(x+1) % w=0:=by rw[e];exact Int.mul_emod_right w _
  have e3:(x+1) / w=x / w+1:=by rw[e];exact Int.mul_ediv_cancel_left _ (by omega)
  rw[if_pos e2,e3]
 ·have e:x+1=(x % w+1)+w*(x / w):=by omega
  have e3:(x+1) / w=x / w:=by
   rw[e,Int.add_mul_ediv_left _ _ (by omega:w≠0),Int.ediv_eq_zero_of_lt (by omega) (by omega)]
   omega
  have e2:(x+1) % w=x % w+1:=by
   have:=Int.mul_ediv_add_emod (x+1) w
   rw[e3]at this
   omega
  rw[if_neg (by omega),e3]
  omega
def Gn(low high w W:Int):Prop:=∀t,low<t→t≤high→t % w=0→t % W=0
theorem Xm{t w m:Int}(h:t % (w*m)=0):t % w=0:=by
 have:=Int.dvd_of_emod_eq_zero h
 exact Int.emod_eq_zero_of_dvd (Int.dvd_trans (Int.dvd_mul_right w m) this)
theorem cnt{w m:Int}(hw:1≤w)(hm:1≤m)(low:Int):∀j:Nat,(low+j) / (w*m)-low / (w*m)≤(low+j) / w-low / w∧((low+j) / (w*m)-low / (w*m)=(low+j) / w-low / w↔Gn low (low+j) w (w*m))
 |0=>⟨by simp,by
   constructor
   ·intro _ t h1 h2;omega
   ·intro _;simp⟩
 |j+1=>by
  obtain⟨h1,h2⟩:=cnt hw hm low j
  have hW:1≤w*m:=by
   have:=Int.mul_le_mul hw hm (by omega) (by omega)
   simpa using this
  have e:low+((j+1:Nat):Int)=(low+j)+1:=by omega
  rw[e,TH _ hw,TH _ hW]
  have ext:Gn low (low+j+1) w (w*m)↔Gn low (low+j) w (w*m)∧((low+j+1) % w=0→(low+j+1) % (w*m)=0):=by
   constructor
   ·intro h
    exact⟨fun t h3 h4=>h t h3 (by omega),fun h3=>h _ (by omega) (by omega) h3⟩
   ·rintro ⟨h3,h4⟩ t h5 h6 h7
    by_cases h8:t=low+j+1
    ·subst h8;exact h4 h7
    ·exact h3 t h5 (by omega) h7
  rw[ext,←h2]
  by_cases ha:(low+j+1) % w=0
  ·by_cases hb:(low+j+1) % (w*m)=0
   ·rw[if_pos ha,if_pos hb]
    exact⟨by omega,by constructor<;>(intro h;first|exact⟨by omega,fun _=>hb⟩|(have:=h.1;omega))⟩
   ·rw[if_pos ha,if_neg hb]
    exact⟨by omega,by constructor<;>(intro h;first|(exfalso;omega)|exact absurd (h.2 ha) hb)⟩
  ·have hb:¬(low+j+1) % (w*m)=0:=fun h=>ha (Xm h)
   rw[if_neg ha,if_neg hb]
   exact⟨by omega,by constructor<;>(intro h;first|exact⟨by omega,fun h=>absurd h ha⟩|(have:=h.1;omega))⟩
theorem Oj{w m low high:Int}(hw:1≤w)(hm:1≤m)(h:low≤high):high / (w*m)-low / (w*m)≤high / w-low / w∧(high / (w*m)-low / (w*m)=high / w-low / w↔Gn low high w (w*m)):=by
 obtain⟨j,hj⟩:=Int.eq_ofNat_of_zero_le (show 0≤high-low by omega)
 have:=cnt hw hm low j
 rwa[show low+(j:Int)=high by omega]at this
def Cn(low high w W:Int):Bool:=decide (high<(low / w+1)*w) || (decide (((low / w+1)*w).tmod W=0) && (decide (high<(low / w+1)*w+w) || decide (((low / w+1)*w+w).tmod W=0)))
theorem gY{t W:Int}:t.tmod W=0↔t % W=0:=by
 constructor
 ·intro h;exact Int.emod_eq_zero_of_dvd (Int.dvd_of_tmod_eq_zero h)
 ·intro h;exact Int.tmod_eq_zero_of_dvd (Int.dvd_of_emod_eq_zero h)
theorem dH{w m low high:Int}(hw:1≤w)(hm:1≤m):Cn low high w (w*m)=true↔Gn low high w (w*m):=by
 have hd:=Int.mul_ediv_add_emod low w
 have po:=Int.emod_nonneg low (b:=w) (by omega)
 have qj:=Int.emod_lt_of_pos low (b:=w) (by omega)
 have ef:(low / w+1)*w=w*(low / w)+w:=by rw[Int.add_mul,Int.mul_comm];omega
 have fm:((low / w+1)*w) % w=0:=by rw[Int.mul_comm];exact Int.mul_emod_right w _
 have gm:((low / w+1)*w+w) % w=0:=by
  rw[show (low / w+1)*w+w=w*(low / w+1+1) by rw[Int.mul_add,Int.mul_comm w (low / w+1)];omega]
  exact Int.mul_emod_right w _
 have geF:∀t,low<t→t % w=0→t=(low / w+1)*w∨(low / w+1)*w+w≤t:=by
  intro t h1 h2
  obtain⟨q,rfl⟩:=Int.dvd_of_emod_eq_zero h2
  have h3:low / w<q:=by
   rcases Int.lt_or_le (low / w) q with h|h
   ·exact h
   ·have:=Int.mul_le_mul_of_nonneg_left h (show 0≤w by omega);omega
  by_cases h4:q=low / w+1
  ·left;rw[h4,Int.mul_comm]
  ·right
   have:=Int.mul_le_mul_of_nonneg_left (show low / w+1+1≤q by omega) (show 0≤w by omega)
   rw[Int.mul_add,Int.mul_add]at this
   omega
 unfold Cn
 simp only[Bool.or_eq_true,Bool.and_eq_true,decide_eq_true_eq,gY]
 constructor
 ·intro h t h1 h2 h3
  rcases h with h|⟨h,h4⟩
  ·rcases geF t h1 h3 with h5|h5<;>omega
  ·rcases geF t h1 h3 with h5|h5
   ·rw[h5];exact h
   ·rcases h4 with h4|h4
    ·omega
    ·have d1:=Int.dvd_of_emod_eq_zero h
     have d2:=Int.dvd_of_emod_eq_zero h4
     have d3:w*m ∣ w:=by
      have:=Int.dvd_sub d2 d1
      rwa[show (low / w+1)*w+w-(low / w+1)*w=w by omega]at this
     exact Int.emod_eq_zero_of_dvd (Int.dvd_trans d3 (Int.dvd_of_emod_eq_zero h3))
 ·intro h
  by_cases h1:high<(low / w+1)*w
  ·exact .inl h1
  ·refine .inr ⟨h _ (by omega) (by omega) fm,?_⟩
   by_cases h2:high<(low / w+1)*w+w
   ·exact .inl h2
   ·exact .inr (h _ (by omega) (by omega) gm)
def Xn(f g:Int→Int)(l:List Int):Prop:=∀x∈l,∀y∈l,f x≠f y→g x≠g y
theorem dI{w m low high:Int}(hw:1≤w)(hm:1≤m)(rI:low≤high):(∀x y,low≤x→x≤high→low≤y→y≤high→C8 x w≠C8 y w→C8 x (w*m)≠C8 y (w*m))↔Gn low high w (w*m):=by
 have hW:1≤w*m:=by
  have:=Int.mul_le_mul hw hm (by omega) (by omega)
  simpa using this
 constructor
 ·intro h t h1 h2 h3
  refine Classical.byContradiction fun h4=>?_
  have e1:C8 t w=t:=by unfold C8;omega
  have b1:=V9 (t-1) hw
  have b2:=V9 t hW
  have e2:C8 t (w*m)≤t-1:=by
   have:=Int.emod_nonneg t (b:=w*m) (by omega)
   unfold C8;omega
  have e3:C8 (t-1) (w*m)=C8 t (w*m):=BH hW e2 (by omega)
  exact h t (t-1) (by omega) h2 (by omega) (by omega) (by omega) e3.symm
 ·intro h
  have key:∀x y,low≤x→y≤high→x<y→C8 x w≠C8 y w→C8 x (w*m)≠C8 y (w*m):=by
   intro x y h1 h2 h3 h4
   have b1:=V9 y hw
   have b3:=V9 x hW
   have hx:x<C8 y w:=by
    rcases Int.lt_or_le x (C8 y w)with h5|h5
    ·exact h5
    ·exact absurd (BH hw h5 (by omega)) h4
   have h6:C8 y w % w=0:=by rw[a8];exact Int.mul_emod_right w _
   have h7:=h (C8 y w) (by omega) (by omega) h6
   have h8:C8 (C8 y w) (w*m)=C8 y w:=by unfold C8 at h7 ⊢;omega
   have h9:=NK hW b1.2
   omega
  intro x y h1 h2 h3 h4 h5 h6
  rcases Int.lt_trichotomy x y with h7|h7|h7
  ·exact key x y h1 h4 h7 h5 h6
  ·exact h5 (by rw[h7])
  ·exact key y x h3 h2 h7 (Ne.symm h5) h6.symm
theorem y7{s:A4}{c:D4}{nm:List UInt8}(h:R4 c nm){L:Nat}(h1:1≤L)(h2:L≤c.widths.length):K4 s c L=c.high / B1 c L-c.low / B1 c L+1+(if c.opt=true then 1 else 0):=by
 obtain⟨hw,_,_⟩:=l7 h (a:=L) (b:=L) h1 (Nat.le_refl _) h2
 have hk:=h.kind
 unfold K4
 rw[if_neg (by omega),if_neg (by omega),a8,a8,←Int.mul_sub,Int.mul_ediv_cancel_left _ (by omega)]
theorem Fm{s:A4}{c:D4}{nm:List UInt8}(h:R4 c nm):K4 s c 0=1:=by
 have hk:=h.kind
 unfold K4
 rw[if_neg (by omega),if_pos rfl]
theorem JM{a b w:Int}(hw:1≤w)(h:a≤b):a / w≤b / w:=Int.ediv_le_ediv (by omega) h
theorem aM{s:A4}{c:D4}{nm:List UInt8}(h:R4 c nm){o L:Nat}(ho:o≤L)(hL:L≤c.widths.length):K4 s c o≤K4 s c L:=by
 have hh:=h.high
 by_cases h0:o=0
 ·subst h0
  rw[show ((0:Nat):Int)=0 from rfl,Fm h]
  by_cases uX:L=0
  ·subst uX;rw[show ((0:Nat):Int)=0 from rfl,Fm h];omega
  ·obtain⟨hw,_,_⟩:=l7 h (a:=L) (b:=L) (by omega) (Nat.le_refl _) hL
   rw[y7 h (by omega) hL]
   have:=JM hw.1 hh.1
   split<;>omega
 ·obtain⟨hw,_,m,hm,e⟩:=l7 h (a:=L) (b:=o) (by omega) ho hL
  rw[y7 h (by omega) hL,y7 h (by omega) (by omega),e]
  have:=(Oj hw.1 hm hh.1).1
  omega
def TI(c:D4):List Int:=(List.range (c.high-c.low+1).toNat).map (fun i:Nat=>c.low+(i:Int))++(if c.opt=true then [(-1099511627776)]else [])
theorem As{c:D4}{v:Int}:v∈TI c↔BN c v:=by
 unfold TI BN
 rw[List.mem_append,List.mem_map]
 constructor
 ·rintro (⟨i,hi,rfl⟩|h)
  ·rw[List.mem_range]at hi;left;omega
  ·split at h
   ·rename_i ho;simp at h;exact .inr ⟨ho,h⟩
   ·cases h
 ·rintro (h|⟨h1,h2⟩)
  ·exact .inl ⟨(v-c.low).toNat,by rw[List.mem_range];omega,by omega⟩
  ·right;rw[if_pos h1,h2];simp
theorem dJ{s:A4}{c:D4}{nm:List UInt8}(h:R4 c nm){o L:Nat}(ho:o≤L)(hL:L≤c.widths.length):Xn (P8 s c L) (P8 s c o) (TI c)↔K4 s c o=K4 s c L:=by
 have hl:=h.low
 have hh:=h.high
 have rI:BN c c.low:=.inl (by omega)
 have qW:BN c c.high:=.inl (by omega)
 by_cases hoL:o=L
 ·subst hoL
  exact⟨fun _=>rfl,fun _ x _ y _ h=>h⟩
 obtain⟨hw,_,_⟩:=l7 h (a:=L) (b:=L) (by omega) (Nat.le_refl _) hL
 have rr:=fun v (hv:c.low≤v∧v≤c.high)=>V9 v hw.1
 by_cases h0:o=0
 ·subst h0
  rw[y7 h (by omega) hL,show ((0:Nat):Int)=0 from rfl,Fm h]
  have pB:=JM hw.1 hh.1
  constructor
  ·intro hd
   have z:∀x y,BN c x→BN c y→P8 s c L x=P8 s c L y:=by
    intro x y hx hy
    refine Classical.byContradiction fun hne=>hd x (As.2 hx) y (As.2 hy) hne ?_
    rw[N5 h hx,N5 h hy,if_pos rfl,if_pos rfl]
   have mc:¬c.opt=true:=by
    intro rn
    have:=z c.low ((-1099511627776)) rI (.inr ⟨rn,rfl⟩)
    rw[N5 h rI,N5 h (.inr ⟨rn,rfl⟩),if_neg (by omega),if_neg (by omega),if_neg (by omega),if_pos rfl]at this
    have:=rr c.low (by omega)
    omega
   have:=z c.low c.high rI qW
   rw[N5 h rI,N5 h qW,if_neg (by omega),if_neg (by omega),if_neg (by omega),if_neg (by omega),a8,a8]at this
   have e:c.low / B1 c L=c.high / B1 c L:=Int.eq_of_mul_eq_mul_left (show B1 c L≠0 by omega) this
   rw[if_neg mc,e];omega
  ·intro he x hx y hy hne
   exfalso
   apply hne
   have mc:¬c.opt=true:=by
    intro rn;rw[if_pos rn]at he;omega
   rw[if_neg mc]at he
   have e:c.low / B1 c L=c.high / B1 c L:=by omega
   have z:∀x,BN c x→P8 s c L x=B1 c L*(c.low / B1 c L):=by
    intro x hx
    have oz:c.low≤x∧x≤c.high:=by
     rcases hx with hx|hx
     ·exact hx
     ·exact absurd hx.1 mc
    rw[N5 h hx,if_neg (by omega),if_neg (by omega),a8]
    have h1:=JM hw.1 oz.1
    have h2:=JM hw.1 oz.2
    congr 1
    omega
   rw[z x (As.1 hx),z y (As.1 hy)]
 ·obtain⟨_,hW,m,hm,e⟩:=l7 h (a:=L) (b:=o) (by omega) ho hL
  rw[y7 h (by omega) hL,y7 h (by omega) (by omega)]
  have hc:=(Oj hw.1 hm hh.1).2
  have xO:=dI hw.1 hm hh.1
  rw[←e]at hc xO
  have e1:(c.high / B1 c o-c.low / B1 c o+1+(if c.opt=true then 1 else 0)=c.high / B1 c L-c.low / B1 c L+1+(if c.opt=true then 1 else 0))↔(c.high / B1 c o-c.low / B1 c o=c.high / B1 c L-c.low / B1 c L):=by
   constructor<;>intro h<;>omega
  rw[e1,hc,←xO]
  have coa:∀lv:Nat,1≤lv→∀x,c.low≤x→x≤c.high→P8 s c lv x=C8 x (B1 c lv):=by
   intro lv oV x h1 h2
   rw[N5 h (.inl ⟨h1,h2⟩),if_neg (by omega),if_neg (by omega)]
  constructor
  ·intro hd x y h1 h2 h3 h4 h5
   have:=hd x (As.2 (.inl ⟨h1,h2⟩)) y (As.2 (.inl ⟨h3,h4⟩))
   rw[coa L (by omega) x h1 h2,coa L (by omega) y h3 h4,coa o (by omega) x h1 h2,coa o (by omega) y h3 h4]at this
   exact this h5
  ·intro hd x hx y hy hne
   have bW:=fun v (hv:c.low≤v∧v≤c.high)=>V9 v hW.1
   rcases As.1 hx with oz|oz<;>rcases As.1 hy with qQ|qQ
   ·rw[coa L (by omega) x oz.1 oz.2,coa L (by omega) y qQ.1 qQ.2]at hne
    rw[coa o (by omega) x oz.1 oz.2,coa o (by omega) y qQ.1 qQ.2]
    exact hd x y oz.1 oz.2 qQ.1 qQ.2 hne
   ·have:=bW x oz
    rw[coa o (by omega) x oz.1 oz.2,N5 h (.inr qQ),if_neg (by omega),if_pos qQ.2]
    omega
   ·have:=bW y qQ
    rw[coa o (by omega) y qQ.1 qQ.2,N5 h (.inr oz),if_neg (by omega),if_pos oz.2]
    omega
   ·exfalso;apply hne;rw[oz.2,qQ.2]
def i9(f g:Int→Int)(x y:Int):Bool:=!(decide (f x≠f y) && decide (g x=g y))
def divB(f g:Int→Int)(l:List Int):Bool:=(List.range l.length).all fun i=>(List.range i).all fun k=>i9 f g (l.getD i 0) (l.getD k 0)
theorem TJ{f g:Int→Int}{l:List Int}:divB f g l=true↔Xn f g l:=by
 unfold divB Xn
 simp only[List.all_eq_true,List.mem_range]
 constructor
 ·intro h x hx y hy hne hg
  obtain⟨i,hi,rfl⟩:=List.getElem_of_mem hx
  obtain⟨k,hk,rfl⟩:=List.getElem_of_mem hy
  have g1:l.getD i 0=l[i]:=D7 (List.getElem?_eq_getElem hi)
  have g2:l.getD k 0=l[k]:=D7 (List.getElem?_eq_getElem hk)
  rcases Nat.lt_trichotomy i k with h1|h1|h1
  ·have:=h k hk i h1
   rw[g1,g2]at this
   simp[i9,Ne.symm hne,hg]at this
  ·subst h1;exact hne rfl
  ·have:=h i hi k h1
   rw[g1,g2]at this
   simp[i9,hne,hg]at this
 ·intro h i hi k hk
  have g1:l.getD i 0=l[i]:=D7 (List.getElem?_eq_getElem hi)
  have nH:k<l.length:=by omega
  have g2:l.getD k 0=l[k]:=D7 (List.getElem?_eq_getElem nH)
  rw[g1,g2]
  by_cases hne:f l[i]=f l[k]
  ·simp[i9,hne]
  ·have:=h _ (List.getElem_mem hi) _ (List.getElem_mem nH) hne
   simp[i9,this]
def EA(s:A4)(c:D4):List Int:=if c.kind=2 then (H1 (C2 s c).1 (C2 s c).2 (C5 (C2 s c).1 (C2 s c).2-1)).map fun n:Nat=>(n:Int)else TI c
structure TK(s:A4)(c:D4)(n:Nat):Prop where
 fin:M0 s c=n
 le:n≤4
 mono:∀o L:Nat,o≤L→L≤n→K4 s c o≤K4 s c L
 divs:∀o L:Nat,o≤L→L≤n→(Xn (P8 s c L) (P8 s c o) (EA s c)↔K4 s c o=K4 s c L)
def aN(cs:List Code):Bool:=(List.range (C5 G0 cs).toNat).all fun L=>(List.range (L+1)).all fun o=>decide ((H1 G0 cs o).length≤(H1 G0 cs L).length) && decide ((H1 G0 cs (C5 G0 cs-1)).all (fun x=>(H1 G0 cs (C5 G0 cs-1)).all fun y=>decide (L1 G0 cs x L=L1 G0 cs y L) || !(decide (L1 G0 cs x o=L1 G0 cs y o)))=decide ((H1 G0 cs o).length=(H1 G0 cs L).length))
theorem aO:NG.all aN=true:=by decide +kernel
theorem D9.blk{s:A4}(h:D9 s){i:Nat}{c:D4}(hi:0<i)(hc:s.cols[i]?=some c):∃n,TK s c n:=by
 rcases h.col hc with ⟨rfl,_⟩|⟨_,ph⟩|⟨_,nm,hm⟩
 ·omega
 ·obtain⟨hf,pX,mL⟩:=h.lst ph
  have hk:c.kind=2:=by rcases ph with rfl|rfl<;>rfl
  have pT:=Dt hf
  have oV:=Cm pX (C2 s c).2
  have ht:=List.all_eq_true.1 TF _ hf
  simp only[Oi,Bool.and_eq_true,decide_eq_true_eq,List.all_eq_true,List.mem_range]at ht
  have hb:=List.all_eq_true.1 aO _ hf
  simp only[aN,List.all_eq_true,List.mem_range,Bool.and_eq_true,decide_eq_true_eq]at hb
  obtain⟨n,hn⟩:=Int.eq_ofNat_of_zero_le (show 0≤C5 G0 (C2 s c).2-1 by have:=pT.lv;omega)
  have coa:∀j:Nat,j∈H1 G0 (C2 s c).2 n→∀lv:Int,P8 s c lv j=L1 G0 (C2 s c).2 j lv:=by
   intro j hj lv
   have h1:=pT.mem j (by rw[hn];exact hj)
   have h2:=(ht j (by rw[hn];exact hj)).1.1.1
   unfold P8
   rw[if_pos hk,TC pX,if_pos]
   unfold BD
   rw[if_neg (by omega),if_pos hk,h2]
   simp;omega
  have blk:∀lv:Int,K4 s c lv=(H1 G0 (C2 s c).2 lv).length:=by
   intro lv;unfold K4;rw[if_pos hk,Gk pX]
  refine⟨n,⟨?_,?_,?_,?_⟩⟩
  ·unfold M0;rw[if_pos hk,oV,hn]
  ·have:=pT.lv;omega
  ·intro o L h1 h2
   have:=(hb L (by omega) o (by omega)).1
   rw[blk,blk];omega
  ·intro o L h1 h2
   have:=(hb L (by omega) o (by omega)).2
   rw[blk,blk]
   have e:EA s c=(H1 G0 (C2 s c).2 n).map fun n:Nat=>(n:Int):=by unfold EA;rw[if_pos hk,oV,Gk pX,hn]
   rw[e]
   rw[hn]at this
   have e2:(((H1 G0 (C2 s c).2 o).length:Int)=((H1 G0 (C2 s c).2 L).length:Int))↔(H1 G0 (C2 s c).2 o).length=(H1 G0 (C2 s c).2 L).length:=by omega
   rw[e2,←decide_eq_true_iff (p:=(H1 G0 (C2 s c).2 o).length=(H1 G0 (C2 s c).2 L).length),←this]
   simp only[List.all_eq_true,Bool.or_eq_true,decide_eq_true_eq,Bool.not_eq_true',decide_eq_false_iff_not]
   constructor
   ·intro hd x hx y hy
    by_cases hxy:L1 G0 (C2 s c).2 x L=L1 G0 (C2 s c).2 y L
    ·exact .inl hxy
    ·have:=hd x (List.mem_map.2 ⟨x,hx,rfl⟩) y (List.mem_map.2 ⟨y,hy,rfl⟩)
     rw[coa x hx,coa y hy,coa x hx,coa y hy]at this
     exact .inr (this hxy)
   ·intro hd x hx y hy hne
    obtain⟨x',oz,rfl⟩:=List.mem_map.1 hx
    obtain⟨y',qQ,rfl⟩:=List.mem_map.1 hy
    rw[coa x' oz,coa y' qQ]at hne ⊢
    rcases hd x' oz y' qQ with h3|h3
    ·exact absurd h3 hne
    ·exact h3
 ·have hk:=hm.kind
  have e:EA s c=TI c:=by unfold EA;rw[if_neg (by omega)]
  refine⟨c.widths.length,⟨?_,(Oh hm).2.1,fun o L h1 h2=>aM hm h1 h2,fun o L h1 h2=>by rw[e];exact dJ hm h1 h2⟩⟩
  unfold M0;rw[if_neg (by omega)]
theorem Kq{s:A4}{c:D4}{n:Nat}(h:TK s c n):∀L:Nat,L≤n→b9 s c L≤L∧K4 s c (b9 s c L:Nat)=K4 s c L∧∀o:Nat,o<b9 s c L→K4 s c o≠K4 s c L
 |0,_=>⟨Nat.le_refl _,rfl,fun o ho=>absurd ho (Nat.not_lt_zero _)⟩
 |L+1,hL=>by
  unfold b9
  by_cases he:K4 s c L=K4 s c (L+1:Nat)
  ·rw[if_pos he]
   obtain⟨h1,h2,h3⟩:=Kq h L (by omega)
   exact⟨by omega,by rw[h2,he],fun o ho=>by rw[←he];exact h3 o ho⟩
  ·rw[if_neg he]
   refine⟨Nat.le_refl _,rfl,fun o ho heo=>?_⟩
   have h1:=h.mono o L (by omega) (by omega)
   have h2:=h.mono L (L+1) (by omega) hL
   omega
theorem TL{s:A4}{c:D4}{n:Nat}(h:TK s c n){L k:Nat}(hL:L≤n)(h1:∀o:Nat,o<k→K4 s c o≠K4 s c L)(h2:K4 s c k=K4 s c L):(k:Int)=b9 s c L:=by
 obtain⟨e1,e2,e3⟩:=Kq h L hL
 rcases Nat.lt_trichotomy k (b9 s c L)with h3|h3|h3
 ·exact absurd h2 (e3 k h3)
 ·rw[h3]
 ·exact absurd e2 (h1 _ h3)
end Go.Proofs.YtiphlhoclaogjaaGreatDoor
