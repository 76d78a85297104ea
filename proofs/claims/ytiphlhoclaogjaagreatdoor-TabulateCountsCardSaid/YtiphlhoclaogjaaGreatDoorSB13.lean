/- Chapter 2: values that a row can have, at all levels. Draws: values, rows and picks, and that they are right. Chapter 2: when a coarser level divides as a finer one does. Chapter 2: the least level of a column of a drawn schema. -/
import Derived.Test.YtiphlhoclaogjaaGreatDoorSB12
import Derived.Test.YtiphlhoclaogjaaGreatDoorSB8
import Derived.Test.YtiphlhoclaogjaaGreatDoorSSx
set_option linter.unusedVariables false
set_option linter.unnecessarySimpa false
set_option linter.unusedSimpArgs false
set_option maxHeartbeats 64000000
namespace Go.Proofs.YtiphlhoclaogjaaGreatDoor
open Go Go.Av
attribute [local irreducible] C7 B2 D3 C9 DQ D0 C8 St.le A3 B9
set_option maxRecDepth 100000
def Gu(ws:List Int)(lv:Nat):Int:=ws.getD (ws.length-lv) 0
def cu(ws:List Int):Bool:=decide (1≤ws.length) && decide (ws.length≤4) && decide (Gu ws ws.length=1) && ((List.range 5).all fun a=>(List.range (a+1)).all fun b=>decide (b=0) || decide (ws.length<a) || (decide (1≤Gu ws a∧Gu ws a≤20) && decide (1≤Gu ws b∧Gu ws b≤20) && decide (Gu ws b=Gu ws a*(Gu ws b / Gu ws a)∧1≤Gu ws b / Gu ws a)))
theorem TH:Ee.all cu=true:=by decide +kernel
theorem JV{c:D4}{lv:Nat}(h:lv≤c.widths.length):A7 c lv=Gu c.widths lv:=by
 unfold A7 Gu
 congr 1
 omega
theorem Ot{c:D4}{nm:List UInt8}(h:Q7 c nm):1≤c.widths.length∧c.widths.length≤4∧A7 c c.widths.length=1:=by
 have h1:=List.all_eq_true.1 TH _ h.wid
 simp only[cu,Bool.and_eq_true,decide_eq_true_eq]at h1
 rw[JV (Nat.le_refl _)]
 exact⟨h1.1.1.1,h1.1.1.2,h1.1.2⟩
theorem l5{c:D4}{nm:List UInt8}(h:Q7 c nm){a b:Nat}(hb:1≤b)(tY:b≤a)(ha:a≤c.widths.length):(1≤A7 c a∧A7 c a≤20)∧(1≤A7 c b∧A7 c b≤20)∧∃m,1≤m∧A7 c b=A7 c a*m:=by
 have h1:=List.all_eq_true.1 TH _ h.wid
 simp only[cu,Bool.and_eq_true,decide_eq_true_eq,List.all_eq_true,List.mem_range,Bool.or_eq_true]at h1
 have h2:=h1.2 a (by omega) b (by omega)
 rw[JV ha,JV (by omega)]
 rcases h2 with (h2|h2)|h2
 ·omega
 ·omega
 ·exact⟨h2.1.1,h2.1.2,_,h2.2.2,h2.2.1⟩
theorem X7(v:Int){w:Int}:C5 v w=w*(v / w):=by
 have:=Int.mul_ediv_add_emod v w
 unfold C5
 omega
theorem aM(v:Int):C5 v 1=v:=by unfold C5;omega
theorem TI(v:Int){w m:Int}(hw:1≤w)(hm:1≤m):C5 (C5 v w) (w*m)=C5 v (w*m):=by
 rw[X7,X7,X7]
 congr 1
 rw[Int.mul_ediv_mul_of_pos _ _ (by omega:(0:Int)<w),Int.ediv_ediv_of_nonneg (by omega)]
theorem Bc{x v w:Int}(hw:1≤w)(h1:C5 v w≤x)(h2:x<C5 v w+w):C5 x w=C5 v w:=by
 rw[X7]at h1 h2
 rw[X7,X7]
 congr 1
 have e:x=(x-w*(v / w))+w*(v / w):=by omega
 rw[e,Int.add_mul_ediv_left _ _ (by omega:w≠0),Int.ediv_eq_zero_of_lt (by omega) (by omega)]
 omega
theorem QL{x v w m:Int}(hw:1≤w)(hm:1≤m)(h1:C5 v w≤x)(h2:x<C5 v w+w):C5 x (w*m)=C5 v (w*m):=by
 rw[←TI x hw hm,Bc hw h1 h2,TI v hw hm]
def Bh(c:D4)(v:Int):Prop:=(c.low≤v∧v≤c.high)∨(c.opt=true∧v=(-1099511627776))
theorem N3{s:A4}{c:D4}{nm:List UInt8}(h:Q7 c nm){v:Int}(hv:Bh c v)(lv:Int):O9 s c lv v=if lv=0 then 0 else if v=(-1099511627776)then (-1099511627776)else C5 v (A7 c lv):=by
 have hk:=h.kind
 have h1:=h.low
 have h2:=h.high
 unfold O9
 rw[if_neg (by omega),if_neg]
 rcases hv with hv|hv<;>omega
theorem cw{s:A4}{c:D4}{nm:List UInt8}(h:Q7 c nm){v:Int}(hv:Bh c v){a b:Nat}(tY:b≤a)(ha:a≤c.widths.length):Ba c a (O9 s c a v) b=(O9 s c b v,true):=by
 have hl:=h.low
 have hh:=h.high
 rw[N3 h hv,N3 h hv]
 by_cases yL:a=0
 ·subst yL
  have nF:b=0:=by omega
  subst nF
  simp[Ba,M0]
 ·by_cases hm:v=(-1099511627776)
  ·have ho:c.opt=true:=by
    rcases hv with hv|hv
    ·omega
    ·exact hv.1
   rw[if_neg (by omega),if_pos hm]
   unfold Ba
   rw[if_pos ⟨by omega,rfl⟩,ho]
   by_cases nF:b=0
   ·subst nF;simp
   ·rw[if_neg (by omega),if_neg (by omega),if_pos hm]
  ·have mj:c.low≤v∧v≤c.high:=by
    rcases hv with hv|hv
    ·exact hv
    ·exact absurd hv.2 hm
   rw[if_neg (by omega),if_neg hm,if_neg hm]
   obtain⟨hw,_,_⟩:=l5 h (a:=a) (b:=a) (by omega) (Nat.le_refl _) ha
   have hd:=V3 v hw.1
   have pL:=Bc hw.1 (Int.le_refl _) (show C5 v (A7 c a)<C5 v (A7 c a)+A7 c a by omega)
   have sU:M0 c a (C5 v (A7 c a))=(max (C5 v (A7 c a)) c.low,min (C5 v (A7 c a)+A7 c a-1) c.high,true):=by
    unfold M0
    rw[if_neg (by omega),if_neg (by omega),pL]
    have:max (C5 v (A7 c a)) c.low≤min (C5 v (A7 c a)+A7 c a-1) c.high:=by omega
    simp[this]
   unfold Ba
   rw[if_neg (by omega),sU]
   simp only[Bool.true_eq_false,if_false]
   by_cases nF:b=0
   ·subst nF;simp
   ·rw[if_neg (by omega),if_neg (by omega),if_neg (by omega)]
    obtain⟨_,_,m,hm1,pP⟩:=l5 h (a:=a) (b:=b) (by omega) tY ha
    have e1:=QL (x:=max (C5 v (A7 c a)) c.low) (v:=v) hw.1 hm1 (by omega) (by omega)
    have e2:=QL (x:=min (C5 v (A7 c a)+A7 c a-1) c.high) (v:=v) hw.1 hm1 (by omega) (by omega)
    rw[pP,e1,e2]
    simp
theorem cy{s:A4}{c:D4}{nm:List UInt8}(h:Q7 c nm){v:Int}(hv:Bh c v):O9 s c c.widths.length v=v:=by
 obtain⟨h1,h2,h3⟩:=Ot h
 rw[N3 h hv,if_neg (by omega),h3,aM]
 split
 ·rename_i e;exact e.symm
 ·rfl
def Ou(cs:List Code):Bool:=(K3 G0 cs (C4 G0 cs-1)).all fun v=>W5 cs v && decide (L2 G0 cs v (C4 G0 cs-1)=v) && decide (L2 G0 cs v 0=0) && ((List.range (C4 G0 cs).toNat).all fun a=>(List.range (a+1)).all fun b=>decide (Dv G0 cs a (L2 G0 cs v a) b=(L2 G0 cs v b,true)))
theorem TJ:NS.all Ou=true:=by decide +kernel
theorem TK{a b:List UInt8}(h:D6 a=D6 b)(cs:List Code)(fr v to:Int):∀(l:List Nat) (out:Int) (sm:Bool),AG a cs fr v to l out sm=AG b cs fr v to l out sm
 |[],out,sm=>rfl
 |x::r,out,sm=>by simp only[AG,TG h,TK h cs fr v to r]
theorem cz{a b:List UInt8}(h:D6 a=D6 b)(cs:List Code)(fr v to:Int):Dv a cs fr v to=Dv b cs fr v to:=by
 unfold Dv
 rw[Gt h,DC h,TK h]
theorem E7.lst{s:A4}(h:E7 s){c:D4}(hc:c=JU∨c=TD):(C2 s c).2∈NS∧D6 (C2 s c).1=D6 G0∧(C2 s c).2.length≤10:=by
 obtain⟨l1,l2,m1,m2,e⟩:=h.ls
 rcases hc with rfl|rfl
 ·have:C2 s JU=(G0,l1):=by unfold C2;rw[e];rfl
  rw[this];exact⟨m1,rfl,(EF m1).len⟩
 ·have:C2 s TD=(EK,l2):=by unfold C2;rw[e];rfl
  rw[this];exact⟨m2,jM,(EF m2).len⟩
def o4(s:A4)(c:D4)(v:Int):Prop:=(c.kind=1∧1≤v∧v≤60)∨(c.kind=2∧∃n:Nat,v=n∧n∈K3 (C2 s c).1 (C2 s c).2 (C4 (C2 s c).1 (C2 s c).2-1))∨(c.kind=3∧Bh c v)
structure dA(s:A4)(c:D4)(n:Nat):Prop where
 fin:M7 s c=n
 le:n≤4
 top:∀v,o4 s c v→O9 s c n v=v
 zero:∀v,o4 s c v→O9 s c 0 v=0
 turn:∀v,o4 s c v→∀a b:Nat,b≤a→a≤n→(if c.kind=2 then Dv (C2 s c).1 (C2 s c).2 a (O9 s c a v) b else Ba c a (O9 s c a v) b)=(O9 s c b v,true)
theorem E7.facts{s:A4}(h:E7 s){i:Nat}{c:D4}(hi:0<i)(hc:s.cols[i]?=some c):∃n,dA s c n:=by
 rcases h.col hc with ⟨rfl,_⟩|⟨_,pj⟩|⟨_,nm,hm⟩
 ·omega
 ·obtain⟨hf,oV,lX⟩:=h.lst pj
  have hk:c.kind=2:=by rcases pj with rfl|rfl<;>rfl
  have qQ:=EF hf
  have nz:=DC oV (C2 s c).2
  have ht:=List.all_eq_true.1 TJ _ hf
  simp only[Ou,Bool.and_eq_true,decide_eq_true_eq,List.all_eq_true,List.mem_range]at ht
  obtain⟨n,hn⟩:=Int.eq_ofNat_of_zero_le (show 0≤C4 G0 (C2 s c).2-1 by have:=qQ.lv;omega)
  have ok:∀v,o4 s c v→∃j:Nat,v=j∧j∈K3 G0 (C2 s c).2 n:=by
   rintro v (⟨h1,_⟩|⟨_,j,h1,h2⟩|⟨h1,_⟩)
   ·omega
   ·exact⟨j,h1,by rw[←hn,←nz,←Gt oV];exact h2⟩
   ·omega
  have coa:∀j:Nat,j∈K3 G0 (C2 s c).2 n→∀lv:Int,O9 s c lv j=L2 G0 (C2 s c).2 j lv:=by
   intro j hj lv
   have h1:=qQ.mem j (by rw[hn];exact hj)
   have h2:=(ht j (by rw[hn];exact hj)).1.1.1
   unfold O9
   rw[if_pos hk,TG oV,if_pos]
   unfold BX
   rw[if_neg (by omega),if_pos hk,h2]
   simp;omega
  refine⟨n,⟨?_,?_,?_,?_,?_⟩⟩
  ·unfold M7;rw[if_pos hk,nz,hn]
  ·have:=qQ.lv;omega
  ·intro v hv
   obtain⟨j,rfl,hj⟩:=ok v hv
   rw[coa j hj,←hn]
   exact(ht j (by rw[hn];exact hj)).1.1.2
  ·intro v hv
   obtain⟨j,rfl,hj⟩:=ok v hv
   rw[coa j hj]
   exact(ht j (by rw[hn];exact hj)).1.2
  ·intro v hv a b tY ha
   obtain⟨j,rfl,hj⟩:=ok v hv
   rw[if_pos hk,coa j hj,coa j hj,cz oV]
   exact(ht j (by rw[hn];exact hj)).2 a (by omega) b (by omega)
 ·have hk:=hm.kind
  have ok:∀v,o4 s c v→Bh c v:=by
   rintro v (⟨h1,_⟩|⟨h1,_⟩|⟨_,h1⟩)
   ·omega
   ·omega
   ·exact h1
  refine⟨c.widths.length,⟨?_,(Ot hm).2.1,?_,?_,?_⟩⟩
  ·unfold M7;rw[if_neg (by omega)]
  ·intro v hv;exact cy hm (ok v hv)
  ·intro v hv;rw[N3 hm (ok v hv),if_pos rfl]
  ·intro v hv a b tY ha
   rw[if_neg (by omega)]
   exact cw hm (ok v hv) tY ha
theorem E7.chain{s:A4}(h:E7 s){i:Nat}{c:D4}(hi:0<i)(hc:s.cols[i]?=some c):∃n:Nat,B7 s i=n∧n≤4∧∀v,o4 s c v→G2 s i n v=v∧G2 s i 0 v=0∧∀a b:Nat,b≤a→a≤n→NY s i a (G2 s i a v) b=(G2 s i b v,true):=by
 obtain⟨n,hf⟩:=h.facts hi hc
 have lY:=F5 hc
 have lm:C0 s i=c:=C1 (by simpa using hc)
 have so:E5 s i=n:=by unfold E5;rw[if_neg (by omega),lm];exact hf.fin
 have sw:B7 s i=n:=by unfold B7;rw[if_pos h.ok];exact so
 have coa:∀(lv:Nat) v,lv≤n→G2 s i lv v=O9 s c lv v:=by
  intro lv v nz
  unfold G2
  rw[sw,if_neg (by omega),lm]
 refine⟨n,sw,hf.le,fun v hv=>⟨?_,?_,?_⟩⟩
 ·rw[coa n v (Nat.le_refl _)];exact hf.top v hv
 ·have:=coa 0 v (Nat.zero_le _)
  rw[show ((0:Nat):Int)=0 from rfl]at this
  rw[this];exact hf.zero v hv
 ·intro a b tY ha
  have ht:=hf.turn v hv a b tY ha
  rw[coa a v ha,coa b v (by omega)]
  unfold NY T8
  rw[if_pos h.ok,so,if_neg (by omega),lm,ht]
  simp
def w7(l:List UInt8)(a:Nat)(s:A4)(k:Int):Int×Nat :=
 let c:=C0 s k
 if c.kind=1 then (1+((B8 l a 60).1:Int),(B8 l a 60).2)
 else if c.kind=2 then ((((F9 s k).getD (B8 l a (F9 s k).length).1 0:Nat):Int),(B8 l a (F9 s k).length).2)
 else if c.opt=true then
  (if ((B8 l a 4).1:Int)=3 then ((-1099511627776),(B8 l a 4).2)else (c.low+((B8 l (B8 l a 4).2 (c.high-c.low+1)).1:Int),(B8 l (B8 l a 4).2 (c.high-c.low+1)).2))
 else (c.low+((B8 l a (c.high-c.low+1)).1:Int),(B8 l a (c.high-c.low+1)).2)
def rowFrom(l:List UInt8)(s:A4):Nat→List Int×Nat→Nat→List Int×Nat
 |_,x,0=>x
 |k,x,n+1=>rowFrom l s (k+1) (x.1++[(w7 l x.2 s k).1],(w7 l x.2 s k).2) n
def k5(l:List UInt8)(a:Nat)(s:A4):List Int×Nat:=rowFrom l s 0 ([],a) s.cols.length
theorem E7.lvs{s:A4}(h:E7 s){i:Nat}{c:D4}(hc:s.cols[i]?=some c)(hk:c.kind=2):(0≤c.lst∧c.lst<s.lists.length)∧F9 s i=K3 (C2 s c).1 (C2 s c).2 (C4 (C2 s c).1 (C2 s c).2-1)∧1≤(F9 s i).length∧(F9 s i).length≤10:=by
 have lm:C0 s i=c:=C1 (by simpa using hc)
 have e:F9 s i=K3 (C2 s c).1 (C2 s c).2 (C4 (C2 s c).1 (C2 s c).2-1):=by unfold F9;rw[lm]
 rcases h.col hc with ⟨_,rfl⟩|⟨_,pj⟩|⟨_,nm,hm⟩
 ·cases hk
 ·obtain⟨hf,oV,lX⟩:=h.lst pj
  have qQ:=(EF hf).at'
  refine⟨?_,e,?_⟩
  ·rw[h.lens.1];rcases pj with rfl|rfl<;>decide
  ·rw[e,DC oV,Gt oV];exact qQ
 ·have:=hm.kind;omega
theorem WI{s:A4}(h:E7 s)(l:List UInt8)(a:Nat){i:Nat}{c:D4}(hc:s.cols[i]?=some c):o4 s c (w7 l a s i).1:=by
 have lm:C0 s i=c:=C1 (by simpa using hc)
 unfold w7
 rw[lm]
 rcases h.col hc with ⟨_,rfl⟩|⟨_,pj⟩|⟨_,nm,hm⟩
 ·have:=H1 l a (n:=60) (by omega)
  exact .inl ⟨rfl,by simp only[TC,if_true];omega⟩
 ·have hk:c.kind=2:=by rcases pj with rfl|rfl<;>rfl
  obtain⟨_,h1,h2,h3⟩:=h.lvs hc hk
  have hn:=H1 l a (n:=(F9 s i).length) (by omega)
  dsimp only
  rw[if_neg (by omega),if_pos hk]
  have lY:(B8 l a (F9 s i).length).1<(F9 s i).length:=by omega
  refine .inr (.inl ⟨hk,_,rfl,?_⟩)
  rw[←h1,E4 (List.getElem?_eq_getElem lY)]
  exact List.getElem_mem lY
 ·have hk:=hm.kind
  have hh:=hm.high
  have n1:=H1 l a (n:=c.high-c.low+1) (by omega)
  have n2:=H1 l (B8 l a 4).2 (n:=c.high-c.low+1) (by omega)
  dsimp only
  rw[if_neg (by omega),if_neg (by omega)]
  refine .inr (.inr ⟨hk,?_⟩)
  split
  ·split
   ·exact .inr ⟨by assumption,rfl⟩
   ·exact .inl ⟨by dsimp only;omega,by dsimp only;omega⟩
  ·exact .inl ⟨by dsimp only;omega,by dsimp only;omega⟩
theorem TL(x:Int){w:Int}(hw:1≤w):(x+1) / w=x / w+(if (x+1) % w=0 then 1 else 0):=by
 have h1:=Int.mul_ediv_add_emod x w
 have h2:=Int.emod_nonneg x (b:=w) (by omega)
 have h3:=Int.emod_lt_of_pos x (b:=w) (by omega)
 by_cases h:x % w+1=w
 ·have e:x+1=w*(x / w+1):=by rw[Int.mul_add,Int.mul_one];omega
  have e2:(x+1) % w=0:=by rw[e];exact Int.mul_emod_right w _
  have e3:(x+1) / w=x / w+1:=by rw[e];exact Int.mul_ediv_cancel_left _ (by omega)
  rw[if_pos e2,e3]
 ·have e:x+1=(x % w+1)+w*(x / w):=by omega
  have e3:(x+1) / w=x / w:=by
   rw[e,Int.add_mul_ediv_left _ _ (by omega:w≠0),Int.ediv_eq_zero_of_lt (by omega) (by omega)]
   omega
  have e2:(x+1) % w=x % w+1:=by
   have:=Int.mul_ediv_add_emod (x+1) w
   rw[e3]at this
   omega
  rw[if_neg (by omega),e3]
  omega
def Gv(low high w W:Int):Prop:=∀t,low<t→t≤high→t % w=0→t % W=0
theorem Xo{t w m:Int}(h:t % (w*m)=0):t % w=0:=by
 have:=Int.dvd_of_emod_eq_zero h
 exact Int.emod_eq_zero_of_dvd (Int.dvd_trans (Int.dvd_mul_right w m) this)
theorem cnt{w m:Int}(hw:1≤w)(hm:1≤m)(low:Int):∀j:Nat,(low+j) / (w*m)-low / (w*m)≤(low+j) / w-low / w∧((low+j) / (w*m)-low / (w*m)=(low+j) / w-low / w↔Gv low (low+j) w (w*m))
 |0=>⟨by simp,by
   constructor
   ·intro _ t h1 h2;omega
   ·intro _;simp⟩
 |j+1=>by
  obtain⟨h1,h2⟩:=cnt hw hm low j
  have hW:1≤w*m:=by
   have:=Int.mul_le_mul hw hm (by omega) (by omega)
   simpa using this
  have e:low+((j+1:Nat):Int)=(low+j)+1:=by omega
  rw[e,TL _ hw,TL _ hW]
  have ext:Gv low (low+j+1) w (w*m)↔Gv low (low+j) w (w*m)∧((low+j+1) % w=0→(low+j+1) % (w*m)=0):=by
   constructor
   ·intro h
    exact⟨fun t h3 h4=>h t h3 (by omega),fun h3=>h _ (by omega) (by omega) h3⟩
   ·rintro ⟨h3,h4⟩ t h5 h6 h7
    by_cases h8:t=low+j+1
    ·subst h8;exact h4 h7
    ·exact h3 t h5 (by omega) h7
  rw[ext,←h2]
  by_cases ha:(low+j+1) % w=0
  ·by_cases hb:(low+j+1) % (w*m)=0
   ·rw[if_pos ha,if_pos hb]
    exact⟨by omega,by constructor<;>(intro h;first|exact⟨by omega,fun _=>hb⟩|(have:=h.1;omega))⟩
   ·rw[if_pos ha,if_neg hb]
    exact⟨by omega,by constructor<;>(intro h;first|(exfalso;omega)|exact absurd (h.2 ha) hb)⟩
  ·have hb:¬(low+j+1) % (w*m)=0:=fun h=>ha (Xo h)
   rw[if_neg ha,if_neg hb]
   exact⟨by omega,by constructor<;>(intro h;first|exact⟨by omega,fun h=>absurd h ha⟩|(have:=h.1;omega))⟩
theorem Ov{w m low high:Int}(hw:1≤w)(hm:1≤m)(h:low≤high):high / (w*m)-low / (w*m)≤high / w-low / w∧(high / (w*m)-low / (w*m)=high / w-low / w↔Gv low high w (w*m)):=by
 obtain⟨j,hj⟩:=Int.eq_ofNat_of_zero_le (show 0≤high-low by omega)
 have:=cnt hw hm low j
 rwa[show low+(j:Int)=high by omega]at this
def DD(low high w W:Int):Bool:=decide (high<(low / w+1)*w) || (decide (((low / w+1)*w).tmod W=0) && (decide (high<(low / w+1)*w+w) || decide (((low / w+1)*w+w).tmod W=0)))
theorem gK{t W:Int}:t.tmod W=0↔t % W=0:=by
 constructor
 ·intro h;exact Int.emod_eq_zero_of_dvd (Int.dvd_of_tmod_eq_zero h)
 ·intro h;exact Int.tmod_eq_zero_of_dvd (Int.dvd_of_emod_eq_zero h)
theorem dB{w m low high:Int}(hw:1≤w)(hm:1≤m):DD low high w (w*m)=true↔Gv low high w (w*m):=by
 have hd:=Int.mul_ediv_add_emod low w
 have qR:=Int.emod_nonneg low (b:=w) (by omega)
 have tB:=Int.emod_lt_of_pos low (b:=w) (by omega)
 have ef:(low / w+1)*w=w*(low / w)+w:=by rw[Int.add_mul,Int.mul_comm];omega
 have fm:((low / w+1)*w) % w=0:=by rw[Int.mul_comm];exact Int.mul_emod_right w _
 have gm:((low / w+1)*w+w) % w=0:=by
  rw[show (low / w+1)*w+w=w*(low / w+1+1) by rw[Int.mul_add,Int.mul_comm w (low / w+1)];omega]
  exact Int.mul_emod_right w _
 have zH:∀t,low<t→t % w=0→t=(low / w+1)*w∨(low / w+1)*w+w≤t:=by
  intro t h1 h2
  obtain⟨q,rfl⟩:=Int.dvd_of_emod_eq_zero h2
  have h3:low / w<q:=by
   rcases Int.lt_or_le (low / w) q with h|h
   ·exact h
   ·have:=Int.mul_le_mul_of_nonneg_left h (show 0≤w by omega);omega
  by_cases h4:q=low / w+1
  ·left;rw[h4,Int.mul_comm]
  ·right
   have:=Int.mul_le_mul_of_nonneg_left (show low / w+1+1≤q by omega) (show 0≤w by omega)
   rw[Int.mul_add,Int.mul_add]at this
   omega
 unfold DD
 simp only[Bool.or_eq_true,Bool.and_eq_true,decide_eq_true_eq,gK]
 constructor
 ·intro h t h1 h2 h3
  rcases h with h|⟨h,h4⟩
  ·rcases zH t h1 h3 with h5|h5<;>omega
  ·rcases zH t h1 h3 with h5|h5
   ·rw[h5];exact h
   ·rcases h4 with h4|h4
    ·omega
    ·have d1:=Int.dvd_of_emod_eq_zero h
     have d2:=Int.dvd_of_emod_eq_zero h4
     have d3:w*m ∣ w:=by
      have:=Int.dvd_sub d2 d1
      rwa[show (low / w+1)*w+w-(low / w+1)*w=w by omega]at this
     exact Int.emod_eq_zero_of_dvd (Int.dvd_trans d3 (Int.dvd_of_emod_eq_zero h3))
 ·intro h
  by_cases h1:high<(low / w+1)*w
  ·exact .inl h1
  ·refine .inr ⟨h _ (by omega) (by omega) fm,?_⟩
   by_cases h2:high<(low / w+1)*w+w
   ·exact .inl h2
   ·exact .inr (h _ (by omega) (by omega) gm)
def Xp(f g:Int→Int)(l:List Int):Prop:=∀x∈l,∀y∈l,f x≠f y→g x≠g y
theorem dC{w m low high:Int}(hw:1≤w)(hm:1≤m)(qH:low≤high):(∀x y,low≤x→x≤high→low≤y→y≤high→C5 x w≠C5 y w→C5 x (w*m)≠C5 y (w*m))↔Gv low high w (w*m):=by
 have hW:1≤w*m:=by
  have:=Int.mul_le_mul hw hm (by omega) (by omega)
  simpa using this
 constructor
 ·intro h t h1 h2 h3
  refine Classical.byContradiction fun h4=>?_
  have e1:C5 t w=t:=by unfold C5;omega
  have b1:=V3 (t-1) hw
  have b2:=V3 t hW
  have e2:C5 t (w*m)≤t-1:=by
   have:=Int.emod_nonneg t (b:=w*m) (by omega)
   unfold C5;omega
  have e3:C5 (t-1) (w*m)=C5 t (w*m):=Bc hW e2 (by omega)
  exact h t (t-1) (by omega) h2 (by omega) (by omega) (by omega) e3.symm
 ·intro h
  have key:∀x y,low≤x→y≤high→x<y→C5 x w≠C5 y w→C5 x (w*m)≠C5 y (w*m):=by
   intro x y h1 h2 h3 h4
   have b1:=V3 y hw
   have b3:=V3 x hW
   have hx:x<C5 y w:=by
    rcases Int.lt_or_le x (C5 y w)with h5|h5
    ·exact h5
    ·exact absurd (Bc hw h5 (by omega)) h4
   have h6:C5 y w % w=0:=by rw[X7];exact Int.mul_emod_right w _
   have h7:=h (C5 y w) (by omega) (by omega) h6
   have h8:C5 (C5 y w) (w*m)=C5 y w:=by unfold C5 at h7 ⊢;omega
   have h9:=NW hW b1.2
   omega
  intro x y h1 h2 h3 h4 h5 h6
  rcases Int.lt_trichotomy x y with h7|h7|h7
  ·exact key x y h1 h4 h7 h5 h6
  ·exact h5 (by rw[h7])
  ·exact key y x h3 h2 h7 (Ne.symm h5) h6.symm
theorem AK{s:A4}{c:D4}{nm:List UInt8}(h:Q7 c nm){L:Nat}(h1:1≤L)(h2:L≤c.widths.length):K4 s c L=c.high / A7 c L-c.low / A7 c L+1+(if c.opt=true then 1 else 0):=by
 obtain⟨hw,_,_⟩:=l5 h (a:=L) (b:=L) h1 (Nat.le_refl _) h2
 have hk:=h.kind
 unfold K4
 rw[if_neg (by omega),if_neg (by omega),X7,X7,←Int.mul_sub,Int.mul_ediv_cancel_left _ (by omega)]
theorem Fu{s:A4}{c:D4}{nm:List UInt8}(h:Q7 c nm):K4 s c 0=1:=by
 have hk:=h.kind
 unfold K4
 rw[if_neg (by omega),if_pos rfl]
theorem JW{a b w:Int}(hw:1≤w)(h:a≤b):a / w≤b / w:=Int.ediv_le_ediv (by omega) h
theorem aN{s:A4}{c:D4}{nm:List UInt8}(h:Q7 c nm){o L:Nat}(ho:o≤L)(hL:L≤c.widths.length):K4 s c o≤K4 s c L:=by
 have hh:=h.high
 by_cases h0:o=0
 ·subst h0
  rw[show ((0:Nat):Int)=0 from rfl,Fu h]
  by_cases hL0:L=0
  ·subst hL0;rw[show ((0:Nat):Int)=0 from rfl,Fu h];omega
  ·obtain⟨hw,_,_⟩:=l5 h (a:=L) (b:=L) (by omega) (Nat.le_refl _) hL
   rw[AK h (by omega) hL]
   have:=JW hw.1 hh.1
   split<;>omega
 ·obtain⟨hw,_,m,hm,e⟩:=l5 h (a:=L) (b:=o) (by omega) ho hL
  rw[AK h (by omega) hL,AK h (by omega) (by omega),e]
  have:=(Ov hw.1 hm hh.1).1
  omega
def TM(c:D4):List Int:=(List.range (c.high-c.low+1).toNat).map (fun i:Nat=>c.low+(i:Int))++(if c.opt=true then [(-1099511627776)]else [])
theorem BK{c:D4}{v:Int}:v∈TM c↔Bh c v:=by
 unfold TM Bh
 rw[List.mem_append,List.mem_map]
 constructor
 ·rintro (⟨i,hi,rfl⟩|h)
  ·rw[List.mem_range]at hi;left;omega
  ·split at h
   ·rename_i ho;simp at h;exact .inr ⟨ho,h⟩
   ·cases h
 ·rintro (h|⟨h1,h2⟩)
  ·exact .inl ⟨(v-c.low).toNat,by rw[List.mem_range];omega,by omega⟩
  ·right;rw[if_pos h1,h2];simp
theorem dD{s:A4}{c:D4}{nm:List UInt8}(h:Q7 c nm){o L:Nat}(ho:o≤L)(hL:L≤c.widths.length):Xp (O9 s c L) (O9 s c o) (TM c)↔K4 s c o=K4 s c L:=by
 have hl:=h.low
 have hh:=h.high
 have qH:Bh c c.low:=.inl (by omega)
 have pg:Bh c c.high:=.inl (by omega)
 by_cases hoL:o=L
 ·subst hoL
  exact⟨fun _=>rfl,fun _ x _ y _ h=>h⟩
 obtain⟨hw,_,_⟩:=l5 h (a:=L) (b:=L) (by omega) (Nat.le_refl _) hL
 have qY:=fun v (hv:c.low≤v∧v≤c.high)=>V3 v hw.1
 by_cases h0:o=0
 ·subst h0
  rw[AK h (by omega) hL,show ((0:Nat):Int)=0 from rfl,Fu h]
  have oa:=JW hw.1 hh.1
  constructor
  ·intro hd
   have z:∀x y,Bh c x→Bh c y→O9 s c L x=O9 s c L y:=by
    intro x y hx hy
    refine Classical.byContradiction fun hne=>hd x (BK.2 hx) y (BK.2 hy) hne ?_
    rw[N3 h hx,N3 h hy,if_pos rfl,if_pos rfl]
   have ln:¬c.opt=true:=by
    intro qk
    have:=z c.low ((-1099511627776)) qH (.inr ⟨qk,rfl⟩)
    rw[N3 h qH,N3 h (.inr ⟨qk,rfl⟩),if_neg (by omega),if_neg (by omega),if_neg (by omega),if_pos rfl]at this
    have:=qY c.low (by omega)
    omega
   have:=z c.low c.high qH pg
   rw[N3 h qH,N3 h pg,if_neg (by omega),if_neg (by omega),if_neg (by omega),if_neg (by omega),X7,X7]at this
   have e:c.low / A7 c L=c.high / A7 c L:=Int.eq_of_mul_eq_mul_left (show A7 c L≠0 by omega) this
   rw[if_neg ln,e];omega
  ·intro he x hx y hy hne
   exfalso
   apply hne
   have ln:¬c.opt=true:=by
    intro qk;rw[if_pos qk]at he;omega
   rw[if_neg ln]at he
   have e:c.low / A7 c L=c.high / A7 c L:=by omega
   have z:∀x,Bh c x→O9 s c L x=A7 c L*(c.low / A7 c L):=by
    intro x hx
    have oE:c.low≤x∧x≤c.high:=by
     rcases hx with hx|hx
     ·exact hx
     ·exact absurd hx.1 ln
    rw[N3 h hx,if_neg (by omega),if_neg (by omega),X7]
    have h1:=JW hw.1 oE.1
    have h2:=JW hw.1 oE.2
    congr 1
    omega
   rw[z x (BK.1 hx),z y (BK.1 hy)]
 ·obtain⟨_,hW,m,hm,e⟩:=l5 h (a:=L) (b:=o) (by omega) ho hL
  rw[AK h (by omega) hL,AK h (by omega) (by omega)]
  have hc:=(Ov hw.1 hm hh.1).2
  have vo:=dC hw.1 hm hh.1
  rw[←e]at hc vo
  have e1:(c.high / A7 c o-c.low / A7 c o+1+(if c.opt=true then 1 else 0)=c.high / A7 c L-c.low / A7 c L+1+(if c.opt=true then 1 else 0))↔(c.high / A7 c o-c.low / A7 c o=c.high / A7 c L-c.low / A7 c L):=by
   constructor<;>intro h<;>omega
  rw[e1,hc,←vo]
  have coa:∀lv:Nat,1≤lv→∀x,c.low≤x→x≤c.high→O9 s c lv x=C5 x (A7 c lv):=by
   intro lv nz x h1 h2
   rw[N3 h (.inl ⟨h1,h2⟩),if_neg (by omega),if_neg (by omega)]
  constructor
  ·intro hd x y h1 h2 h3 h4 h5
   have:=hd x (BK.2 (.inl ⟨h1,h2⟩)) y (BK.2 (.inl ⟨h3,h4⟩))
   rw[coa L (by omega) x h1 h2,coa L (by omega) y h3 h4,coa o (by omega) x h1 h2,coa o (by omega) y h3 h4]at this
   exact this h5
  ·intro hd x hx y hy hne
   have bW:=fun v (hv:c.low≤v∧v≤c.high)=>V3 v hW.1
   rcases BK.1 hx with oE|oE<;>rcases BK.1 hy with pN|pN
   ·rw[coa L (by omega) x oE.1 oE.2,coa L (by omega) y pN.1 pN.2]at hne
    rw[coa o (by omega) x oE.1 oE.2,coa o (by omega) y pN.1 pN.2]
    exact hd x y oE.1 oE.2 pN.1 pN.2 hne
   ·have:=bW x oE
    rw[coa o (by omega) x oE.1 oE.2,N3 h (.inr pN),if_neg (by omega),if_pos pN.2]
    omega
   ·have:=bW y pN
    rw[coa o (by omega) y pN.1 pN.2,N3 h (.inr oE),if_neg (by omega),if_pos oE.2]
    omega
   ·exfalso;apply hne;rw[oE.2,pN.2]
def c8(f g:Int→Int)(x y:Int):Bool:=!(decide (f x≠f y) && decide (g x=g y))
def divB(f g:Int→Int)(l:List Int):Bool:=(List.range l.length).all fun i=>(List.range i).all fun k=>c8 f g (l.getD i 0) (l.getD k 0)
theorem TN{f g:Int→Int}{l:List Int}:divB f g l=true↔Xp f g l:=by
 unfold divB Xp
 simp only[List.all_eq_true,List.mem_range]
 constructor
 ·intro h x hx y hy hne hg
  obtain⟨i,hi,rfl⟩:=List.getElem_of_mem hx
  obtain⟨k,hk,rfl⟩:=List.getElem_of_mem hy
  have g1:l.getD i 0=l[i]:=E4 (List.getElem?_eq_getElem hi)
  have g2:l.getD k 0=l[k]:=E4 (List.getElem?_eq_getElem hk)
  rcases Nat.lt_trichotomy i k with h1|h1|h1
  ·have:=h k hk i h1
   rw[g1,g2]at this
   simp[c8,Ne.symm hne,hg]at this
  ·subst h1;exact hne rfl
  ·have:=h i hi k h1
   rw[g1,g2]at this
   simp[c8,hne,hg]at this
 ·intro h i hi k hk
  have g1:l.getD i 0=l[i]:=E4 (List.getElem?_eq_getElem hi)
  have mQ:k<l.length:=by omega
  have g2:l.getD k 0=l[k]:=E4 (List.getElem?_eq_getElem mQ)
  rw[g1,g2]
  by_cases hne:f l[i]=f l[k]
  ·simp[c8,hne]
  ·have:=h _ (List.getElem_mem hi) _ (List.getElem_mem mQ) hne
   simp[c8,this]
def EL(s:A4)(c:D4):List Int:=if c.kind=2 then (K3 (C2 s c).1 (C2 s c).2 (C4 (C2 s c).1 (C2 s c).2-1)).map fun n:Nat=>(n:Int)else TM c
structure TO(s:A4)(c:D4)(n:Nat):Prop where
 fin:M7 s c=n
 le:n≤4
 mono:∀o L:Nat,o≤L→L≤n→K4 s c o≤K4 s c L
 divs:∀o L:Nat,o≤L→L≤n→(Xp (O9 s c L) (O9 s c o) (EL s c)↔K4 s c o=K4 s c L)
def aO(cs:List Code):Bool:=(List.range (C4 G0 cs).toNat).all fun L=>(List.range (L+1)).all fun o=>decide ((K3 G0 cs o).length≤(K3 G0 cs L).length) && decide ((K3 G0 cs (C4 G0 cs-1)).all (fun x=>(K3 G0 cs (C4 G0 cs-1)).all fun y=>decide (L2 G0 cs x L=L2 G0 cs y L) || !(decide (L2 G0 cs x o=L2 G0 cs y o)))=decide ((K3 G0 cs o).length=(K3 G0 cs L).length))
theorem aP:NS.all aO=true:=by decide +kernel
theorem E7.blk{s:A4}(h:E7 s){i:Nat}{c:D4}(hi:0<i)(hc:s.cols[i]?=some c):∃n,TO s c n:=by
 rcases h.col hc with ⟨rfl,_⟩|⟨_,pj⟩|⟨_,nm,hm⟩
 ·omega
 ·obtain⟨hf,oV,lX⟩:=h.lst pj
  have hk:c.kind=2:=by rcases pj with rfl|rfl<;>rfl
  have qQ:=EF hf
  have nz:=DC oV (C2 s c).2
  have ht:=List.all_eq_true.1 TJ _ hf
  simp only[Ou,Bool.and_eq_true,decide_eq_true_eq,List.all_eq_true,List.mem_range]at ht
  have hb:=List.all_eq_true.1 aP _ hf
  simp only[aO,List.all_eq_true,List.mem_range,Bool.and_eq_true,decide_eq_true_eq]at hb
  obtain⟨n,hn⟩:=Int.eq_ofNat_of_zero_le (show 0≤C4 G0 (C2 s c).2-1 by have:=qQ.lv;omega)
  have coa:∀j:Nat,j∈K3 G0 (C2 s c).2 n→∀lv:Int,O9 s c lv j=L2 G0 (C2 s c).2 j lv:=by
   intro j hj lv
   have h1:=qQ.mem j (by rw[hn];exact hj)
   have h2:=(ht j (by rw[hn];exact hj)).1.1.1
   unfold O9
   rw[if_pos hk,TG oV,if_pos]
   unfold BX
   rw[if_neg (by omega),if_pos hk,h2]
   simp;omega
  have blk:∀lv:Int,K4 s c lv=(K3 G0 (C2 s c).2 lv).length:=by
   intro lv;unfold K4;rw[if_pos hk,Gt oV]
  refine⟨n,⟨?_,?_,?_,?_⟩⟩
  ·unfold M7;rw[if_pos hk,nz,hn]
  ·have:=qQ.lv;omega
  ·intro o L h1 h2
   have:=(hb L (by omega) o (by omega)).1
   rw[blk,blk];omega
  ·intro o L h1 h2
   have:=(hb L (by omega) o (by omega)).2
   rw[blk,blk]
   have e:EL s c=(K3 G0 (C2 s c).2 n).map fun n:Nat=>(n:Int):=by unfold EL;rw[if_pos hk,nz,Gt oV,hn]
   rw[e]
   rw[hn]at this
   have e2:(((K3 G0 (C2 s c).2 o).length:Int)=((K3 G0 (C2 s c).2 L).length:Int))↔(K3 G0 (C2 s c).2 o).length=(K3 G0 (C2 s c).2 L).length:=by omega
   rw[e2,←decide_eq_true_iff (p:=(K3 G0 (C2 s c).2 o).length=(K3 G0 (C2 s c).2 L).length),←this]
   simp only[List.all_eq_true,Bool.or_eq_true,decide_eq_true_eq,Bool.not_eq_true',decide_eq_false_iff_not]
   constructor
   ·intro hd x hx y hy
    by_cases hxy:L2 G0 (C2 s c).2 x L=L2 G0 (C2 s c).2 y L
    ·exact .inl hxy
    ·have:=hd x (List.mem_map.2 ⟨x,hx,rfl⟩) y (List.mem_map.2 ⟨y,hy,rfl⟩)
     rw[coa x hx,coa y hy,coa x hx,coa y hy]at this
     exact .inr (this hxy)
   ·intro hd x hx y hy hne
    obtain⟨x',oE,rfl⟩:=List.mem_map.1 hx
    obtain⟨y',pN,rfl⟩:=List.mem_map.1 hy
    rw[coa x' oE,coa y' pN]at hne ⊢
    rcases hd x' oE y' pN with h3|h3
    ·exact absurd h3 hne
    ·exact h3
 ·have hk:=hm.kind
  have e:EL s c=TM c:=by unfold EL;rw[if_neg (by omega)]
  refine⟨c.widths.length,⟨?_,(Ot hm).2.1,fun o L h1 h2=>aN hm h1 h2,fun o L h1 h2=>by rw[e];exact dD hm h1 h2⟩⟩
  unfold M7;rw[if_neg (by omega)]
theorem LD{s:A4}{c:D4}{n:Nat}(h:TO s c n):∀L:Nat,L≤n→Y4 s c L≤L∧K4 s c (Y4 s c L:Nat)=K4 s c L∧∀o:Nat,o<Y4 s c L→K4 s c o≠K4 s c L
 |0,_=>⟨Nat.le_refl _,rfl,fun o ho=>absurd ho (Nat.not_lt_zero _)⟩
 |L+1,hL=>by
  unfold Y4
  by_cases he:K4 s c L=K4 s c (L+1:Nat)
  ·rw[if_pos he]
   obtain⟨h1,h2,h3⟩:=LD h L (by omega)
   exact⟨by omega,by rw[h2,he],fun o ho=>by rw[←he];exact h3 o ho⟩
  ·rw[if_neg he]
   refine⟨Nat.le_refl _,rfl,fun o ho heo=>?_⟩
   have h1:=h.mono o L (by omega) (by omega)
   have h2:=h.mono L (L+1) (by omega) hL
   omega
theorem TP{s:A4}{c:D4}{n:Nat}(h:TO s c n){L k:Nat}(hL:L≤n)(h1:∀o:Nat,o<k→K4 s c o≠K4 s c L)(h2:K4 s c k=K4 s c L):(k:Int)=Y4 s c L:=by
 obtain⟨e1,e2,e3⟩:=LD h L hL
 rcases Nat.lt_trichotomy k (Y4 s c L)with h3|h3|h3
 ·exact absurd h2 (e3 k h3)
 ·rw[h3]
 ·exact absurd e2 (h1 _ h3)
end Go.Proofs.YtiphlhoclaogjaaGreatDoor
