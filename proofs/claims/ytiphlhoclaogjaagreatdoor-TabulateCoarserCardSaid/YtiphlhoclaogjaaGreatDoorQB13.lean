/- Chapter 2: values that a row can have, at all levels. Draws: values, rows and picks, and that they are right. Chapter 2: when a coarser level divides as a finer one does. Chapter 2: the least level of a column of a drawn schema. -/
import Derived.Test.YtiphlhoclaogjaaGreatDoorQB12
import Derived.Test.YtiphlhoclaogjaaGreatDoorQCd1
import Derived.Test.YtiphlhoclaogjaaGreatDoorQCm2
set_option linter.unusedVariables false
set_option linter.unnecessarySimpa false
set_option linter.unusedSimpArgs false
set_option maxHeartbeats 64000000
namespace Go.Proofs.YtiphlhoclaogjaaGreatDoor
open Go Go.Av
attribute [local irreducible] C7 B1 D1 C8 DQ D0 C6 St.le A3 B8
set_option maxRecDepth 100000
def Gk(ws:List Int)(lv:Nat):Int:=ws.getD (ws.length-lv) 0
def eQ(ws:List Int):Bool:=decide (1≤ws.length) && decide (ws.length≤4) && decide (Gk ws ws.length=1) && ((List.range 5).all fun a=>(List.range (a+1)).all fun b=>decide (b=0) || decide (ws.length<a) || (decide (1≤Gk ws a∧Gk ws a≤20) && decide (1≤Gk ws b∧Gk ws b≤20) && decide (Gk ws b=Gk ws a*(Gk ws b / Gk ws a)∧1≤Gk ws b / Gk ws a)))
theorem TS:Ec.all eQ=true:=by decide +kernel
theorem JW{c:D6}{lv:Nat}(h:lv≤c.widths.length):A9 c lv=Gk c.widths lv:=by
 unfold A9 Gk
 congr 1
 omega
theorem Ou{c:D6}{nm:List UInt8}(h:R0 c nm):1≤c.widths.length∧c.widths.length≤4∧A9 c c.widths.length=1:=by
 have h1:=List.all_eq_true.1 TS _ h.wid
 simp only[eQ,Bool.and_eq_true,decide_eq_true_eq]at h1
 rw[JW (Nat.le_refl _)]
 exact⟨h1.1.1.1,h1.1.1.2,h1.1.2⟩
theorem k9{c:D6}{nm:List UInt8}(h:R0 c nm){a b:Nat}(hb:1≤b)(uq:b≤a)(ha:a≤c.widths.length):(1≤A9 c a∧A9 c a≤20)∧(1≤A9 c b∧A9 c b≤20)∧∃m,1≤m∧A9 c b=A9 c a*m:=by
 have h1:=List.all_eq_true.1 TS _ h.wid
 simp only[eQ,Bool.and_eq_true,decide_eq_true_eq,List.all_eq_true,List.mem_range,Bool.or_eq_true]at h1
 have h2:=h1.2 a (by omega) b (by omega)
 rw[JW ha,JW (by omega)]
 rcases h2 with (h2|h2)|h2
 ·omega
 ·omega
 ·exact⟨h2.1.1,h2.1.2,_,h2.2.2,h2.2.1⟩
theorem a6(v:Int){w:Int}:C9 v w=w*(v / w):=by
 have:=Int.mul_ediv_add_emod v w
 unfold C9
 omega
theorem bO(v:Int):C9 v 1=v:=by unfold C9;omega
theorem TT(v:Int){w m:Int}(hw:1≤w)(hm:1≤m):C9 (C9 v w) (w*m)=C9 v (w*m):=by
 rw[a6,a6,a6]
 congr 1
 rw[Int.mul_ediv_mul_of_pos _ _ (by omega:(0:Int)<w),Int.ediv_ediv_of_nonneg (by omega)]
theorem Am{x v w:Int}(hw:1≤w)(h1:C9 v w≤x)(h2:x<C9 v w+w):C9 x w=C9 v w:=by
 rw[a6]at h1 h2
 rw[a6,a6]
 congr 1
 have e:x=(x-w*(v / w))+w*(v / w):=by omega
 rw[e,Int.add_mul_ediv_left _ _ (by omega:w≠0),Int.ediv_eq_zero_of_lt (by omega) (by omega)]
 omega
theorem QO{x v w m:Int}(hw:1≤w)(hm:1≤m)(h1:C9 v w≤x)(h2:x<C9 v w+w):C9 x (w*m)=C9 v (w*m):=by
 rw[←TT x hw hm,Am hw h1 h2,TT v hw hm]
def Aw(c:D6)(v:Int):Prop:=(c.low≤v∧v≤c.high)∨(c.opt=true∧v=(-1099511627776))
theorem N1{s:A4}{c:D6}{nm:List UInt8}(h:R0 c nm){v:Int}(hv:Aw c v)(lv:Int):P8 s c lv v=if lv=0 then 0 else if v=(-1099511627776)then (-1099511627776)else C9 v (A9 c lv):=by
 have hk:=h.kind
 have h1:=h.low
 have h2:=h.high
 unfold P8
 rw[if_neg (by omega),if_neg]
 rcases hv with hv|hv<;>omega
theorem eR{s:A4}{c:D6}{nm:List UInt8}(h:R0 c nm){v:Int}(hv:Aw c v){a b:Nat}(uq:b≤a)(ha:a≤c.widths.length):BP c a (P8 s c a v) b=(P8 s c b v,true):=by
 have hl:=h.low
 have hh:=h.high
 rw[N1 h hv,N1 h hv]
 by_cases zq:a=0
 ·subst zq
  have pW:b=0:=by omega
  subst pW
  simp[BP,M1]
 ·by_cases hm:v=(-1099511627776)
  ·have ho:c.opt=true:=by
    rcases hv with hv|hv
    ·omega
    ·exact hv.1
   rw[if_neg (by omega),if_pos hm]
   unfold BP
   rw[if_pos ⟨by omega,rfl⟩,ho]
   by_cases pW:b=0
   ·subst pW;simp
   ·rw[if_neg (by omega),if_neg (by omega),if_pos hm]
  ·have oo:c.low≤v∧v≤c.high:=by
    rcases hv with hv|hv
    ·exact hv
    ·exact absurd hv.2 hm
   rw[if_neg (by omega),if_neg hm,if_neg hm]
   obtain⟨hw,_,_⟩:=k9 h (a:=a) (b:=a) (by omega) (Nat.le_refl _) ha
   have hd:=V3 v hw.1
   have qb:=Am hw.1 (Int.le_refl _) (show C9 v (A9 c a)<C9 v (A9 c a)+A9 c a by omega)
   have uU:M1 c a (C9 v (A9 c a))=(max (C9 v (A9 c a)) c.low,min (C9 v (A9 c a)+A9 c a-1) c.high,true):=by
    unfold M1
    rw[if_neg (by omega),if_neg (by omega),qb]
    have:max (C9 v (A9 c a)) c.low≤min (C9 v (A9 c a)+A9 c a-1) c.high:=by omega
    simp[this]
   unfold BP
   rw[if_neg (by omega),uU]
   simp only[Bool.true_eq_false,if_false]
   by_cases pW:b=0
   ·subst pW;simp
   ·rw[if_neg (by omega),if_neg (by omega),if_neg (by omega)]
    obtain⟨_,_,m,hm1,qj⟩:=k9 h (a:=a) (b:=b) (by omega) uq ha
    have e1:=QO (x:=max (C9 v (A9 c a)) c.low) (v:=v) hw.1 hm1 (by omega) (by omega)
    have e2:=QO (x:=min (C9 v (A9 c a)+A9 c a-1) c.high) (v:=v) hw.1 hm1 (by omega) (by omega)
    rw[qj,e1,e2]
    simp
theorem eS{s:A4}{c:D6}{nm:List UInt8}(h:R0 c nm){v:Int}(hv:Aw c v):P8 s c c.widths.length v=v:=by
 obtain⟨h1,h2,h3⟩:=Ou h
 rw[N1 h hv,if_neg (by omega),h3,bO]
 split
 ·rename_i e;exact e.symm
 ·rfl
def Ov(cs:List Code):Bool:=(I5 E5 cs (C4 E5 cs-1)).all fun v=>Y6 cs v && decide (N3 E5 cs v (C4 E5 cs-1)=v) && decide (N3 E5 cs v 0=0) && ((List.range (C4 E5 cs).toNat).all fun a=>(List.range (a+1)).all fun b=>decide (EY E5 cs a (N3 E5 cs v a) b=(N3 E5 cs v b,true)))
theorem TU:Kz.all Ov=true:=by decide +kernel
theorem TV{a b:List UInt8}(h:D5 a=D5 b)(cs:List Code)(fr v to:Int):∀(l:List Nat) (out:Int) (sm:Bool),Cc a cs fr v to l out sm=Cc b cs fr v to l out sm
 |[],out,sm=>rfl
 |x::r,out,sm=>by simp only[Cc,Gj h,TV h cs fr v to r]
theorem eT{a b:List UInt8}(h:D5 a=D5 b)(cs:List Code)(fr v to:Int):EY a cs fr v to=EY b cs fr v to:=by
 unfold EY
 rw[BJ h,Al h,TV h]
theorem C3.lst{s:A4}(h:C3 s){c:D6}(hc:c=Cg∨c=JV):(B9 s c).2∈Kz∧D5 (B9 s c).1=D5 E5∧(B9 s c).2.length≤10:=by
 obtain⟨l1,l2,m1,m2,e⟩:=h.ls
 rcases hc with rfl|rfl
 ·have:B9 s Cg=(E5,l1):=by unfold B9;rw[e];rfl
  rw[this];exact⟨m1,rfl,(Ch m1).len⟩
 ·have:B9 s JV=(Dx,l2):=by unfold B9;rw[e];rfl
  rw[this];exact⟨m2,lD,(Ch m2).len⟩
def i8(s:A4)(c:D6)(v:Int):Prop:=(c.kind=1∧1≤v∧v≤60)∨(c.kind=2∧∃n:Nat,v=n∧n∈I5 (B9 s c).1 (B9 s c).2 (C4 (B9 s c).1 (B9 s c).2-1))∨(c.kind=3∧Aw c v)
structure eU(s:A4)(c:D6)(n:Nat):Prop where
 fin:N0 s c=n
 le:n≤4
 top:∀v,i8 s c v→P8 s c n v=v
 zero:∀v,i8 s c v→P8 s c 0 v=0
 turn:∀v,i8 s c v→∀a b:Nat,b≤a→a≤n→(if c.kind=2 then EY (B9 s c).1 (B9 s c).2 a (P8 s c a v) b else BP c a (P8 s c a v) b)=(P8 s c b v,true)
theorem C3.facts{s:A4}(h:C3 s){i:Nat}{c:D6}(hi:0<i)(hc:s.cols[i]?=some c):∃n,eU s c n:=by
 rcases h.col hc with ⟨rfl,_⟩|⟨_,qr⟩|⟨_,nm,hm⟩
 ·omega
 ·obtain⟨hf,pZ,nZ⟩:=h.lst qr
  have hk:c.kind=2:=by rcases qr with rfl|rfl<;>rfl
  have rK:=Ch hf
  have qd:=Al pZ (B9 s c).2
  have ht:=List.all_eq_true.1 TU _ hf
  simp only[Ov,Bool.and_eq_true,decide_eq_true_eq,List.all_eq_true,List.mem_range]at ht
  obtain⟨n,hn⟩:=Int.eq_ofNat_of_zero_le (show 0≤C4 E5 (B9 s c).2-1 by have:=rK.lv;omega)
  have ok:∀v,i8 s c v→∃j:Nat,v=j∧j∈I5 E5 (B9 s c).2 n:=by
   rintro v (⟨h1,_⟩|⟨_,j,h1,h2⟩|⟨h1,_⟩)
   ·omega
   ·exact⟨j,h1,by rw[←hn,←qd,←BJ pZ];exact h2⟩
   ·omega
  have coa:∀j:Nat,j∈I5 E5 (B9 s c).2 n→∀lv:Int,P8 s c lv j=N3 E5 (B9 s c).2 j lv:=by
   intro j hj lv
   have h1:=rK.mem j (by rw[hn];exact hj)
   have h2:=(ht j (by rw[hn];exact hj)).1.1.1
   unfold P8
   rw[if_pos hk,Gj pZ,if_pos]
   unfold Ai
   rw[if_neg (by omega),if_pos hk,h2]
   simp;omega
  refine⟨n,⟨?_,?_,?_,?_,?_⟩⟩
  ·unfold N0;rw[if_pos hk,qd,hn]
  ·have:=rK.lv;omega
  ·intro v hv
   obtain⟨j,rfl,hj⟩:=ok v hv
   rw[coa j hj,←hn]
   exact(ht j (by rw[hn];exact hj)).1.1.2
  ·intro v hv
   obtain⟨j,rfl,hj⟩:=ok v hv
   rw[coa j hj]
   exact(ht j (by rw[hn];exact hj)).1.2
  ·intro v hv a b uq ha
   obtain⟨j,rfl,hj⟩:=ok v hv
   rw[if_pos hk,coa j hj,coa j hj,eT pZ]
   exact(ht j (by rw[hn];exact hj)).2 a (by omega) b (by omega)
 ·have hk:=hm.kind
  have ok:∀v,i8 s c v→Aw c v:=by
   rintro v (⟨h1,_⟩|⟨h1,_⟩|⟨_,h1⟩)
   ·omega
   ·omega
   ·exact h1
  refine⟨c.widths.length,⟨?_,(Ou hm).2.1,?_,?_,?_⟩⟩
  ·unfold N0;rw[if_neg (by omega)]
  ·intro v hv;exact eS hm (ok v hv)
  ·intro v hv;rw[N1 hm (ok v hv),if_pos rfl]
  ·intro v hv a b uq ha
   rw[if_neg (by omega)]
   exact eR hm (ok v hv) uq ha
theorem C3.chain{s:A4}(h:C3 s){i:Nat}{c:D6}(hi:0<i)(hc:s.cols[i]?=some c):∃n:Nat,A8 s i=n∧n≤4∧∀v,i8 s c v→F9 s i n v=v∧F9 s i 0 v=0∧∀a b:Nat,b≤a→a≤n→YL s i a (F9 s i a v) b=(F9 s i b v,true):=by
 obtain⟨n,hf⟩:=h.facts hi hc
 have nf:=D4 hc
 have nt:B4 s i=c:=C0 (by simpa using hc)
 have wH:F2 s i=n:=by unfold F2;rw[if_neg (by omega),nt];exact hf.fin
 have vR:A8 s i=n:=by unfold A8;rw[if_pos h.ok];exact wH
 have coa:∀(lv:Nat) v,lv≤n→F9 s i lv v=P8 s c lv v:=by
  intro lv v qd
  unfold F9
  rw[vR,if_neg (by omega),nt]
 refine⟨n,vR,hf.le,fun v hv=>⟨?_,?_,?_⟩⟩
 ·rw[coa n v (Nat.le_refl _)];exact hf.top v hv
 ·have:=coa 0 v (Nat.zero_le _)
  rw[show ((0:Nat):Int)=0 from rfl]at this
  rw[this];exact hf.zero v hv
 ·intro a b uq ha
  have ht:=hf.turn v hv a b uq ha
  rw[coa a v ha,coa b v (by omega)]
  unfold YL d7
  rw[if_pos h.ok,wH,if_neg (by omega),nt,ht]
  simp
def t5(l:List UInt8)(a:Nat)(s:A4)(k:Int):Int×Nat :=
 let c:=B4 s k
 if c.kind=1 then (1+((B7 l a 60).1:Int),(B7 l a 60).2)
 else if c.kind=2 then ((((H4 s k).getD (B7 l a (H4 s k).length).1 0:Nat):Int),(B7 l a (H4 s k).length).2)
 else if c.opt=true then
  (if ((B7 l a 4).1:Int)=3 then ((-1099511627776),(B7 l a 4).2)else (c.low+((B7 l (B7 l a 4).2 (c.high-c.low+1)).1:Int),(B7 l (B7 l a 4).2 (c.high-c.low+1)).2))
 else (c.low+((B7 l a (c.high-c.low+1)).1:Int),(B7 l a (c.high-c.low+1)).2)
def rowFrom(l:List UInt8)(s:A4):Nat→List Int×Nat→Nat→List Int×Nat
 |_,x,0=>x
 |k,x,n+1=>rowFrom l s (k+1) (x.1++[(t5 l x.2 s k).1],(t5 l x.2 s k).2) n
def j7(l:List UInt8)(a:Nat)(s:A4):List Int×Nat:=rowFrom l s 0 ([],a) s.cols.length
theorem C3.lvs{s:A4}(h:C3 s){i:Nat}{c:D6}(hc:s.cols[i]?=some c)(hk:c.kind=2):(0≤c.lst∧c.lst<s.lists.length)∧H4 s i=I5 (B9 s c).1 (B9 s c).2 (C4 (B9 s c).1 (B9 s c).2-1)∧1≤(H4 s i).length∧(H4 s i).length≤10:=by
 have nt:B4 s i=c:=C0 (by simpa using hc)
 have e:H4 s i=I5 (B9 s c).1 (B9 s c).2 (C4 (B9 s c).1 (B9 s c).2-1):=by unfold H4;rw[nt]
 rcases h.col hc with ⟨_,rfl⟩|⟨_,qr⟩|⟨_,nm,hm⟩
 ·cases hk
 ·obtain⟨hf,pZ,nZ⟩:=h.lst qr
  have rK:=(Ch hf).at'
  refine⟨?_,e,?_⟩
  ·rw[h.lens.1];rcases qr with rfl|rfl<;>decide
  ·rw[e,Al pZ,BJ pZ];exact rK
 ·have:=hm.kind;omega
theorem Wi{s:A4}(h:C3 s)(l:List UInt8)(a:Nat){i:Nat}{c:D6}(hc:s.cols[i]?=some c):i8 s c (t5 l a s i).1:=by
 have nt:B4 s i=c:=C0 (by simpa using hc)
 unfold t5
 rw[nt]
 rcases h.col hc with ⟨_,rfl⟩|⟨_,qr⟩|⟨_,nm,hm⟩
 ·have:=G1 l a (n:=60) (by omega)
  exact .inl ⟨rfl,by simp only[Lt,if_true];omega⟩
 ·have hk:c.kind=2:=by rcases qr with rfl|rfl<;>rfl
  obtain⟨_,h1,h2,h3⟩:=h.lvs hc hk
  have hn:=G1 l a (n:=(H4 s i).length) (by omega)
  dsimp only
  rw[if_neg (by omega),if_pos hk]
  have nf:(B7 l a (H4 s i).length).1<(H4 s i).length:=by omega
  refine .inr (.inl ⟨hk,_,rfl,?_⟩)
  rw[←h1,D2 (List.getElem?_eq_getElem nf)]
  exact List.getElem_mem nf
 ·have hk:=hm.kind
  have hh:=hm.high
  have n1:=G1 l a (n:=c.high-c.low+1) (by omega)
  have n2:=G1 l (B7 l a 4).2 (n:=c.high-c.low+1) (by omega)
  dsimp only
  rw[if_neg (by omega),if_neg (by omega)]
  refine .inr (.inr ⟨hk,?_⟩)
  split
  ·split
   ·exact .inr ⟨by assumption,rfl⟩
   ·exact .inl ⟨by dsimp only;omega,by dsimp only;omega⟩
  ·exact .inl ⟨by dsimp only;omega,by dsimp only;omega⟩
theorem TW(x:Int){w:Int}(hw:1≤w):(x+1) / w=x / w+(if (x+1) % w=0 then 1 else 0):=by
 have h1:=Int.mul_ediv_add_emod x w
 have h2:=Int.emod_nonneg x (b:=w) (by omega)
 have h3:=Int.emod_lt_of_pos x (b:=w) (by omega)
 by_cases h:x % w+1=w
 ·have e:x+1=w*(x / w+1):=by rw[Int.mul_add,Int.mul_one];omega
  have e2:(x+1) % w=0:=by rw[e];exact Int.mul_emod_right w _
  have e3:(x+1) / w=x / w+1:=by rw[e];exact Int.mul_ediv_cancel_left _ (by omega)
  rw[if_pos e2,e3]
 ·have e:x+1=(x % w+1)+w*(x / w):=by omega
  have e3:(x+1) / w=x / w:=by
   rw[e,Int.add_mul_ediv_left _ _ (by omega:w≠0),Int.ediv_eq_zero_of_lt (by omega) (by omega)]
   omega
  have e2:(x+1) % w=x % w+1:=by
   have:=Int.mul_ediv_add_emod (x+1) w
   rw[e3]at this
   omega
  rw[if_neg (by omega),e3]
  omega
def Gl(low high w W:Int):Prop:=∀t,low<t→t≤high→t % w=0→t % W=0
theorem YZ{t w m:Int}(h:t % (w*m)=0):t % w=0:=by
 have:=Int.dvd_of_emod_eq_zero h
 exact Int.emod_eq_zero_of_dvd (Int.dvd_trans (Int.dvd_mul_right w m) this)
theorem cnt{w m:Int}(hw:1≤w)(hm:1≤m)(low:Int):∀j:Nat,(low+j) / (w*m)-low / (w*m)≤(low+j) / w-low / w∧((low+j) / (w*m)-low / (w*m)=(low+j) / w-low / w↔Gl low (low+j) w (w*m))
 |0=>⟨by simp,by
   constructor
   ·intro _ t h1 h2;omega
   ·intro _;simp⟩
 |j+1=>by
  obtain⟨h1,h2⟩:=cnt hw hm low j
  have hW:1≤w*m:=by
   have:=Int.mul_le_mul hw hm (by omega) (by omega)
   simpa using this
  have e:low+((j+1:Nat):Int)=(low+j)+1:=by omega
  rw[e,TW _ hw,TW _ hW]
  have ext:Gl low (low+j+1) w (w*m)↔Gl low (low+j) w (w*m)∧((low+j+1) % w=0→(low+j+1) % (w*m)=0):=by
   constructor
   ·intro h
    exact⟨fun t h3 h4=>h t h3 (by omega),fun h3=>h _ (by omega) (by omega) h3⟩
   ·rintro ⟨h3,h4⟩ t h5 h6 h7
    by_cases h8:t=low+j+1
    ·subst h8;exact h4 h7
    ·exact h3 t h5 (by omega) h7
  rw[ext,←h2]
  by_cases ha:(low+j+1) % w=0
  ·by_cases hb:(low+j+1) % (w*m)=0
   ·rw[if_pos ha,if_pos hb]
    exact⟨by omega,by constructor<;>(intro h;first|exact⟨by omega,fun _=>hb⟩|(have:=h.1;omega))⟩
   ·rw[if_pos ha,if_neg hb]
    exact⟨by omega,by constructor<;>(intro h;first|(exfalso;omega)|exact absurd (h.2 ha) hb)⟩
  ·have hb:¬(low+j+1) % (w*m)=0:=fun h=>ha (YZ h)
   rw[if_neg ha,if_neg hb]
   exact⟨by omega,by constructor<;>(intro h;first|exact⟨by omega,fun h=>absurd h ha⟩|(have:=h.1;omega))⟩
theorem Ow{w m low high:Int}(hw:1≤w)(hm:1≤m)(h:low≤high):high / (w*m)-low / (w*m)≤high / w-low / w∧(high / (w*m)-low / (w*m)=high / w-low / w↔Gl low high w (w*m)):=by
 obtain⟨j,hj⟩:=Int.eq_ofNat_of_zero_le (show 0≤high-low by omega)
 have:=cnt hw hm low j
 rwa[show low+(j:Int)=high by omega]at this
def Ci(low high w W:Int):Bool:=decide (high<(low / w+1)*w) || (decide (((low / w+1)*w).tmod W=0) && (decide (high<(low / w+1)*w+w) || decide (((low / w+1)*w+w).tmod W=0)))
theorem ib{t W:Int}:t.tmod W=0↔t % W=0:=by
 constructor
 ·intro h;exact Int.emod_eq_zero_of_dvd (Int.dvd_of_tmod_eq_zero h)
 ·intro h;exact Int.tmod_eq_zero_of_dvd (Int.dvd_of_emod_eq_zero h)
theorem eV{w m low high:Int}(hw:1≤w)(hm:1≤m):Ci low high w (w*m)=true↔Gl low high w (w*m):=by
 have hd:=Int.mul_ediv_add_emod low w
 have sU:=Int.emod_nonneg low (b:=w) (by omega)
 have vG:=Int.emod_lt_of_pos low (b:=w) (by omega)
 have ef:(low / w+1)*w=w*(low / w)+w:=by rw[Int.add_mul,Int.mul_comm];omega
 have fm:((low / w+1)*w) % w=0:=by rw[Int.mul_comm];exact Int.mul_emod_right w _
 have gm:((low / w+1)*w+w) % w=0:=by
  rw[show (low / w+1)*w+w=w*(low / w+1+1) by rw[Int.mul_add,Int.mul_comm w (low / w+1)];omega]
  exact Int.mul_emod_right w _
 have geF:∀t,low<t→t % w=0→t=(low / w+1)*w∨(low / w+1)*w+w≤t:=by
  intro t h1 h2
  obtain⟨q,rfl⟩:=Int.dvd_of_emod_eq_zero h2
  have h3:low / w<q:=by
   rcases Int.lt_or_le (low / w) q with h|h
   ·exact h
   ·have:=Int.mul_le_mul_of_nonneg_left h (show 0≤w by omega);omega
  by_cases h4:q=low / w+1
  ·left;rw[h4,Int.mul_comm]
  ·right
   have:=Int.mul_le_mul_of_nonneg_left (show low / w+1+1≤q by omega) (show 0≤w by omega)
   rw[Int.mul_add,Int.mul_add]at this
   omega
 unfold Ci
 simp only[Bool.or_eq_true,Bool.and_eq_true,decide_eq_true_eq,ib]
 constructor
 ·intro h t h1 h2 h3
  rcases h with h|⟨h,h4⟩
  ·rcases geF t h1 h3 with h5|h5<;>omega
  ·rcases geF t h1 h3 with h5|h5
   ·rw[h5];exact h
   ·rcases h4 with h4|h4
    ·omega
    ·have d1:=Int.dvd_of_emod_eq_zero h
     have d2:=Int.dvd_of_emod_eq_zero h4
     have d3:w*m ∣ w:=by
      have:=Int.dvd_sub d2 d1
      rwa[show (low / w+1)*w+w-(low / w+1)*w=w by omega]at this
     exact Int.emod_eq_zero_of_dvd (Int.dvd_trans d3 (Int.dvd_of_emod_eq_zero h3))
 ·intro h
  by_cases h1:high<(low / w+1)*w
  ·exact .inl h1
  ·refine .inr ⟨h _ (by omega) (by omega) fm,?_⟩
   by_cases h2:high<(low / w+1)*w+w
   ·exact .inl h2
   ·exact .inr (h _ (by omega) (by omega) gm)
def Ya(f g:Int→Int)(l:List Int):Prop:=∀x∈l,∀y∈l,f x≠f y→g x≠g y
theorem eW{w m low high:Int}(hw:1≤w)(hm:1≤m)(rj:low≤high):(∀x y,low≤x→x≤high→low≤y→y≤high→C9 x w≠C9 y w→C9 x (w*m)≠C9 y (w*m))↔Gl low high w (w*m):=by
 have hW:1≤w*m:=by
  have:=Int.mul_le_mul hw hm (by omega) (by omega)
  simpa using this
 constructor
 ·intro h t h1 h2 h3
  refine Classical.byContradiction fun h4=>?_
  have e1:C9 t w=t:=by unfold C9;omega
  have b1:=V3 (t-1) hw
  have b2:=V3 t hW
  have e2:C9 t (w*m)≤t-1:=by
   have:=Int.emod_nonneg t (b:=w*m) (by omega)
   unfold C9;omega
  have e3:C9 (t-1) (w*m)=C9 t (w*m):=Am hW e2 (by omega)
  exact h t (t-1) (by omega) h2 (by omega) (by omega) (by omega) e3.symm
 ·intro h
  have key:∀x y,low≤x→y≤high→x<y→C9 x w≠C9 y w→C9 x (w*m)≠C9 y (w*m):=by
   intro x y h1 h2 h3 h4
   have b1:=V3 y hw
   have b3:=V3 x hW
   have hx:x<C9 y w:=by
    rcases Int.lt_or_le x (C9 y w)with h5|h5
    ·exact h5
    ·exact absurd (Am hw h5 (by omega)) h4
   have h6:C9 y w % w=0:=by rw[a6];exact Int.mul_emod_right w _
   have h7:=h (C9 y w) (by omega) (by omega) h6
   have h8:C9 (C9 y w) (w*m)=C9 y w:=by unfold C9 at h7 ⊢;omega
   have h9:=NW hW b1.2
   omega
  intro x y h1 h2 h3 h4 h5 h6
  rcases Int.lt_trichotomy x y with h7|h7|h7
  ·exact key x y h1 h4 h7 h5 h6
  ·exact h5 (by rw[h7])
  ·exact key y x h3 h2 h7 (Ne.symm h5) h6.symm
theorem v7{s:A4}{c:D6}{nm:List UInt8}(h:R0 c nm){L:Nat}(h1:1≤L)(h2:L≤c.widths.length):K6 s c L=c.high / A9 c L-c.low / A9 c L+1+(if c.opt=true then 1 else 0):=by
 obtain⟨hw,_,_⟩:=k9 h (a:=L) (b:=L) h1 (Nat.le_refl _) h2
 have hk:=h.kind
 unfold K6
 rw[if_neg (by omega),if_neg (by omega),a6,a6,←Int.mul_sub,Int.mul_ediv_cancel_left _ (by omega)]
theorem Fn{s:A4}{c:D6}{nm:List UInt8}(h:R0 c nm):K6 s c 0=1:=by
 have hk:=h.kind
 unfold K6
 rw[if_neg (by omega),if_pos rfl]
theorem JX{a b w:Int}(hw:1≤w)(h:a≤b):a / w≤b / w:=Int.ediv_le_ediv (by omega) h
theorem bP{s:A4}{c:D6}{nm:List UInt8}(h:R0 c nm){o L:Nat}(ho:o≤L)(hL:L≤c.widths.length):K6 s c o≤K6 s c L:=by
 have hh:=h.high
 by_cases h0:o=0
 ·subst h0
  rw[show ((0:Nat):Int)=0 from rfl,Fn h]
  by_cases hL0:L=0
  ·subst hL0;rw[show ((0:Nat):Int)=0 from rfl,Fn h];omega
  ·obtain⟨hw,_,_⟩:=k9 h (a:=L) (b:=L) (by omega) (Nat.le_refl _) hL
   rw[v7 h (by omega) hL]
   have:=JX hw.1 hh.1
   split<;>omega
 ·obtain⟨hw,_,m,hm,e⟩:=k9 h (a:=L) (b:=o) (by omega) ho hL
  rw[v7 h (by omega) hL,v7 h (by omega) (by omega),e]
  have:=(Ow hw.1 hm hh.1).1
  omega
def TX(c:D6):List Int:=(List.range (c.high-c.low+1).toNat).map (fun i:Nat=>c.low+(i:Int))++(if c.opt=true then [(-1099511627776)]else [])
theorem AX{c:D6}{v:Int}:v∈TX c↔Aw c v:=by
 unfold TX Aw
 rw[List.mem_append,List.mem_map]
 constructor
 ·rintro (⟨i,hi,rfl⟩|h)
  ·rw[List.mem_range]at hi;left;omega
  ·split at h
   ·rename_i ho;simp at h;exact .inr ⟨ho,h⟩
   ·cases h
 ·rintro (h|⟨h1,h2⟩)
  ·exact .inl ⟨(v-c.low).toNat,by rw[List.mem_range];omega,by omega⟩
  ·right;rw[if_pos h1,h2];simp
theorem eY{s:A4}{c:D6}{nm:List UInt8}(h:R0 c nm){o L:Nat}(ho:o≤L)(hL:L≤c.widths.length):Ya (P8 s c L) (P8 s c o) (TX c)↔K6 s c o=K6 s c L:=by
 have hl:=h.low
 have hh:=h.high
 have rj:Aw c c.low:=.inl (by omega)
 have qp:Aw c c.high:=.inl (by omega)
 by_cases hoL:o=L
 ·subst hoL
  exact⟨fun _=>rfl,fun _ x _ y _ h=>h⟩
 obtain⟨hw,_,_⟩:=k9 h (a:=L) (b:=L) (by omega) (Nat.le_refl _) hL
 have rq:=fun v (hv:c.low≤v∧v≤c.high)=>V3 v hw.1
 by_cases h0:o=0
 ·subst h0
  rw[v7 h (by omega) hL,show ((0:Nat):Int)=0 from rfl,Fn h]
  have qW:=JX hw.1 hh.1
  constructor
  ·intro hd
   have z:∀x y,Aw c x→Aw c y→P8 s c L x=P8 s c L y:=by
    intro x y hx hy
    refine Classical.byContradiction fun hne=>hd x (AX.2 hx) y (AX.2 hy) hne ?_
    rw[N1 h hx,N1 h hy,if_pos rfl,if_pos rfl]
   have ns:¬c.opt=true:=by
    intro sk
    have:=z c.low ((-1099511627776)) rj (.inr ⟨sk,rfl⟩)
    rw[N1 h rj,N1 h (.inr ⟨sk,rfl⟩),if_neg (by omega),if_neg (by omega),if_neg (by omega),if_pos rfl]at this
    have:=rq c.low (by omega)
    omega
   have:=z c.low c.high rj qp
   rw[N1 h rj,N1 h qp,if_neg (by omega),if_neg (by omega),if_neg (by omega),if_neg (by omega),a6,a6]at this
   have e:c.low / A9 c L=c.high / A9 c L:=Int.eq_of_mul_eq_mul_left (show A9 c L≠0 by omega) this
   rw[if_neg ns,e];omega
  ·intro he x hx y hy hne
   exfalso
   apply hne
   have ns:¬c.opt=true:=by
    intro sk;rw[if_pos sk]at he;omega
   rw[if_neg ns]at he
   have e:c.low / A9 c L=c.high / A9 c L:=by omega
   have z:∀x,Aw c x→P8 s c L x=A9 c L*(c.low / A9 c L):=by
    intro x hx
    have qD:c.low≤x∧x≤c.high:=by
     rcases hx with hx|hx
     ·exact hx
     ·exact absurd hx.1 ns
    rw[N1 h hx,if_neg (by omega),if_neg (by omega),a6]
    have h1:=JX hw.1 qD.1
    have h2:=JX hw.1 qD.2
    congr 1
    omega
   rw[z x (AX.1 hx),z y (AX.1 hy)]
 ·obtain⟨_,hW,m,hm,e⟩:=k9 h (a:=L) (b:=o) (by omega) ho hL
  rw[v7 h (by omega) hL,v7 h (by omega) (by omega)]
  have hc:=(Ow hw.1 hm hh.1).2
  have sx:=eW hw.1 hm hh.1
  rw[←e]at hc sx
  have e1:(c.high / A9 c o-c.low / A9 c o+1+(if c.opt=true then 1 else 0)=c.high / A9 c L-c.low / A9 c L+1+(if c.opt=true then 1 else 0))↔(c.high / A9 c o-c.low / A9 c o=c.high / A9 c L-c.low / A9 c L):=by
   constructor<;>intro h<;>omega
  rw[e1,hc,←sx]
  have coa:∀lv:Nat,1≤lv→∀x,c.low≤x→x≤c.high→P8 s c lv x=C9 x (A9 c lv):=by
   intro lv qd x h1 h2
   rw[N1 h (.inl ⟨h1,h2⟩),if_neg (by omega),if_neg (by omega)]
  constructor
  ·intro hd x y h1 h2 h3 h4 h5
   have:=hd x (AX.2 (.inl ⟨h1,h2⟩)) y (AX.2 (.inl ⟨h3,h4⟩))
   rw[coa L (by omega) x h1 h2,coa L (by omega) y h3 h4,coa o (by omega) x h1 h2,coa o (by omega) y h3 h4]at this
   exact this h5
  ·intro hd x hx y hy hne
   have bW:=fun v (hv:c.low≤v∧v≤c.high)=>V3 v hW.1
   rcases AX.1 hx with qD|qD<;>rcases AX.1 hy with rM|rM
   ·rw[coa L (by omega) x qD.1 qD.2,coa L (by omega) y rM.1 rM.2]at hne
    rw[coa o (by omega) x qD.1 qD.2,coa o (by omega) y rM.1 rM.2]
    exact hd x y qD.1 qD.2 rM.1 rM.2 hne
   ·have:=bW x qD
    rw[coa o (by omega) x qD.1 qD.2,N1 h (.inr rM),if_neg (by omega),if_pos rM.2]
    omega
   ·have:=bW y rM
    rw[coa o (by omega) y rM.1 rM.2,N1 h (.inr qD),if_neg (by omega),if_pos qD.2]
    omega
   ·exfalso;apply hne;rw[qD.2,rM.2]
def f0(f g:Int→Int)(x y:Int):Bool:=!(decide (f x≠f y) && decide (g x=g y))
def divB(f g:Int→Int)(l:List Int):Bool:=(List.range l.length).all fun i=>(List.range i).all fun k=>f0 f g (l.getD i 0) (l.getD k 0)
theorem TY{f g:Int→Int}{l:List Int}:divB f g l=true↔Ya f g l:=by
 unfold divB Ya
 simp only[List.all_eq_true,List.mem_range]
 constructor
 ·intro h x hx y hy hne hg
  obtain⟨i,hi,rfl⟩:=List.getElem_of_mem hx
  obtain⟨k,hk,rfl⟩:=List.getElem_of_mem hy
  have g1:l.getD i 0=l[i]:=D2 (List.getElem?_eq_getElem hi)
  have g2:l.getD k 0=l[k]:=D2 (List.getElem?_eq_getElem hk)
  rcases Nat.lt_trichotomy i k with h1|h1|h1
  ·have:=h k hk i h1
   rw[g1,g2]at this
   simp[f0,Ne.symm hne,hg]at this
  ·subst h1;exact hne rfl
  ·have:=h i hi k h1
   rw[g1,g2]at this
   simp[f0,hne,hg]at this
 ·intro h i hi k hk
  have g1:l.getD i 0=l[i]:=D2 (List.getElem?_eq_getElem hi)
  have oT:k<l.length:=by omega
  have g2:l.getD k 0=l[k]:=D2 (List.getElem?_eq_getElem oT)
  rw[g1,g2]
  by_cases hne:f l[i]=f l[k]
  ·simp[f0,hne]
  ·have:=h _ (List.getElem_mem hi) _ (List.getElem_mem oT) hne
   simp[f0,this]
def Dy(s:A4)(c:D6):List Int:=if c.kind=2 then (I5 (B9 s c).1 (B9 s c).2 (C4 (B9 s c).1 (B9 s c).2-1)).map fun n:Nat=>(n:Int)else TX c
structure TZ(s:A4)(c:D6)(n:Nat):Prop where
 fin:N0 s c=n
 le:n≤4
 mono:∀o L:Nat,o≤L→L≤n→K6 s c o≤K6 s c L
 divs:∀o L:Nat,o≤L→L≤n→(Ya (P8 s c L) (P8 s c o) (Dy s c)↔K6 s c o=K6 s c L)
def bQ(cs:List Code):Bool:=(List.range (C4 E5 cs).toNat).all fun L=>(List.range (L+1)).all fun o=>decide ((I5 E5 cs o).length≤(I5 E5 cs L).length) && decide ((I5 E5 cs (C4 E5 cs-1)).all (fun x=>(I5 E5 cs (C4 E5 cs-1)).all fun y=>decide (N3 E5 cs x L=N3 E5 cs y L) || !(decide (N3 E5 cs x o=N3 E5 cs y o)))=decide ((I5 E5 cs o).length=(I5 E5 cs L).length))
theorem bR:Kz.all bQ=true:=by decide +kernel
theorem C3.blk{s:A4}(h:C3 s){i:Nat}{c:D6}(hi:0<i)(hc:s.cols[i]?=some c):∃n,TZ s c n:=by
 rcases h.col hc with ⟨rfl,_⟩|⟨_,qr⟩|⟨_,nm,hm⟩
 ·omega
 ·obtain⟨hf,pZ,nZ⟩:=h.lst qr
  have hk:c.kind=2:=by rcases qr with rfl|rfl<;>rfl
  have rK:=Ch hf
  have qd:=Al pZ (B9 s c).2
  have ht:=List.all_eq_true.1 TU _ hf
  simp only[Ov,Bool.and_eq_true,decide_eq_true_eq,List.all_eq_true,List.mem_range]at ht
  have hb:=List.all_eq_true.1 bR _ hf
  simp only[bQ,List.all_eq_true,List.mem_range,Bool.and_eq_true,decide_eq_true_eq]at hb
  obtain⟨n,hn⟩:=Int.eq_ofNat_of_zero_le (show 0≤C4 E5 (B9 s c).2-1 by have:=rK.lv;omega)
  have coa:∀j:Nat,j∈I5 E5 (B9 s c).2 n→∀lv:Int,P8 s c lv j=N3 E5 (B9 s c).2 j lv:=by
   intro j hj lv
   have h1:=rK.mem j (by rw[hn];exact hj)
   have h2:=(ht j (by rw[hn];exact hj)).1.1.1
   unfold P8
   rw[if_pos hk,Gj pZ,if_pos]
   unfold Ai
   rw[if_neg (by omega),if_pos hk,h2]
   simp;omega
  have blk:∀lv:Int,K6 s c lv=(I5 E5 (B9 s c).2 lv).length:=by
   intro lv;unfold K6;rw[if_pos hk,BJ pZ]
  refine⟨n,⟨?_,?_,?_,?_⟩⟩
  ·unfold N0;rw[if_pos hk,qd,hn]
  ·have:=rK.lv;omega
  ·intro o L h1 h2
   have:=(hb L (by omega) o (by omega)).1
   rw[blk,blk];omega
  ·intro o L h1 h2
   have:=(hb L (by omega) o (by omega)).2
   rw[blk,blk]
   have e:Dy s c=(I5 E5 (B9 s c).2 n).map fun n:Nat=>(n:Int):=by unfold Dy;rw[if_pos hk,qd,BJ pZ,hn]
   rw[e]
   rw[hn]at this
   have e2:(((I5 E5 (B9 s c).2 o).length:Int)=((I5 E5 (B9 s c).2 L).length:Int))↔(I5 E5 (B9 s c).2 o).length=(I5 E5 (B9 s c).2 L).length:=by omega
   rw[e2,←decide_eq_true_iff (p:=(I5 E5 (B9 s c).2 o).length=(I5 E5 (B9 s c).2 L).length),←this]
   simp only[List.all_eq_true,Bool.or_eq_true,decide_eq_true_eq,Bool.not_eq_true',decide_eq_false_iff_not]
   constructor
   ·intro hd x hx y hy
    by_cases hxy:N3 E5 (B9 s c).2 x L=N3 E5 (B9 s c).2 y L
    ·exact .inl hxy
    ·have:=hd x (List.mem_map.2 ⟨x,hx,rfl⟩) y (List.mem_map.2 ⟨y,hy,rfl⟩)
     rw[coa x hx,coa y hy,coa x hx,coa y hy]at this
     exact .inr (this hxy)
   ·intro hd x hx y hy hne
    obtain⟨x',qD,rfl⟩:=List.mem_map.1 hx
    obtain⟨y',rM,rfl⟩:=List.mem_map.1 hy
    rw[coa x' qD,coa y' rM]at hne ⊢
    rcases hd x' qD y' rM with h3|h3
    ·exact absurd h3 hne
    ·exact h3
 ·have hk:=hm.kind
  have e:Dy s c=TX c:=by unfold Dy;rw[if_neg (by omega)]
  refine⟨c.widths.length,⟨?_,(Ou hm).2.1,fun o L h1 h2=>bP hm h1 h2,fun o L h1 h2=>by rw[e];exact eY hm h1 h2⟩⟩
  unfold N0;rw[if_neg (by omega)]
theorem GM{s:A4}{c:D6}{n:Nat}(h:TZ s c n):∀L:Nat,L≤n→Q6 s c L≤L∧K6 s c (Q6 s c L:Nat)=K6 s c L∧∀o:Nat,o<Q6 s c L→K6 s c o≠K6 s c L
 |0,_=>⟨Nat.le_refl _,rfl,fun o ho=>absurd ho (Nat.not_lt_zero _)⟩
 |L+1,hL=>by
  unfold Q6
  by_cases he:K6 s c L=K6 s c (L+1:Nat)
  ·rw[if_pos he]
   obtain⟨h1,h2,h3⟩:=GM h L (by omega)
   exact⟨by omega,by rw[h2,he],fun o ho=>by rw[←he];exact h3 o ho⟩
  ·rw[if_neg he]
   refine⟨Nat.le_refl _,rfl,fun o ho heo=>?_⟩
   have h1:=h.mono o L (by omega) (by omega)
   have h2:=h.mono L (L+1) (by omega) hL
   omega
theorem Ta{s:A4}{c:D6}{n:Nat}(h:TZ s c n){L k:Nat}(hL:L≤n)(h1:∀o:Nat,o<k→K6 s c o≠K6 s c L)(h2:K6 s c k=K6 s c L):(k:Int)=Q6 s c L:=by
 obtain⟨e1,e2,e3⟩:=GM h L hL
 rcases Nat.lt_trichotomy k (Q6 s c L)with h3|h3|h3
 ·exact absurd h2 (e3 k h3)
 ·rw[h3]
 ·exact absurd e2 (h1 _ h3)
end Go.Proofs.YtiphlhoclaogjaaGreatDoor
