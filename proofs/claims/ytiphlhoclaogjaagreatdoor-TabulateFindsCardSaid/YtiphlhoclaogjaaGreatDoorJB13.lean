/- Chapter 2: values that a row can have, at all levels. Draws: values, rows and picks, and that they are right. Chapter 2: when a coarser level divides as a finer one does. Chapter 2: the least level of a column of a drawn schema. -/
import Derived.Test.YtiphlhoclaogjaaGreatDoorJB12
import Derived.Test.YtiphlhoclaogjaaGreatDoorJCd1
import Derived.Test.YtiphlhoclaogjaaGreatDoorJSx
set_option linter.unusedVariables false
set_option linter.unnecessarySimpa false
set_option linter.unusedSimpArgs false
set_option maxHeartbeats 64000000
namespace Go.Proofs.YtiphlhoclaogjaaGreatDoor
open Go Go.Av
attribute [local irreducible] C9 B3 C8 D1 DQ D0 C7 St.le A3 B8
set_option maxRecDepth 100000
def Hf(ws:List Int)(lv:Nat):Int:=ws.getD (ws.length-lv) 0
def eD(ws:List Int):Bool:=decide (1≤ws.length) && decide (ws.length≤4) && decide (Hf ws ws.length=1) && ((List.range 5).all fun a=>(List.range (a+1)).all fun b=>decide (b=0) || decide (ws.length<a) || (decide (1≤Hf ws a∧Hf ws a≤20) && decide (1≤Hf ws b∧Hf ws b≤20) && decide (Hf ws b=Hf ws a*(Hf ws b / Hf ws a)∧1≤Hf ws b / Hf ws a)))
theorem Tz:FU.all eD=true:=by decide +kernel
theorem KC{c:D3}{lv:Nat}(h:lv≤c.widths.length):B1 c lv=Hf c.widths lv:=by
 unfold B1 Hf
 congr 1
 omega
theorem Pl{c:D3}{nm:List UInt8}(h:R8 c nm):1≤c.widths.length∧c.widths.length≤4∧B1 c c.widths.length=1:=by
 have h1:=List.all_eq_true.1 Tz _ h.wid
 simp only[eD,Bool.and_eq_true,decide_eq_true_eq]at h1
 rw[KC (Nat.le_refl _)]
 exact⟨h1.1.1.1,h1.1.1.2,h1.1.2⟩
theorem q8{c:D3}{nm:List UInt8}(h:R8 c nm){a b:Nat}(hb:1≤b)(vz:b≤a)(ha:a≤c.widths.length):(1≤B1 c a∧B1 c a≤20)∧(1≤B1 c b∧B1 c b≤20)∧∃m,1≤m∧B1 c b=B1 c a*m:=by
 have h1:=List.all_eq_true.1 Tz _ h.wid
 simp only[eD,Bool.and_eq_true,decide_eq_true_eq,List.all_eq_true,List.mem_range,Bool.or_eq_true]at h1
 have h2:=h1.2 a (by omega) b (by omega)
 rw[KC ha,KC (by omega)]
 rcases h2 with (h2|h2)|h2
 ·omega
 ·omega
 ·exact⟨h2.1.1,h2.1.2,_,h2.2.2,h2.2.1⟩
theorem b5(v:Int){w:Int}:C6 v w=w*(v / w):=by
 have:=Int.mul_ediv_add_emod v w
 unfold C6
 omega
theorem bM(v:Int):C6 v 1=v:=by unfold C6;omega
theorem UA(v:Int){w m:Int}(hw:1≤w)(hm:1≤m):C6 (C6 v w) (w*m)=C6 v (w*m):=by
 rw[b5,b5,b5]
 congr 1
 rw[Int.mul_ediv_mul_of_pos _ _ (by omega:(0:Int)<w),Int.ediv_ediv_of_nonneg (by omega)]
theorem CD{x v w:Int}(hw:1≤w)(h1:C6 v w≤x)(h2:x<C6 v w+w):C6 x w=C6 v w:=by
 rw[b5]at h1 h2
 rw[b5,b5]
 congr 1
 have e:x=(x-w*(v / w))+w*(v / w):=by omega
 rw[e,Int.add_mul_ediv_left _ _ (by omega:w≠0),Int.ediv_eq_zero_of_lt (by omega) (by omega)]
 omega
theorem RC{x v w m:Int}(hw:1≤w)(hm:1≤m)(h1:C6 v w≤x)(h2:x<C6 v w+w):C6 x (w*m)=C6 v (w*m):=by
 rw[←UA x hw hm,CD hw h1 h2,UA v hw hm]
def CJ(c:D3)(v:Int):Prop:=(c.low≤v∧v≤c.high)∨(c.opt=true∧v=(-1099511627776))
theorem N7{s:A4}{c:D3}{nm:List UInt8}(h:R8 c nm){v:Int}(hv:CJ c v)(lv:Int):Q1 s c lv v=if lv=0 then 0 else if v=(-1099511627776)then (-1099511627776)else C6 v (B1 c lv):=by
 have hk:=h.kind
 have h1:=h.low
 have h2:=h.high
 unfold Q1
 rw[if_neg (by omega),if_neg]
 rcases hv with hv|hv<;>omega
theorem eE{s:A4}{c:D3}{nm:List UInt8}(h:R8 c nm){v:Int}(hv:CJ c v){a b:Nat}(vz:b≤a)(ha:a≤c.widths.length):CA c a (Q1 s c a v) b=(Q1 s c b v,true):=by
 have hl:=h.low
 have hh:=h.high
 rw[N7 h hv,N7 h hv]
 by_cases ha0:a=0
 ·subst ha0
  have ox:b=0:=by omega
  subst ox
  simp[CA,M2]
 ·by_cases hm:v=(-1099511627776)
  ·have ho:c.opt=true:=by
    rcases hv with hv|hv
    ·omega
    ·exact hv.1
   rw[if_neg (by omega),if_pos hm]
   unfold CA
   rw[if_pos ⟨by omega,rfl⟩,ho]
   by_cases ox:b=0
   ·subst ox;simp
   ·rw[if_neg (by omega),if_neg (by omega),if_pos hm]
  ·have ob:c.low≤v∧v≤c.high:=by
    rcases hv with hv|hv
    ·exact hv
    ·exact absurd hv.2 hm
   rw[if_neg (by omega),if_neg hm,if_neg hm]
   obtain⟨hw,_,_⟩:=q8 h (a:=a) (b:=a) (by omega) (Nat.le_refl _) ha
   have hd:=W3 v hw.1
   have qm:=CD hw.1 (Int.le_refl _) (show C6 v (B1 c a)<C6 v (B1 c a)+B1 c a by omega)
   have un:M2 c a (C6 v (B1 c a))=(max (C6 v (B1 c a)) c.low,min (C6 v (B1 c a)+B1 c a-1) c.high,true):=by
    unfold M2
    rw[if_neg (by omega),if_neg (by omega),qm]
    have:max (C6 v (B1 c a)) c.low≤min (C6 v (B1 c a)+B1 c a-1) c.high:=by omega
    simp[this]
   unfold CA
   rw[if_neg (by omega),un]
   simp only[Bool.true_eq_false,if_false]
   by_cases ox:b=0
   ·subst ox;simp
   ·rw[if_neg (by omega),if_neg (by omega),if_neg (by omega)]
    obtain⟨_,_,m,hm1,sH⟩:=q8 h (a:=a) (b:=b) (by omega) vz ha
    have e1:=RC (x:=max (C6 v (B1 c a)) c.low) (v:=v) hw.1 hm1 (by omega) (by omega)
    have e2:=RC (x:=min (C6 v (B1 c a)+B1 c a-1) c.high) (v:=v) hw.1 hm1 (by omega) (by omega)
    rw[sH,e1,e2]
    simp
theorem eF{s:A4}{c:D3}{nm:List UInt8}(h:R8 c nm){v:Int}(hv:CJ c v):Q1 s c c.widths.length v=v:=by
 obtain⟨h1,h2,h3⟩:=Pl h
 rw[N7 h hv,if_neg (by omega),h3,bM]
 split
 ·rename_i e;exact e.symm
 ·rfl
def Pm(cs:List Code):Bool:=(H1 G0 cs (C5 G0 cs-1)).all fun v=>Y8 cs v && decide (L3 G0 cs v (C5 G0 cs-1)=v) && decide (L3 G0 cs v 0=0) && ((List.range (C5 G0 cs).toNat).all fun a=>(List.range (a+1)).all fun b=>decide (EV G0 cs a (L3 G0 cs v a) b=(L3 G0 cs v b,true)))
theorem UB:OG.all Pm=true:=by decide +kernel
theorem UC{a b:List UInt8}(h:D6 a=D6 b)(cs:List Code)(fr v to:Int):∀(l:List Nat) (out:Int) (sm:Bool),Ag a cs fr v to l out sm=Ag b cs fr v to l out sm
 |[],out,sm=>rfl
 |x::r,out,sm=>by simp only[Ag,Ty h,UC h cs fr v to r]
theorem eG{a b:List UInt8}(h:D6 a=D6 b)(cs:List Code)(fr v to:Int):EV a cs fr v to=EV b cs fr v to:=by
 unfold EV
 rw[He h,Df h,UC h]
theorem E4.lst{s:A4}(h:E4 s){c:D3}(hc:c=KB∨c=Tv):(C2 s c).2∈OG∧D6 (C2 s c).1=D6 G0∧(C2 s c).2.length≤10:=by
 obtain⟨l1,l2,m1,m2,e⟩:=h.ls
 rcases hc with rfl|rfl
 ·have:C2 s KB=(G0,l1):=by unfold C2;rw[e];rfl
  rw[this];exact⟨m1,rfl,(Ek m1).len⟩
 ·have:C2 s Tv=(Ep,l2):=by unfold C2;rw[e];rfl
  rw[this];exact⟨m2,kp,(Ek m2).len⟩
def u9(s:A4)(c:D3)(v:Int):Prop:=(c.kind=1∧1≤v∧v≤60)∨(c.kind=2∧∃n:Nat,v=n∧n∈H1 (C2 s c).1 (C2 s c).2 (C5 (C2 s c).1 (C2 s c).2-1))∨(c.kind=3∧CJ c v)
structure eH(s:A4)(c:D3)(n:Nat):Prop where
 fin:M1 s c=n
 le:n≤4
 top:∀v,u9 s c v→Q1 s c n v=v
 zero:∀v,u9 s c v→Q1 s c 0 v=0
 turn:∀v,u9 s c v→∀a b:Nat,b≤a→a≤n→(if c.kind=2 then EV (C2 s c).1 (C2 s c).2 a (Q1 s c a v) b else CA c a (Q1 s c a v) b)=(Q1 s c b v,true)
theorem E4.facts{s:A4}(h:E4 s){i:Nat}{c:D3}(hi:0<i)(hc:s.cols[i]?=some c):∃n,eH s c n:=by
 rcases h.col hc with ⟨rfl,_⟩|⟨_,qf⟩|⟨_,nm,hm⟩
 ·omega
 ·obtain⟨hf,qZ,nM⟩:=h.lst qf
  have hk:c.kind=2:=by rcases qf with rfl|rfl<;>rfl
  have qY:=Ek hf
  have pX:=Df qZ (C2 s c).2
  have ht:=List.all_eq_true.1 UB _ hf
  simp only[Pm,Bool.and_eq_true,decide_eq_true_eq,List.all_eq_true,List.mem_range]at ht
  obtain⟨n,hn⟩:=Int.eq_ofNat_of_zero_le (show 0≤C5 G0 (C2 s c).2-1 by have:=qY.lv;omega)
  have ok:∀v,u9 s c v→∃j:Nat,v=j∧j∈H1 G0 (C2 s c).2 n:=by
   rintro v (⟨h1,_⟩|⟨_,j,h1,h2⟩|⟨h1,_⟩)
   ·omega
   ·exact⟨j,h1,by rw[←hn,←pX,←He qZ];exact h2⟩
   ·omega
  have coa:∀j:Nat,j∈H1 G0 (C2 s c).2 n→∀lv:Int,Q1 s c lv j=L3 G0 (C2 s c).2 j lv:=by
   intro j hj lv
   have h1:=qY.mem j (by rw[hn];exact hj)
   have h2:=(ht j (by rw[hn];exact hj)).1.1.1
   unfold Q1
   rw[if_pos hk,Ty qZ,if_pos]
   unfold Bx
   rw[if_neg (by omega),if_pos hk,h2]
   simp;omega
  refine⟨n,⟨?_,?_,?_,?_,?_⟩⟩
  ·unfold M1;rw[if_pos hk,pX,hn]
  ·have:=qY.lv;omega
  ·intro v hv
   obtain⟨j,rfl,hj⟩:=ok v hv
   rw[coa j hj,←hn]
   exact(ht j (by rw[hn];exact hj)).1.1.2
  ·intro v hv
   obtain⟨j,rfl,hj⟩:=ok v hv
   rw[coa j hj]
   exact(ht j (by rw[hn];exact hj)).1.2
  ·intro v hv a b vz ha
   obtain⟨j,rfl,hj⟩:=ok v hv
   rw[if_pos hk,coa j hj,coa j hj,eG qZ]
   exact(ht j (by rw[hn];exact hj)).2 a (by omega) b (by omega)
 ·have hk:=hm.kind
  have ok:∀v,u9 s c v→CJ c v:=by
   rintro v (⟨h1,_⟩|⟨h1,_⟩|⟨_,h1⟩)
   ·omega
   ·omega
   ·exact h1
  refine⟨c.widths.length,⟨?_,(Pl hm).2.1,?_,?_,?_⟩⟩
  ·unfold M1;rw[if_neg (by omega)]
  ·intro v hv;exact eF hm (ok v hv)
  ·intro v hv;rw[N7 hm (ok v hv),if_pos rfl]
  ·intro v hv a b vz ha
   rw[if_neg (by omega)]
   exact eE hm (ok v hv) vz ha
theorem E4.chain{s:A4}(h:E4 s){i:Nat}{c:D3}(hi:0<i)(hc:s.cols[i]?=some c):∃n:Nat,B4 s i=n∧n≤4∧∀v,u9 s c v→G1 s i n v=v∧G1 s i 0 v=0∧∀a b:Nat,b≤a→a≤n→OM s i a (G1 s i a v) b=(G1 s i b v,true):=by
 obtain⟨n,hf⟩:=h.facts hi hc
 have nN:=E9 hc
 have nY:B6 s i=c:=B9 (by simpa using hc)
 have vH:E6 s i=n:=by unfold E6;rw[if_neg (by omega),nY];exact hf.fin
 have vN:B4 s i=n:=by unfold B4;rw[if_pos h.ok];exact vH
 have coa:∀(lv:Nat) v,lv≤n→G1 s i lv v=Q1 s c lv v:=by
  intro lv v pX
  unfold G1
  rw[vN,if_neg (by omega),nY]
 refine⟨n,vN,hf.le,fun v hv=>⟨?_,?_,?_⟩⟩
 ·rw[coa n v (Nat.le_refl _)];exact hf.top v hv
 ·have:=coa 0 v (Nat.zero_le _)
  rw[show ((0:Nat):Int)=0 from rfl]at this
  rw[this];exact hf.zero v hv
 ·intro a b vz ha
  have ht:=hf.turn v hv a b vz ha
  rw[coa a v ha,coa b v (by omega)]
  unfold OM U2
  rw[if_pos h.ok,vH,if_neg (by omega),nY,ht]
  simp
def AM(l:List UInt8)(a:Nat)(s:A4)(k:Int):Int×Nat :=
 let c:=B6 s k
 if c.kind=1 then (1+((C1 l a 60).1:Int),(C1 l a 60).2)
 else if c.kind=2 then ((((F9 s k).getD (C1 l a (F9 s k).length).1 0:Nat):Int),(C1 l a (F9 s k).length).2)
 else if c.opt=true then
  (if ((C1 l a 4).1:Int)=3 then ((-1099511627776),(C1 l a 4).2)else (c.low+((C1 l (C1 l a 4).2 (c.high-c.low+1)).1:Int),(C1 l (C1 l a 4).2 (c.high-c.low+1)).2))
 else (c.low+((C1 l a (c.high-c.low+1)).1:Int),(C1 l a (c.high-c.low+1)).2)
def rowFrom(l:List UInt8)(s:A4):Nat→List Int×Nat→Nat→List Int×Nat
 |_,x,0=>x
 |k,x,n+1=>rowFrom l s (k+1) (x.1++[(AM l x.2 s k).1],(AM l x.2 s k).2) n
def o7(l:List UInt8)(a:Nat)(s:A4):List Int×Nat:=rowFrom l s 0 ([],a) s.cols.length
theorem E4.lvs{s:A4}(h:E4 s){i:Nat}{c:D3}(hc:s.cols[i]?=some c)(hk:c.kind=2):(0≤c.lst∧c.lst<s.lists.length)∧F9 s i=H1 (C2 s c).1 (C2 s c).2 (C5 (C2 s c).1 (C2 s c).2-1)∧1≤(F9 s i).length∧(F9 s i).length≤10:=by
 have nY:B6 s i=c:=B9 (by simpa using hc)
 have e:F9 s i=H1 (C2 s c).1 (C2 s c).2 (C5 (C2 s c).1 (C2 s c).2-1):=by unfold F9;rw[nY]
 rcases h.col hc with ⟨_,rfl⟩|⟨_,qf⟩|⟨_,nm,hm⟩
 ·cases hk
 ·obtain⟨hf,qZ,nM⟩:=h.lst qf
  have qY:=(Ek hf).at'
  refine⟨?_,e,?_⟩
  ·rw[h.lens.1];rcases qf with rfl|rfl<;>decide
  ·rw[e,Df qZ,He qZ];exact qY
 ·have:=hm.kind;omega
theorem Wy{s:A4}(h:E4 s)(l:List UInt8)(a:Nat){i:Nat}{c:D3}(hc:s.cols[i]?=some c):u9 s c (AM l a s i).1:=by
 have nY:B6 s i=c:=B9 (by simpa using hc)
 unfold AM
 rw[nY]
 rcases h.col hc with ⟨_,rfl⟩|⟨_,qf⟩|⟨_,nm,hm⟩
 ·have:=I4 l a (n:=60) (by omega)
  exact .inl ⟨rfl,by simp only[Tu,if_true];omega⟩
 ·have hk:c.kind=2:=by rcases qf with rfl|rfl<;>rfl
  obtain⟨_,h1,h2,h3⟩:=h.lvs hc hk
  have hn:=I4 l a (n:=(F9 s i).length) (by omega)
  dsimp only
  rw[if_neg (by omega),if_pos hk]
  have nN:(C1 l a (F9 s i).length).1<(F9 s i).length:=by omega
  refine .inr (.inl ⟨hk,_,rfl,?_⟩)
  rw[←h1,D7 (List.getElem?_eq_getElem nN)]
  exact List.getElem_mem nN
 ·have hk:=hm.kind
  have hh:=hm.high
  have n1:=I4 l a (n:=c.high-c.low+1) (by omega)
  have n2:=I4 l (C1 l a 4).2 (n:=c.high-c.low+1) (by omega)
  dsimp only
  rw[if_neg (by omega),if_neg (by omega)]
  refine .inr (.inr ⟨hk,?_⟩)
  split
  ·split
   ·exact .inr ⟨by assumption,rfl⟩
   ·exact .inl ⟨by dsimp only;omega,by dsimp only;omega⟩
  ·exact .inl ⟨by dsimp only;omega,by dsimp only;omega⟩
theorem UD(x:Int){w:Int}(hw:1≤w):(x+1) / w=x / w+(if (x+1) % w=0 then 1 else 0):=by
 have h1:=Int.mul_ediv_add_emod x w
 have h2:=Int.emod_nonneg x (b:=w) (by omega)
 have h3:=Int.emod_lt_of_pos x (b:=w) (by omega)
 by_cases h:x % w+1=w
 ·have e:x+1=w*(x / w+1):=by rw[Int.mul_add,Int.mul_one];omega
  have e2:(x+1) % w=0:=by rw[e];exact Int.mul_emod_right w _
  have e3:(x+1) / w=x / w+1:=by rw[e];exact Int.mul_ediv_cancel_left _ (by omega)
  rw[if_pos e2,e3]
 ·have e:x+1=(x % w+1)+w*(x / w):=by omega
  have e3:(x+1) / w=x / w:=by
   rw[e,Int.add_mul_ediv_left _ _ (by omega:w≠0),Int.ediv_eq_zero_of_lt (by omega) (by omega)]
   omega
  have e2:(x+1) % w=x % w+1:=by
   have:=Int.mul_ediv_add_emod (x+1) w
   rw[e3]at this
   omega
  rw[if_neg (by omega),e3]
  omega
def Hg(low high w W:Int):Prop:=∀t,low<t→t≤high→t % w=0→t % W=0
theorem Ye{t w m:Int}(h:t % (w*m)=0):t % w=0:=by
 have:=Int.dvd_of_emod_eq_zero h
 exact Int.emod_eq_zero_of_dvd (Int.dvd_trans (Int.dvd_mul_right w m) this)
theorem cnt{w m:Int}(hw:1≤w)(hm:1≤m)(low:Int):∀j:Nat,(low+j) / (w*m)-low / (w*m)≤(low+j) / w-low / w∧((low+j) / (w*m)-low / (w*m)=(low+j) / w-low / w↔Hg low (low+j) w (w*m))
 |0=>⟨by simp,by
   constructor
   ·intro _ t h1 h2;omega
   ·intro _;simp⟩
 |j+1=>by
  obtain⟨h1,h2⟩:=cnt hw hm low j
  have hW:1≤w*m:=by
   have:=Int.mul_le_mul hw hm (by omega) (by omega)
   simpa using this
  have e:low+((j+1:Nat):Int)=(low+j)+1:=by omega
  rw[e,UD _ hw,UD _ hW]
  have ext:Hg low (low+j+1) w (w*m)↔Hg low (low+j) w (w*m)∧((low+j+1) % w=0→(low+j+1) % (w*m)=0):=by
   constructor
   ·intro h
    exact⟨fun t h3 h4=>h t h3 (by omega),fun h3=>h _ (by omega) (by omega) h3⟩
   ·rintro ⟨h3,h4⟩ t h5 h6 h7
    by_cases h8:t=low+j+1
    ·subst h8;exact h4 h7
    ·exact h3 t h5 (by omega) h7
  rw[ext,←h2]
  by_cases ha:(low+j+1) % w=0
  ·by_cases hb:(low+j+1) % (w*m)=0
   ·rw[if_pos ha,if_pos hb]
    exact⟨by omega,by constructor<;>(intro h;first|exact⟨by omega,fun _=>hb⟩|(have:=h.1;omega))⟩
   ·rw[if_pos ha,if_neg hb]
    exact⟨by omega,by constructor<;>(intro h;first|(exfalso;omega)|exact absurd (h.2 ha) hb)⟩
  ·have hb:¬(low+j+1) % (w*m)=0:=fun h=>ha (Ye h)
   rw[if_neg ha,if_neg hb]
   exact⟨by omega,by constructor<;>(intro h;first|exact⟨by omega,fun h=>absurd h ha⟩|(have:=h.1;omega))⟩
theorem Pn{w m low high:Int}(hw:1≤w)(hm:1≤m)(h:low≤high):high / (w*m)-low / (w*m)≤high / w-low / w∧(high / (w*m)-low / (w*m)=high / w-low / w↔Hg low high w (w*m)):=by
 obtain⟨j,hj⟩:=Int.eq_ofNat_of_zero_le (show 0≤high-low by omega)
 have:=cnt hw hm low j
 rwa[show low+(j:Int)=high by omega]at this
def Dg(low high w W:Int):Bool:=decide (high<(low / w+1)*w) || (decide (((low / w+1)*w).tmod W=0) && (decide (high<(low / w+1)*w+w) || decide (((low / w+1)*w+w).tmod W=0)))
theorem ij{t W:Int}:t.tmod W=0↔t % W=0:=by
 constructor
 ·intro h;exact Int.emod_eq_zero_of_dvd (Int.dvd_of_tmod_eq_zero h)
 ·intro h;exact Int.tmod_eq_zero_of_dvd (Int.dvd_of_emod_eq_zero h)
theorem eI{w m low high:Int}(hw:1≤w)(hm:1≤m):Dg low high w (w*m)=true↔Hg low high w (w*m):=by
 have hd:=Int.mul_ediv_add_emod low w
 have qa:=Int.emod_nonneg low (b:=w) (by omega)
 have rh:=Int.emod_lt_of_pos low (b:=w) (by omega)
 have ef:(low / w+1)*w=w*(low / w)+w:=by rw[Int.add_mul,Int.mul_comm];omega
 have fm:((low / w+1)*w) % w=0:=by rw[Int.mul_comm];exact Int.mul_emod_right w _
 have gm:((low / w+1)*w+w) % w=0:=by
  rw[show (low / w+1)*w+w=w*(low / w+1+1) by rw[Int.mul_add,Int.mul_comm w (low / w+1)];omega]
  exact Int.mul_emod_right w _
 have geF:∀t,low<t→t % w=0→t=(low / w+1)*w∨(low / w+1)*w+w≤t:=by
  intro t h1 h2
  obtain⟨q,rfl⟩:=Int.dvd_of_emod_eq_zero h2
  have h3:low / w<q:=by
   rcases Int.lt_or_le (low / w) q with h|h
   ·exact h
   ·have:=Int.mul_le_mul_of_nonneg_left h (show 0≤w by omega);omega
  by_cases h4:q=low / w+1
  ·left;rw[h4,Int.mul_comm]
  ·right
   have:=Int.mul_le_mul_of_nonneg_left (show low / w+1+1≤q by omega) (show 0≤w by omega)
   rw[Int.mul_add,Int.mul_add]at this
   omega
 unfold Dg
 simp only[Bool.or_eq_true,Bool.and_eq_true,decide_eq_true_eq,ij]
 constructor
 ·intro h t h1 h2 h3
  rcases h with h|⟨h,h4⟩
  ·rcases geF t h1 h3 with h5|h5<;>omega
  ·rcases geF t h1 h3 with h5|h5
   ·rw[h5];exact h
   ·rcases h4 with h4|h4
    ·omega
    ·have d1:=Int.dvd_of_emod_eq_zero h
     have d2:=Int.dvd_of_emod_eq_zero h4
     have d3:w*m ∣ w:=by
      have:=Int.dvd_sub d2 d1
      rwa[show (low / w+1)*w+w-(low / w+1)*w=w by omega]at this
     exact Int.emod_eq_zero_of_dvd (Int.dvd_trans d3 (Int.dvd_of_emod_eq_zero h3))
 ·intro h
  by_cases h1:high<(low / w+1)*w
  ·exact .inl h1
  ·refine .inr ⟨h _ (by omega) (by omega) fm,?_⟩
   by_cases h2:high<(low / w+1)*w+w
   ·exact .inl h2
   ·exact .inr (h _ (by omega) (by omega) gm)
def Yf(f g:Int→Int)(l:List Int):Prop:=∀x∈l,∀y∈l,f x≠f y→g x≠g y
theorem eJ{w m low high:Int}(hw:1≤w)(hm:1≤m)(sY:low≤high):(∀x y,low≤x→x≤high→low≤y→y≤high→C6 x w≠C6 y w→C6 x (w*m)≠C6 y (w*m))↔Hg low high w (w*m):=by
 have hW:1≤w*m:=by
  have:=Int.mul_le_mul hw hm (by omega) (by omega)
  simpa using this
 constructor
 ·intro h t h1 h2 h3
  refine Classical.byContradiction fun h4=>?_
  have e1:C6 t w=t:=by unfold C6;omega
  have b1:=W3 (t-1) hw
  have b2:=W3 t hW
  have e2:C6 t (w*m)≤t-1:=by
   have:=Int.emod_nonneg t (b:=w*m) (by omega)
   unfold C6;omega
  have e3:C6 (t-1) (w*m)=C6 t (w*m):=CD hW e2 (by omega)
  exact h t (t-1) (by omega) h2 (by omega) (by omega) (by omega) e3.symm
 ·intro h
  have key:∀x y,low≤x→y≤high→x<y→C6 x w≠C6 y w→C6 x (w*m)≠C6 y (w*m):=by
   intro x y h1 h2 h3 h4
   have b1:=W3 y hw
   have b3:=W3 x hW
   have hx:x<C6 y w:=by
    rcases Int.lt_or_le x (C6 y w)with h5|h5
    ·exact h5
    ·exact absurd (CD hw h5 (by omega)) h4
   have h6:C6 y w % w=0:=by rw[b5];exact Int.mul_emod_right w _
   have h7:=h (C6 y w) (by omega) (by omega) h6
   have h8:C6 (C6 y w) (w*m)=C6 y w:=by unfold C6 at h7 ⊢;omega
   have h9:=OK hW b1.2
   omega
  intro x y h1 h2 h3 h4 h5 h6
  rcases Int.lt_trichotomy x y with h7|h7|h7
  ·exact key x y h1 h4 h7 h5 h6
  ·exact h5 (by rw[h7])
  ·exact key y x h3 h2 h7 (Ne.symm h5) h6.symm
theorem Aj{s:A4}{c:D3}{nm:List UInt8}(h:R8 c nm){L:Nat}(h1:1≤L)(h2:L≤c.widths.length):K6 s c L=c.high / B1 c L-c.low / B1 c L+1+(if c.opt=true then 1 else 0):=by
 obtain⟨hw,_,_⟩:=q8 h (a:=L) (b:=L) h1 (Nat.le_refl _) h2
 have hk:=h.kind
 unfold K6
 rw[if_neg (by omega),if_neg (by omega),b5,b5,←Int.mul_sub,Int.mul_ediv_cancel_left _ (by omega)]
theorem Gf{s:A4}{c:D3}{nm:List UInt8}(h:R8 c nm):K6 s c 0=1:=by
 have hk:=h.kind
 unfold K6
 rw[if_neg (by omega),if_pos rfl]
theorem KD{a b w:Int}(hw:1≤w)(h:a≤b):a / w≤b / w:=Int.ediv_le_ediv (by omega) h
theorem bN{s:A4}{c:D3}{nm:List UInt8}(h:R8 c nm){o L:Nat}(ho:o≤L)(hL:L≤c.widths.length):K6 s c o≤K6 s c L:=by
 have hh:=h.high
 by_cases h0:o=0
 ·subst h0
  rw[show ((0:Nat):Int)=0 from rfl,Gf h]
  by_cases vc:L=0
  ·subst vc;rw[show ((0:Nat):Int)=0 from rfl,Gf h];omega
  ·obtain⟨hw,_,_⟩:=q8 h (a:=L) (b:=L) (by omega) (Nat.le_refl _) hL
   rw[Aj h (by omega) hL]
   have:=KD hw.1 hh.1
   split<;>omega
 ·obtain⟨hw,_,m,hm,e⟩:=q8 h (a:=L) (b:=o) (by omega) ho hL
  rw[Aj h (by omega) hL,Aj h (by omega) (by omega),e]
  have:=(Pn hw.1 hm hh.1).1
  omega
def UE(c:D3):List Int:=(List.range (c.high-c.low+1).toNat).map (fun i:Nat=>c.low+(i:Int))++(if c.opt=true then [(-1099511627776)]else [])
theorem Bn{c:D3}{v:Int}:v∈UE c↔CJ c v:=by
 unfold UE CJ
 rw[List.mem_append,List.mem_map]
 constructor
 ·rintro (⟨i,hi,rfl⟩|h)
  ·rw[List.mem_range]at hi;left;omega
  ·split at h
   ·rename_i ho;simp at h;exact .inr ⟨ho,h⟩
   ·cases h
 ·rintro (h|⟨h1,h2⟩)
  ·exact .inl ⟨(v-c.low).toNat,by rw[List.mem_range];omega,by omega⟩
  ·right;rw[if_pos h1,h2];simp
theorem eK{s:A4}{c:D3}{nm:List UInt8}(h:R8 c nm){o L:Nat}(ho:o≤L)(hL:L≤c.widths.length):Yf (Q1 s c L) (Q1 s c o) (UE c)↔K6 s c o=K6 s c L:=by
 have hl:=h.low
 have hh:=h.high
 have sY:CJ c c.low:=.inl (by omega)
 have rn:CJ c c.high:=.inl (by omega)
 by_cases hoL:o=L
 ·subst hoL
  exact⟨fun _=>rfl,fun _ x _ y _ h=>h⟩
 obtain⟨hw,_,_⟩:=q8 h (a:=L) (b:=L) (by omega) (Nat.le_refl _) hL
 have st:=fun v (hv:c.low≤v∧v≤c.high)=>W3 v hw.1
 by_cases h0:o=0
 ·subst h0
  rw[Aj h (by omega) hL,show ((0:Nat):Int)=0 from rfl,Gf h]
  have qC:=KD hw.1 hh.1
  constructor
  ·intro hd
   have z:∀x y,CJ c x→CJ c y→Q1 s c L x=Q1 s c L y:=by
    intro x y hx hy
    refine Classical.byContradiction fun hne=>hd x (Bn.2 hx) y (Bn.2 hy) hne ?_
    rw[N7 h hx,N7 h hy,if_pos rfl,if_pos rfl]
   have nf:¬c.opt=true:=by
    intro tC
    have:=z c.low ((-1099511627776)) sY (.inr ⟨tC,rfl⟩)
    rw[N7 h sY,N7 h (.inr ⟨tC,rfl⟩),if_neg (by omega),if_neg (by omega),if_neg (by omega),if_pos rfl]at this
    have:=st c.low (by omega)
    omega
   have:=z c.low c.high sY rn
   rw[N7 h sY,N7 h rn,if_neg (by omega),if_neg (by omega),if_neg (by omega),if_neg (by omega),b5,b5]at this
   have e:c.low / B1 c L=c.high / B1 c L:=Int.eq_of_mul_eq_mul_left (show B1 c L≠0 by omega) this
   rw[if_neg nf,e];omega
  ·intro he x hx y hy hne
   exfalso
   apply hne
   have nf:¬c.opt=true:=by
    intro tC;rw[if_pos tC]at he;omega
   rw[if_neg nf]at he
   have e:c.low / B1 c L=c.high / B1 c L:=by omega
   have z:∀x,CJ c x→Q1 s c L x=B1 c L*(c.low / B1 c L):=by
    intro x hx
    have qA:c.low≤x∧x≤c.high:=by
     rcases hx with hx|hx
     ·exact hx
     ·exact absurd hx.1 nf
    rw[N7 h hx,if_neg (by omega),if_neg (by omega),b5]
    have h1:=KD hw.1 qA.1
    have h2:=KD hw.1 qA.2
    congr 1
    omega
   rw[z x (Bn.1 hx),z y (Bn.1 hy)]
 ·obtain⟨_,hW,m,hm,e⟩:=q8 h (a:=L) (b:=o) (by omega) ho hL
  rw[Aj h (by omega) hL,Aj h (by omega) (by omega)]
  have hc:=(Pn hw.1 hm hh.1).2
  have yN:=eJ hw.1 hm hh.1
  rw[←e]at hc yN
  have e1:(c.high / B1 c o-c.low / B1 c o+1+(if c.opt=true then 1 else 0)=c.high / B1 c L-c.low / B1 c L+1+(if c.opt=true then 1 else 0))↔(c.high / B1 c o-c.low / B1 c o=c.high / B1 c L-c.low / B1 c L):=by
   constructor<;>intro h<;>omega
  rw[e1,hc,←yN]
  have coa:∀lv:Nat,1≤lv→∀x,c.low≤x→x≤c.high→Q1 s c lv x=C6 x (B1 c lv):=by
   intro lv pX x h1 h2
   rw[N7 h (.inl ⟨h1,h2⟩),if_neg (by omega),if_neg (by omega)]
  constructor
  ·intro hd x y h1 h2 h3 h4 h5
   have:=hd x (Bn.2 (.inl ⟨h1,h2⟩)) y (Bn.2 (.inl ⟨h3,h4⟩))
   rw[coa L (by omega) x h1 h2,coa L (by omega) y h3 h4,coa o (by omega) x h1 h2,coa o (by omega) y h3 h4]at this
   exact this h5
  ·intro hd x hx y hy hne
   have bW:=fun v (hv:c.low≤v∧v≤c.high)=>W3 v hW.1
   rcases Bn.1 hx with qA|qA<;>rcases Bn.1 hy with rP|rP
   ·rw[coa L (by omega) x qA.1 qA.2,coa L (by omega) y rP.1 rP.2]at hne
    rw[coa o (by omega) x qA.1 qA.2,coa o (by omega) y rP.1 rP.2]
    exact hd x y qA.1 qA.2 rP.1 rP.2 hne
   ·have:=bW x qA
    rw[coa o (by omega) x qA.1 qA.2,N7 h (.inr rP),if_neg (by omega),if_pos rP.2]
    omega
   ·have:=bW y rP
    rw[coa o (by omega) y rP.1 rP.2,N7 h (.inr qA),if_neg (by omega),if_pos qA.2]
    omega
   ·exfalso;apply hne;rw[qA.2,rP.2]
def l9(f g:Int→Int)(x y:Int):Bool:=!(decide (f x≠f y) && decide (g x=g y))
def divB(f g:Int→Int)(l:List Int):Bool:=(List.range l.length).all fun i=>(List.range i).all fun k=>l9 f g (l.getD i 0) (l.getD k 0)
theorem UF{f g:Int→Int}{l:List Int}:divB f g l=true↔Yf f g l:=by
 unfold divB Yf
 simp only[List.all_eq_true,List.mem_range]
 constructor
 ·intro h x hx y hy hne hg
  obtain⟨i,hi,rfl⟩:=List.getElem_of_mem hx
  obtain⟨k,hk,rfl⟩:=List.getElem_of_mem hy
  have g1:l.getD i 0=l[i]:=D7 (List.getElem?_eq_getElem hi)
  have g2:l.getD k 0=l[k]:=D7 (List.getElem?_eq_getElem hk)
  rcases Nat.lt_trichotomy i k with h1|h1|h1
  ·have:=h k hk i h1
   rw[g1,g2]at this
   simp[l9,Ne.symm hne,hg]at this
  ·subst h1;exact hne rfl
  ·have:=h i hi k h1
   rw[g1,g2]at this
   simp[l9,hne,hg]at this
 ·intro h i hi k hk
  have g1:l.getD i 0=l[i]:=D7 (List.getElem?_eq_getElem hi)
  have oL:k<l.length:=by omega
  have g2:l.getD k 0=l[k]:=D7 (List.getElem?_eq_getElem oL)
  rw[g1,g2]
  by_cases hne:f l[i]=f l[k]
  ·simp[l9,hne]
  ·have:=h _ (List.getElem_mem hi) _ (List.getElem_mem oL) hne
   simp[l9,this]
def Er(s:A4)(c:D3):List Int:=if c.kind=2 then (H1 (C2 s c).1 (C2 s c).2 (C5 (C2 s c).1 (C2 s c).2-1)).map fun n:Nat=>(n:Int)else UE c
structure UG(s:A4)(c:D3)(n:Nat):Prop where
 fin:M1 s c=n
 le:n≤4
 mono:∀o L:Nat,o≤L→L≤n→K6 s c o≤K6 s c L
 divs:∀o L:Nat,o≤L→L≤n→(Yf (Q1 s c L) (Q1 s c o) (Er s c)↔K6 s c o=K6 s c L)
def bO(cs:List Code):Bool:=(List.range (C5 G0 cs).toNat).all fun L=>(List.range (L+1)).all fun o=>decide ((H1 G0 cs o).length≤(H1 G0 cs L).length) && decide ((H1 G0 cs (C5 G0 cs-1)).all (fun x=>(H1 G0 cs (C5 G0 cs-1)).all fun y=>decide (L3 G0 cs x L=L3 G0 cs y L) || !(decide (L3 G0 cs x o=L3 G0 cs y o)))=decide ((H1 G0 cs o).length=(H1 G0 cs L).length))
theorem bP:OG.all bO=true:=by decide +kernel
theorem E4.blk{s:A4}(h:E4 s){i:Nat}{c:D3}(hi:0<i)(hc:s.cols[i]?=some c):∃n,UG s c n:=by
 rcases h.col hc with ⟨rfl,_⟩|⟨_,qf⟩|⟨_,nm,hm⟩
 ·omega
 ·obtain⟨hf,qZ,nM⟩:=h.lst qf
  have hk:c.kind=2:=by rcases qf with rfl|rfl<;>rfl
  have qY:=Ek hf
  have pX:=Df qZ (C2 s c).2
  have ht:=List.all_eq_true.1 UB _ hf
  simp only[Pm,Bool.and_eq_true,decide_eq_true_eq,List.all_eq_true,List.mem_range]at ht
  have hb:=List.all_eq_true.1 bP _ hf
  simp only[bO,List.all_eq_true,List.mem_range,Bool.and_eq_true,decide_eq_true_eq]at hb
  obtain⟨n,hn⟩:=Int.eq_ofNat_of_zero_le (show 0≤C5 G0 (C2 s c).2-1 by have:=qY.lv;omega)
  have coa:∀j:Nat,j∈H1 G0 (C2 s c).2 n→∀lv:Int,Q1 s c lv j=L3 G0 (C2 s c).2 j lv:=by
   intro j hj lv
   have h1:=qY.mem j (by rw[hn];exact hj)
   have h2:=(ht j (by rw[hn];exact hj)).1.1.1
   unfold Q1
   rw[if_pos hk,Ty qZ,if_pos]
   unfold Bx
   rw[if_neg (by omega),if_pos hk,h2]
   simp;omega
  have blk:∀lv:Int,K6 s c lv=(H1 G0 (C2 s c).2 lv).length:=by
   intro lv;unfold K6;rw[if_pos hk,He qZ]
  refine⟨n,⟨?_,?_,?_,?_⟩⟩
  ·unfold M1;rw[if_pos hk,pX,hn]
  ·have:=qY.lv;omega
  ·intro o L h1 h2
   have:=(hb L (by omega) o (by omega)).1
   rw[blk,blk];omega
  ·intro o L h1 h2
   have:=(hb L (by omega) o (by omega)).2
   rw[blk,blk]
   have e:Er s c=(H1 G0 (C2 s c).2 n).map fun n:Nat=>(n:Int):=by unfold Er;rw[if_pos hk,pX,He qZ,hn]
   rw[e]
   rw[hn]at this
   have e2:(((H1 G0 (C2 s c).2 o).length:Int)=((H1 G0 (C2 s c).2 L).length:Int))↔(H1 G0 (C2 s c).2 o).length=(H1 G0 (C2 s c).2 L).length:=by omega
   rw[e2,←decide_eq_true_iff (p:=(H1 G0 (C2 s c).2 o).length=(H1 G0 (C2 s c).2 L).length),←this]
   simp only[List.all_eq_true,Bool.or_eq_true,decide_eq_true_eq,Bool.not_eq_true',decide_eq_false_iff_not]
   constructor
   ·intro hd x hx y hy
    by_cases hxy:L3 G0 (C2 s c).2 x L=L3 G0 (C2 s c).2 y L
    ·exact .inl hxy
    ·have:=hd x (List.mem_map.2 ⟨x,hx,rfl⟩) y (List.mem_map.2 ⟨y,hy,rfl⟩)
     rw[coa x hx,coa y hy,coa x hx,coa y hy]at this
     exact .inr (this hxy)
   ·intro hd x hx y hy hne
    obtain⟨x',qA,rfl⟩:=List.mem_map.1 hx
    obtain⟨y',rP,rfl⟩:=List.mem_map.1 hy
    rw[coa x' qA,coa y' rP]at hne ⊢
    rcases hd x' qA y' rP with h3|h3
    ·exact absurd h3 hne
    ·exact h3
 ·have hk:=hm.kind
  have e:Er s c=UE c:=by unfold Er;rw[if_neg (by omega)]
  refine⟨c.widths.length,⟨?_,(Pl hm).2.1,fun o L h1 h2=>bN hm h1 h2,fun o L h1 h2=>by rw[e];exact eK hm h1 h2⟩⟩
  unfold M1;rw[if_neg (by omega)]
theorem Lo{s:A4}{c:D3}{n:Nat}(h:UG s c n):∀L:Nat,L≤n→e8 s c L≤L∧K6 s c (e8 s c L:Nat)=K6 s c L∧∀o:Nat,o<e8 s c L→K6 s c o≠K6 s c L
 |0,_=>⟨Nat.le_refl _,rfl,fun o ho=>absurd ho (Nat.not_lt_zero _)⟩
 |L+1,hL=>by
  unfold e8
  by_cases he:K6 s c L=K6 s c (L+1:Nat)
  ·rw[if_pos he]
   obtain⟨h1,h2,h3⟩:=Lo h L (by omega)
   exact⟨by omega,by rw[h2,he],fun o ho=>by rw[←he];exact h3 o ho⟩
  ·rw[if_neg he]
   refine⟨Nat.le_refl _,rfl,fun o ho heo=>?_⟩
   have h1:=h.mono o L (by omega) (by omega)
   have h2:=h.mono L (L+1) (by omega) hL
   omega
theorem UH{s:A4}{c:D3}{n:Nat}(h:UG s c n){L k:Nat}(hL:L≤n)(h1:∀o:Nat,o<k→K6 s c o≠K6 s c L)(h2:K6 s c k=K6 s c L):(k:Int)=e8 s c L:=by
 obtain⟨e1,e2,e3⟩:=Lo h L hL
 rcases Nat.lt_trichotomy k (e8 s c L)with h3|h3|h3
 ·exact absurd h2 (e3 k h3)
 ·rw[h3]
 ·exact absurd e2 (h1 _ h3)
end Go.Proofs.YtiphlhoclaogjaaGreatDoor
