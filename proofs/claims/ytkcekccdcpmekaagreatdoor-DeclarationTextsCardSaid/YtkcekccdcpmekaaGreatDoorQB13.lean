/- Chapter 2: values that a row can have, at all levels. Draws: values, rows and picks, and that they are right. Chapter 2: when a coarser level divides as a finer one does. Chapter 2: the least level of a column of a drawn schema. -/
import Derived.Test.YtkcekccdcpmekaaGreatDoorQB12
import Derived.Test.YtkcekccdcpmekaaGreatDoorQB8
import Derived.Test.YtkcekccdcpmekaaGreatDoorQSx
set_option linter.unusedVariables false
set_option linter.unnecessarySimpa false
set_option linter.unusedSimpArgs false
set_option maxHeartbeats 64000000
namespace Go.Proofs.YtkcekccdcpmekaaGreatDoor
open Go Go.Av
attribute [local irreducible] E8 B5 E5 E1 DQ E7 E9 St.le A4 A9
set_option maxRecDepth 100000
def HB(ws:List Int)(lv:Nat):Int:=ws.getD (ws.length-lv) 0
def aS(ws:List Int):Bool:=decide (1≤ws.length) && decide (ws.length≤4) && decide (HB ws ws.length=1) && ((List.range 5).all fun a=>(List.range (a+1)).all fun b=>decide (b=0) || decide (ws.length<a) || (decide (1≤HB ws a∧HB ws a≤20) && decide (1≤HB ws b∧HB ws b≤20) && decide (HB ws b=HB ws a*(HB ws b / HB ws a)∧1≤HB ws b / HB ws a)))
theorem RP:Ex.all aS=true:=by decide +kernel
theorem JN{c:H2}{lv:Nat}(h:lv≤c.widths.length):G3 c lv=HB c.widths lv:=by
 unfold G3 HB
 congr 1
 omega
theorem Ni{c:H2}{nm:List UInt8}(h:r8 c nm):1≤c.widths.length∧c.widths.length≤4∧G3 c c.widths.length=1:=by
 have h1:=List.all_eq_true.1 RP _ h.wid
 simp only[aS,Bool.and_eq_true,decide_eq_true_eq]at h1
 rw[JN (Nat.le_refl _)]
 exact⟨h1.1.1.1,h1.1.1.2,h1.1.2⟩
theorem Dx{c:H2}{nm:List UInt8}(h:r8 c nm){a b:Nat}(hb:1≤b)(rR:b≤a)(ha:a≤c.widths.length):(1≤G3 c a∧G3 c a≤20)∧(1≤G3 c b∧G3 c b≤20)∧∃m,1≤m∧G3 c b=G3 c a*m:=by
 have h1:=List.all_eq_true.1 RP _ h.wid
 simp only[aS,Bool.and_eq_true,decide_eq_true_eq,List.all_eq_true,List.mem_range,Bool.or_eq_true]at h1
 have h2:=h1.2 a (by omega) b (by omega)
 rw[JN ha,JN (by omega)]
 rcases h2 with (h2|h2)|h2
 ·omega
 ·omega
 ·exact⟨h2.1.1,h2.1.2,_,h2.2.2,h2.2.1⟩
theorem j9(v:Int){w:Int}:G7 v w=w*(v / w):=by
 have:=Int.mul_ediv_add_emod v w
 unfold G7
 omega
theorem Xu(v:Int):G7 v 1=v:=by unfold G7;omega
theorem RQ(v:Int){w m:Int}(hw:1≤w)(hm:1≤m):G7 (G7 v w) (w*m)=G7 v (w*m):=by
 rw[j9,j9,j9]
 congr 1
 rw[Int.mul_ediv_mul_of_pos _ _ (by omega:(0:Int)<w),Int.ediv_ediv_of_nonneg (by omega)]
theorem Ez{x v w:Int}(hw:1≤w)(h1:G7 v w≤x)(h2:x<G7 v w+w):G7 x w=G7 v w:=by
 rw[j9]at h1 h2
 rw[j9,j9]
 congr 1
 have e:x=(x-w*(v / w))+w*(v / w):=by omega
 rw[e,Int.add_mul_ediv_left _ _ (by omega:w≠0),Int.ediv_eq_zero_of_lt (by omega) (by omega)]
 omega
theorem Ok{x v w m:Int}(hw:1≤w)(hm:1≤m)(h1:G7 v w≤x)(h2:x<G7 v w+w):G7 x (w*m)=G7 v (w*m):=by
 rw[←RQ x hw hm,Ez hw h1 h2,RQ v hw hm]
def Ej(c:H2)(v:Int):Prop:=(c.low≤v∧v≤c.high)∨(c.opt=true∧v=(-1099511627776))
theorem W2{s:A5}{c:H2}{nm:List UInt8}(h:r8 c nm){v:Int}(hv:Ej c v)(lv:Int):q8 s c lv v=if lv=0 then 0 else if v=(-1099511627776)then (-1099511627776)else G7 v (G3 c lv):=by
 have hk:=h.kind
 have h1:=h.low
 have h2:=h.high
 unfold q8
 rw[if_neg (by omega),if_neg]
 rcases hv with hv|hv<;>omega
theorem aT{s:A5}{c:H2}{nm:List UInt8}(h:r8 c nm){v:Int}(hv:Ej c v){a b:Nat}(rR:b≤a)(ha:a≤c.widths.length):Hm c a (q8 s c a v) b=(q8 s c b v,true):=by
 have hl:=h.low
 have hh:=h.high
 rw[W2 h hv,W2 h hv]
 by_cases vt:a=0
 ·subst vt
  have nj:b=0:=by omega
  subst nj
  simp[Hm,Hl]
 ·by_cases hm:v=(-1099511627776)
  ·have ho:c.opt=true:=by
    rcases hv with hv|hv
    ·omega
    ·exact hv.1
   rw[if_neg (by omega),if_pos hm]
   unfold Hm
   rw[if_pos ⟨by omega,rfl⟩,ho]
   by_cases nj:b=0
   ·subst nj;simp
   ·rw[if_neg (by omega),if_neg (by omega),if_pos hm]
  ·have mN:c.low≤v∧v≤c.high:=by
    rcases hv with hv|hv
    ·exact hv
    ·exact absurd hv.2 hm
   rw[if_neg (by omega),if_neg hm,if_neg hm]
   obtain⟨hw,_,_⟩:=Dx h (a:=a) (b:=a) (by omega) (Nat.le_refl _) ha
   have hd:=Ci v hw.1
   have ov:=Ez hw.1 (Int.le_refl _) (show G7 v (G3 c a)<G7 v (G3 c a)+G3 c a by omega)
   have qv:Hl c a (G7 v (G3 c a))=(max (G7 v (G3 c a)) c.low,min (G7 v (G3 c a)+G3 c a-1) c.high,true):=by
    unfold Hl
    rw[if_neg (by omega),if_neg (by omega),ov]
    have:max (G7 v (G3 c a)) c.low≤min (G7 v (G3 c a)+G3 c a-1) c.high:=by omega
    simp[this]
   unfold Hm
   rw[if_neg (by omega),qv]
   simp only[Bool.true_eq_false,if_false]
   by_cases nj:b=0
   ·subst nj;simp
   ·rw[if_neg (by omega),if_neg (by omega),if_neg (by omega)]
    obtain⟨_,_,m,hm1,tj⟩:=Dx h (a:=a) (b:=b) (by omega) rR ha
    have e1:=Ok (x:=max (G7 v (G3 c a)) c.low) (v:=v) hw.1 hm1 (by omega) (by omega)
    have e2:=Ok (x:=min (G7 v (G3 c a)+G3 c a-1) c.high) (v:=v) hw.1 hm1 (by omega) (by omega)
    rw[tj,e1,e2]
    simp
theorem aU{s:A5}{c:H2}{nm:List UInt8}(h:r8 c nm){v:Int}(hv:Ej c v):q8 s c c.widths.length v=v:=by
 obtain⟨h1,h2,h3⟩:=Ni h
 rw[W2 h hv,if_neg (by omega),h3,Xu]
 split
 ·rename_i e;exact e.symm
 ·rfl
def Nj(cs:List Code):Bool:=(Y0 H5 cs (H3 H5 cs-1)).all fun v=>z6 cs v && decide (CQ H5 cs v (H3 H5 cs-1)=v) && decide (CQ H5 cs v 0=0) && ((List.range (H3 H5 cs).toNat).all fun a=>(List.range (a+1)).all fun b=>decide (Hn H5 cs a (CQ H5 cs v a) b=(CQ H5 cs v b,true)))
theorem RR:Mi.all Nj=true:=by decide +kernel
theorem RS{a b:List UInt8}(h:D8 a=D8 b)(cs:List Code)(fr v to:Int):∀(l:List Nat) (out:Int) (sm:Bool),Jx a cs fr v to l out sm=Jx b cs fr v to l out sm
 |[],out,sm=>rfl
 |x::r,out,sm=>by simp only[Jx,RM h,RS h cs fr v to r]
theorem aV{a b:List UInt8}(h:D8 a=D8 b)(cs:List Code)(fr v to:Int):Hn a cs fr v to=Hn b cs fr v to:=by
 unfold Hn
 rw[JL h,Ey h,RS h]
theorem F7.lst{s:A5}(h:F7 s){c:H2}(hc:c=GX∨c=Nf):(E2 s c).2∈Mi∧D8 (E2 s c).1=D8 H5∧(E2 s c).2.length≤10:=by
 obtain⟨l1,l2,m1,m2,e⟩:=h.ls
 rcases hc with rfl|rfl
 ·have:E2 s GX=(H5,l1):=by unfold E2;rw[e];rfl
  rw[this];exact⟨m1,rfl,(Ff m1).len⟩
 ·have:E2 s Nf=(Ei,l2):=by unfold E2;rw[e];rfl
  rw[this];exact⟨m2,iD,(Ff m2).len⟩
def KB(s:A5)(c:H2)(v:Int):Prop:=(c.kind=1∧1≤v∧v≤60)∨(c.kind=2∧∃n:Nat,v=n∧n∈Y0 (E2 s c).1 (E2 s c).2 (H3 (E2 s c).1 (E2 s c).2-1))∨(c.kind=3∧Ej c v)
structure aW(s:A5)(c:H2)(n:Nat):Prop where
 fin:CH s c=n
 le:n≤4
 top:∀v,KB s c v→q8 s c n v=v
 zero:∀v,KB s c v→q8 s c 0 v=0
 turn:∀v,KB s c v→∀a b:Nat,b≤a→a≤n→(if c.kind=2 then Hn (E2 s c).1 (E2 s c).2 a (q8 s c a v) b else Hm c a (q8 s c a v) b)=(q8 s c b v,true)
theorem F7.facts{s:A5}(h:F7 s){i:Nat}{c:H2}(hi:0<i)(hc:s.cols[i]?=some c):∃n,aW s c n:=by
 rcases h.col hc with ⟨rfl,_⟩|⟨_,pU⟩|⟨_,nm,hm⟩
 ·omega
 ·obtain⟨hf,lZ,kf⟩:=h.lst pU
  have hk:c.kind=2:=by rcases pU with rfl|rfl<;>rfl
  have pc:=Ff hf
  have rO:=Ey lZ (E2 s c).2
  have ht:=List.all_eq_true.1 RR _ hf
  simp only[Nj,Bool.and_eq_true,decide_eq_true_eq,List.all_eq_true,List.mem_range]at ht
  obtain⟨n,hn⟩:=Int.eq_ofNat_of_zero_le (show 0≤H3 H5 (E2 s c).2-1 by have:=pc.lv;omega)
  have ok:∀v,KB s c v→∃j:Nat,v=j∧j∈Y0 H5 (E2 s c).2 n:=by
   rintro v (⟨h1,_⟩|⟨_,j,h1,h2⟩|⟨h1,_⟩)
   ·omega
   ·exact⟨j,h1,by rw[←hn,←rO,←JL lZ];exact h2⟩
   ·omega
  have mn:∀j:Nat,j∈Y0 H5 (E2 s c).2 n→∀lv:Int,q8 s c lv j=CQ H5 (E2 s c).2 j lv:=by
   intro j hj lv
   have h1:=pc.mem j (by rw[hn];exact hj)
   have h2:=(ht j (by rw[hn];exact hj)).1.1.1
   unfold q8
   rw[if_pos hk,RM lZ,if_pos]
   unfold Vh
   rw[if_neg (by omega),if_pos hk,h2]
   simp;omega
  refine⟨n,⟨?_,?_,?_,?_,?_⟩⟩
  ·unfold CH;rw[if_pos hk,rO,hn]
  ·have:=pc.lv;omega
  ·intro v hv
   obtain⟨j,rfl,hj⟩:=ok v hv
   rw[mn j hj,←hn]
   exact(ht j (by rw[hn];exact hj)).1.1.2
  ·intro v hv
   obtain⟨j,rfl,hj⟩:=ok v hv
   rw[mn j hj]
   exact(ht j (by rw[hn];exact hj)).1.2
  ·intro v hv a b rR ha
   obtain⟨j,rfl,hj⟩:=ok v hv
   rw[if_pos hk,mn j hj,mn j hj,aV lZ]
   exact(ht j (by rw[hn];exact hj)).2 a (by omega) b (by omega)
 ·have hk:=hm.kind
  have ok:∀v,KB s c v→Ej c v:=by
   rintro v (⟨h1,_⟩|⟨h1,_⟩|⟨_,h1⟩)
   ·omega
   ·omega
   ·exact h1
  refine⟨c.widths.length,⟨?_,(Ni hm).2.1,?_,?_,?_⟩⟩
  ·unfold CH;rw[if_neg (by omega)]
  ·intro v hv;exact aU hm (ok v hv)
  ·intro v hv;rw[W2 hm (ok v hv),if_pos rfl]
  ·intro v hv a b rR ha
   rw[if_neg (by omega)]
   exact aT hm (ok v hv) rR ha
theorem F7.chain{s:A5}(h:F7 s){i:Nat}{c:H2}(hi:0<i)(hc:s.cols[i]?=some c):∃n:Nat,J2 s i=n∧n≤4∧∀v,KB s c v→Na s i n v=v∧Na s i 0 v=0∧∀a b:Nat,b≤a→a≤n→cY s i a (Na s i a v) b=(Na s i b v,true):=by
 obtain⟨n,hf⟩:=h.facts hi hc
 have kj:=S8 hc
 have nK:C7 s i=c:=D4 (by simpa using hc)
 have wI:U6 s i=n:=by unfold U6;rw[if_neg (by omega),nK];exact hf.fin
 have mS:J2 s i=n:=by unfold J2;rw[if_pos h.ok];exact wI
 have mn:∀(lv:Nat) v,lv≤n→Na s i lv v=q8 s c lv v:=by
  intro lv v rO
  unfold Na
  rw[mS,if_neg (by omega),nK]
 refine⟨n,mS,hf.le,fun v hv=>⟨?_,?_,?_⟩⟩
 ·rw[mn n v (Nat.le_refl _)];exact hf.top v hv
 ·have:=mn 0 v (Nat.zero_le _)
  rw[show ((0:Nat):Int)=0 from rfl]at this
  rw[this];exact hf.zero v hv
 ·intro a b rR ha
  have ht:=hf.turn v hv a b rR ha
  rw[mn a v ha,mn b v (by omega)]
  unfold cY UD
  rw[if_pos h.ok,wI,if_neg (by omega),nK,ht]
  simp
theorem F7.lvs{s:A5}(h:F7 s){i:Nat}{c:H2}(hc:s.cols[i]?=some c)(hk:c.kind=2):(0≤c.lst∧c.lst<s.lists.length)∧Nh s i=Y0 (E2 s c).1 (E2 s c).2 (H3 (E2 s c).1 (E2 s c).2-1)∧1≤(Nh s i).length∧(Nh s i).length≤10:=by
 have nK:C7 s i=c:=D4 (by simpa using hc)
 have e:Nh s i=Y0 (E2 s c).1 (E2 s c).2 (H3 (E2 s c).1 (E2 s c).2-1):=by unfold Nh;rw[nK]
 rcases h.col hc with ⟨_,rfl⟩|⟨_,pU⟩|⟨_,nm,hm⟩
 ·cases hk
 ·obtain⟨hf,lZ,kf⟩:=h.lst pU
  have pc:=(Ff hf).at'
  refine⟨?_,e,?_⟩
  ·rw[h.lens.1];rcases pU with rfl|rfl<;>decide
  ·rw[e,Ey lZ,JL lZ];exact pc
 ·have:=hm.kind;omega
theorem RT(x:Int){w:Int}(hw:1≤w):(x+1) / w=x / w+(if (x+1) % w=0 then 1 else 0):=by
 have h1:=Int.mul_ediv_add_emod x w
 have h2:=Int.emod_nonneg x (b:=w) (by omega)
 have h3:=Int.emod_lt_of_pos x (b:=w) (by omega)
 by_cases h:x % w+1=w
 ·have e:x+1=w*(x / w+1):=by rw[Int.mul_add,Int.mul_one];omega
  have e2:(x+1) % w=0:=by rw[e];exact Int.mul_emod_right w _
  have e3:(x+1) / w=x / w+1:=by rw[e];exact Int.mul_ediv_cancel_left _ (by omega)
  rw[if_pos e2,e3]
 ·have e:x+1=(x % w+1)+w*(x / w):=by omega
  have e3:(x+1) / w=x / w:=by
   rw[e,Int.add_mul_ediv_left _ _ (by omega:w≠0),Int.ediv_eq_zero_of_lt (by omega) (by omega)]
   omega
  have e2:(x+1) % w=x % w+1:=by
   have:=Int.mul_ediv_add_emod (x+1) w
   rw[e3]at this
   omega
  rw[if_neg (by omega),e3]
  omega
def JO(low high w W:Int):Prop:=∀t,low<t→t≤high→t % w=0→t % W=0
theorem Vy{t w m:Int}(h:t % (w*m)=0):t % w=0:=by
 have:=Int.dvd_of_emod_eq_zero h
 exact Int.emod_eq_zero_of_dvd (Int.dvd_trans (Int.dvd_mul_right w m) this)
theorem Xv{w m:Int}(hw:1≤w)(hm:1≤m)(low:Int):∀j:Nat,(low+j) / (w*m)-low / (w*m)≤(low+j) / w-low / w∧((low+j) / (w*m)-low / (w*m)=(low+j) / w-low / w↔JO low (low+j) w (w*m))
 |0=>⟨by simp,by
   constructor
   ·intro _ t h1 h2;omega
   ·intro _;simp⟩
 |j+1=>by
  obtain⟨h1,h2⟩:=Xv hw hm low j
  have hW:1≤w*m:=by
   have:=Int.mul_le_mul hw hm (by omega) (by omega)
   simpa using this
  have e:low+((j+1:Nat):Int)=(low+j)+1:=by omega
  rw[e,RT _ hw,RT _ hW]
  have ext:JO low (low+j+1) w (w*m)↔JO low (low+j) w (w*m)∧((low+j+1) % w=0→(low+j+1) % (w*m)=0):=by
   constructor
   ·intro h
    exact⟨fun t h3 h4=>h t h3 (by omega),fun h3=>h _ (by omega) (by omega) h3⟩
   ·rintro ⟨h3,h4⟩ t h5 h6 h7
    by_cases h8:t=low+j+1
    ·subst h8;exact h4 h7
    ·exact h3 t h5 (by omega) h7
  rw[ext,←h2]
  by_cases ha:(low+j+1) % w=0
  ·by_cases hb:(low+j+1) % (w*m)=0
   ·rw[if_pos ha,if_pos hb]
    exact⟨by omega,by constructor<;>(intro h;first|exact⟨by omega,fun _=>hb⟩|(have:=h.1;omega))⟩
   ·rw[if_pos ha,if_neg hb]
    exact⟨by omega,by constructor<;>(intro h;first|(exfalso;omega)|exact absurd (h.2 ha) hb)⟩
  ·have hb:¬(low+j+1) % (w*m)=0:=fun h=>ha (Vy h)
   rw[if_neg ha,if_neg hb]
   exact⟨by omega,by constructor<;>(intro h;first|exact⟨by omega,fun h=>absurd h ha⟩|(have:=h.1;omega))⟩
theorem UP{w m low high:Int}(hw:1≤w)(hm:1≤m)(h:low≤high):high / (w*m)-low / (w*m)≤high / w-low / w∧(high / (w*m)-low / (w*m)=high / w-low / w↔JO low high w (w*m)):=by
 obtain⟨j,hj⟩:=Int.eq_ofNat_of_zero_le (show 0≤high-low by omega)
 have:=Xv hw hm low j
 rwa[show low+(j:Int)=high by omega]at this
def iE(f g:Int→Int)(l:List Int):Prop:=∀x∈l,∀y∈l,f x≠f y→g x≠g y
theorem aX{w m low high:Int}(hw:1≤w)(hm:1≤m)(pm:low≤high):(∀x y,low≤x→x≤high→low≤y→y≤high→G7 x w≠G7 y w→G7 x (w*m)≠G7 y (w*m))↔JO low high w (w*m):=by
 have hW:1≤w*m:=by
  have:=Int.mul_le_mul hw hm (by omega) (by omega)
  simpa using this
 constructor
 ·intro h t h1 h2 h3
  refine Classical.byContradiction fun h4=>?_
  have e1:G7 t w=t:=by unfold G7;omega
  have b1:=Ci (t-1) hw
  have b2:=Ci t hW
  have e2:G7 t (w*m)≤t-1:=by
   have:=Int.emod_nonneg t (b:=w*m) (by omega)
   unfold G7;omega
  have e3:G7 (t-1) (w*m)=G7 t (w*m):=Ez hW e2 (by omega)
  exact h t (t-1) (by omega) h2 (by omega) (by omega) (by omega) e3.symm
 ·intro h
  have key:∀x y,low≤x→y≤high→x<y→G7 x w≠G7 y w→G7 x (w*m)≠G7 y (w*m):=by
   intro x y h1 h2 h3 h4
   have b1:=Ci y hw
   have b3:=Ci x hW
   have hx:x<G7 y w:=by
    rcases Int.lt_or_le x (G7 y w)with h5|h5
    ·exact h5
    ·exact absurd (Ez hw h5 (by omega)) h4
   have h6:G7 y w % w=0:=by rw[j9];exact Int.mul_emod_right w _
   have h7:=h (G7 y w) (by omega) (by omega) h6
   have h8:G7 (G7 y w) (w*m)=G7 y w:=by unfold G7 at h7 ⊢;omega
   have h9:=Vi hW b1.2
   omega
  intro x y h1 h2 h3 h4 h5 h6
  rcases Int.lt_trichotomy x y with h7|h7|h7
  ·exact key x y h1 h4 h7 h5 h6
  ·exact h5 (by rw[h7])
  ·exact key y x h3 h2 h7 (Ne.symm h5) h6.symm
theorem Dy{s:A5}{c:H2}{nm:List UInt8}(h:r8 c nm){L:Nat}(h1:1≤L)(h2:L≤c.widths.length):CI s c L=c.high / G3 c L-c.low / G3 c L+1+(if c.opt=true then 1 else 0):=by
 obtain⟨hw,_,_⟩:=Dx h (a:=L) (b:=L) h1 (Nat.le_refl _) h2
 have hk:=h.kind
 unfold CI
 rw[if_neg (by omega),if_neg (by omega),j9,j9,←Int.mul_sub,Int.mul_ediv_cancel_left _ (by omega)]
theorem JP{s:A5}{c:H2}{nm:List UInt8}(h:r8 c nm):CI s c 0=1:=by
 have hk:=h.kind
 unfold CI
 rw[if_neg (by omega),if_pos rfl]
theorem Mn{a b w:Int}(hw:1≤w)(h:a≤b):a / w≤b / w:=Int.ediv_le_ediv (by omega) h
theorem Xw{s:A5}{c:H2}{nm:List UInt8}(h:r8 c nm){o L:Nat}(ho:o≤L)(hL:L≤c.widths.length):CI s c o≤CI s c L:=by
 have hh:=h.high
 by_cases h0:o=0
 ·subst h0
  rw[show ((0:Nat):Int)=0 from rfl,JP h]
  by_cases hL0:L=0
  ·subst hL0;rw[show ((0:Nat):Int)=0 from rfl,JP h];omega
  ·obtain⟨hw,_,_⟩:=Dx h (a:=L) (b:=L) (by omega) (Nat.le_refl _) hL
   rw[Dy h (by omega) hL]
   have:=Mn hw.1 hh.1
   split<;>omega
 ·obtain⟨hw,_,m,hm,e⟩:=Dx h (a:=L) (b:=o) (by omega) ho hL
  rw[Dy h (by omega) hL,Dy h (by omega) (by omega),e]
  have:=(UP hw.1 hm hh.1).1
  omega
def RU(c:H2):List Int:=(List.range (c.high-c.low+1).toNat).map (fun i:Nat=>c.low+(i:Int))++(if c.opt=true then [(-1099511627776)]else [])
theorem Bl{c:H2}{v:Int}:v∈RU c↔Ej c v:=by
 unfold RU Ej
 rw[List.mem_append,List.mem_map]
 constructor
 ·rintro (⟨i,hi,rfl⟩|h)
  ·rw[List.mem_range]at hi;left;omega
  ·split at h
   ·rename_i ho;simp at h;exact .inr ⟨ho,h⟩
   ·cases h
 ·rintro (h|⟨h1,h2⟩)
  ·exact .inl ⟨(v-c.low).toNat,by rw[List.mem_range];omega,by omega⟩
  ·right;rw[if_pos h1,h2];simp
theorem aY{s:A5}{c:H2}{nm:List UInt8}(h:r8 c nm){o L:Nat}(ho:o≤L)(hL:L≤c.widths.length):iE (q8 s c L) (q8 s c o) (RU c)↔CI s c o=CI s c L:=by
 have hl:=h.low
 have hh:=h.high
 have pm:Ej c c.low:=.inl (by omega)
 have rB:Ej c c.high:=.inl (by omega)
 by_cases hoL:o=L
 ·subst hoL
  exact⟨fun _=>rfl,fun _ x _ y _ h=>h⟩
 obtain⟨hw,_,_⟩:=Dx h (a:=L) (b:=L) (by omega) (Nat.le_refl _) hL
 have vz:=fun v (hv:c.low≤v∧v≤c.high)=>Ci v hw.1
 by_cases h0:o=0
 ·subst h0
  rw[Dy h (by omega) hL,show ((0:Nat):Int)=0 from rfl,JP h]
  have mK:=Mn hw.1 hh.1
  constructor
  ·intro hd
   have z:∀x y,Ej c x→Ej c y→q8 s c L x=q8 s c L y:=by
    intro x y hx hy
    refine Classical.byContradiction fun hne=>hd x (Bl.2 hx) y (Bl.2 hy) hne ?_
    rw[W2 h hx,W2 h hy,if_pos rfl,if_pos rfl]
   have lG:¬c.opt=true:=by
    intro qY
    have:=z c.low ((-1099511627776)) pm (.inr ⟨qY,rfl⟩)
    rw[W2 h pm,W2 h (.inr ⟨qY,rfl⟩),if_neg (by omega),if_neg (by omega),if_neg (by omega),if_pos rfl]at this
    have:=vz c.low (by omega)
    omega
   have:=z c.low c.high pm rB
   rw[W2 h pm,W2 h rB,if_neg (by omega),if_neg (by omega),if_neg (by omega),if_neg (by omega),j9,j9]at this
   have e:c.low / G3 c L=c.high / G3 c L:=Int.eq_of_mul_eq_mul_left (show G3 c L≠0 by omega) this
   rw[if_neg lG,e];omega
  ·intro he x hx y hy hne
   exfalso
   apply hne
   have lG:¬c.opt=true:=by
    intro qY;rw[if_pos qY]at he;omega
   rw[if_neg lG]at he
   have e:c.low / G3 c L=c.high / G3 c L:=by omega
   have z:∀x,Ej c x→q8 s c L x=G3 c L*(c.low / G3 c L):=by
    intro x hx
    have mr:c.low≤x∧x≤c.high:=by
     rcases hx with hx|hx
     ·exact hx
     ·exact absurd hx.1 lG
    rw[W2 h hx,if_neg (by omega),if_neg (by omega),j9]
    have h1:=Mn hw.1 mr.1
    have h2:=Mn hw.1 mr.2
    congr 1
    omega
   rw[z x (Bl.1 hx),z y (Bl.1 hy)]
 ·obtain⟨_,hW,m,hm,e⟩:=Dx h (a:=L) (b:=o) (by omega) ho hL
  rw[Dy h (by omega) hL,Dy h (by omega) (by omega)]
  have hc:=(UP hw.1 hm hh.1).2
  have uX:=aX hw.1 hm hh.1
  rw[←e]at hc uX
  have e1:(c.high / G3 c o-c.low / G3 c o+1+(if c.opt=true then 1 else 0)=c.high / G3 c L-c.low / G3 c L+1+(if c.opt=true then 1 else 0))↔(c.high / G3 c o-c.low / G3 c o=c.high / G3 c L-c.low / G3 c L):=by
   constructor<;>intro h<;>omega
  rw[e1,hc,←uX]
  have mn:∀lv:Nat,1≤lv→∀x,c.low≤x→x≤c.high→q8 s c lv x=G7 x (G3 c lv):=by
   intro lv rO x h1 h2
   rw[W2 h (.inl ⟨h1,h2⟩),if_neg (by omega),if_neg (by omega)]
  constructor
  ·intro hd x y h1 h2 h3 h4 h5
   have:=hd x (Bl.2 (.inl ⟨h1,h2⟩)) y (Bl.2 (.inl ⟨h3,h4⟩))
   rw[mn L (by omega) x h1 h2,mn L (by omega) y h3 h4,mn o (by omega) x h1 h2,mn o (by omega) y h3 h4]at this
   exact this h5
  ·intro hd x hx y hy hne
   have bW:=fun v (hv:c.low≤v∧v≤c.high)=>Ci v hW.1
   rcases Bl.1 hx with mr|mr<;>rcases Bl.1 hy with ni|ni
   ·rw[mn L (by omega) x mr.1 mr.2,mn L (by omega) y ni.1 ni.2]at hne
    rw[mn o (by omega) x mr.1 mr.2,mn o (by omega) y ni.1 ni.2]
    exact hd x y mr.1 mr.2 ni.1 ni.2 hne
   ·have:=bW x mr
    rw[mn o (by omega) x mr.1 mr.2,W2 h (.inr ni),if_neg (by omega),if_pos ni.2]
    omega
   ·have:=bW y ni
    rw[mn o (by omega) y ni.1 ni.2,W2 h (.inr mr),if_neg (by omega),if_pos mr.2]
    omega
   ·exfalso;apply hne;rw[mr.2,ni.2]
def RV(s:A5)(c:H2):List Int:=if c.kind=2 then (Y0 (E2 s c).1 (E2 s c).2 (H3 (E2 s c).1 (E2 s c).2-1)).map fun n:Nat=>(n:Int)else RU c
structure kB(s:A5)(c:H2)(n:Nat):Prop where
 fin:CH s c=n
 le:n≤4
 mono:∀o L:Nat,o≤L→L≤n→CI s c o≤CI s c L
 divs:∀o L:Nat,o≤L→L≤n→(iE (q8 s c L) (q8 s c o) (RV s c)↔CI s c o=CI s c L)
def Xx(cs:List Code):Bool:=(List.range (H3 H5 cs).toNat).all fun L=>(List.range (L+1)).all fun o=>decide ((Y0 H5 cs o).length≤(Y0 H5 cs L).length) && decide ((Y0 H5 cs (H3 H5 cs-1)).all (fun x=>(Y0 H5 cs (H3 H5 cs-1)).all fun y=>decide (CQ H5 cs x L=CQ H5 cs y L) || !(decide (CQ H5 cs x o=CQ H5 cs y o)))=decide ((Y0 H5 cs o).length=(Y0 H5 cs L).length))
theorem Xy:Mi.all Xx=true:=by decide +kernel
theorem F7.blk{s:A5}(h:F7 s){i:Nat}{c:H2}(hi:0<i)(hc:s.cols[i]?=some c):∃n,kB s c n:=by
 rcases h.col hc with ⟨rfl,_⟩|⟨_,pU⟩|⟨_,nm,hm⟩
 ·omega
 ·obtain⟨hf,lZ,kf⟩:=h.lst pU
  have hk:c.kind=2:=by rcases pU with rfl|rfl<;>rfl
  have pc:=Ff hf
  have rO:=Ey lZ (E2 s c).2
  have ht:=List.all_eq_true.1 RR _ hf
  simp only[Nj,Bool.and_eq_true,decide_eq_true_eq,List.all_eq_true,List.mem_range]at ht
  have hb:=List.all_eq_true.1 Xy _ hf
  simp only[Xx,List.all_eq_true,List.mem_range,Bool.and_eq_true,decide_eq_true_eq]at hb
  obtain⟨n,hn⟩:=Int.eq_ofNat_of_zero_le (show 0≤H3 H5 (E2 s c).2-1 by have:=pc.lv;omega)
  have mn:∀j:Nat,j∈Y0 H5 (E2 s c).2 n→∀lv:Int,q8 s c lv j=CQ H5 (E2 s c).2 j lv:=by
   intro j hj lv
   have h1:=pc.mem j (by rw[hn];exact hj)
   have h2:=(ht j (by rw[hn];exact hj)).1.1.1
   unfold q8
   rw[if_pos hk,RM lZ,if_pos]
   unfold Vh
   rw[if_neg (by omega),if_pos hk,h2]
   simp;omega
  have blk:∀lv:Int,CI s c lv=(Y0 H5 (E2 s c).2 lv).length:=by
   intro lv;unfold CI;rw[if_pos hk,JL lZ]
  refine⟨n,⟨?_,?_,?_,?_⟩⟩
  ·unfold CH;rw[if_pos hk,rO,hn]
  ·have:=pc.lv;omega
  ·intro o L h1 h2
   have:=(hb L (by omega) o (by omega)).1
   rw[blk,blk];omega
  ·intro o L h1 h2
   have:=(hb L (by omega) o (by omega)).2
   rw[blk,blk]
   have e:RV s c=(Y0 H5 (E2 s c).2 n).map fun n:Nat=>(n:Int):=by unfold RV;rw[if_pos hk,rO,JL lZ,hn]
   rw[e]
   rw[hn]at this
   have e2:(((Y0 H5 (E2 s c).2 o).length:Int)=((Y0 H5 (E2 s c).2 L).length:Int))↔(Y0 H5 (E2 s c).2 o).length=(Y0 H5 (E2 s c).2 L).length:=by omega
   rw[e2,←decide_eq_true_iff (p:=(Y0 H5 (E2 s c).2 o).length=(Y0 H5 (E2 s c).2 L).length),←this]
   simp only[List.all_eq_true,Bool.or_eq_true,decide_eq_true_eq,Bool.not_eq_true',decide_eq_false_iff_not]
   constructor
   ·intro hd x hx y hy
    by_cases hxy:CQ H5 (E2 s c).2 x L=CQ H5 (E2 s c).2 y L
    ·exact .inl hxy
    ·have:=hd x (List.mem_map.2 ⟨x,hx,rfl⟩) y (List.mem_map.2 ⟨y,hy,rfl⟩)
     rw[mn x hx,mn y hy,mn x hx,mn y hy]at this
     exact .inr (this hxy)
   ·intro hd x hx y hy hne
    obtain⟨x',mr,rfl⟩:=List.mem_map.1 hx
    obtain⟨y',ni,rfl⟩:=List.mem_map.1 hy
    rw[mn x' mr,mn y' ni]at hne ⊢
    rcases hd x' mr y' ni with h3|h3
    ·exact absurd h3 hne
    ·exact h3
 ·have hk:=hm.kind
  have e:RV s c=RU c:=by unfold RV;rw[if_neg (by omega)]
  refine⟨c.widths.length,⟨?_,(Ni hm).2.1,fun o L h1 h2=>Xw hm h1 h2,fun o L h1 h2=>by rw[e];exact aY hm h1 h2⟩⟩
  unfold CH;rw[if_neg (by omega)]
end Go.Proofs.YtkcekccdcpmekaaGreatDoor
