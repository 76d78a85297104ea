/- Chapter 5: picks raised to a level. -/
import Derived.Test.YtiphlhoclaogjaaGreatDoorJC3
import Derived.Test.YtiphlhoclaogjaaGreatDoorJB13
import Derived.Test.YtiphlhoclaogjaaGreatDoorJB10
import Derived.Test.YtiphlhoclaogjaaGreatDoorJCe9
import Derived.Test.YtiphlhoclaogjaaGreatDoorJAvC
set_option linter.unusedVariables false
set_option linter.unnecessarySimpa false
set_option linter.unusedSimpArgs false
set_option maxHeartbeats 64000000
namespace Go.Proofs.YtiphlhoclaogjaaGreatDoor
open Go Go.Av
attribute [local irreducible] C9 B3 C8 D1 DQ D0 C7 St.le A3 B8
set_option maxRecDepth 100000
theorem Ar(l:List Pk)(col lev:Int)(hl:l.length≤1000):A3 Tryz.prog 118 [.sl 2 (l.map A8),.i col,.i lev] (.sl 2 ((u7 l col lev).map A8)):=by
 refine B5 Tryz.func118 59 fun nL E h0=>?_
 clear nL
 unfold u7
 repeat'((first|refine S2 ?_|(refine T6 ?_ ?_<;>intro h<;>try exact V1 h)|intro el nJ nK|intro el nJ|exact T4|refine T5 ?_ ?_|intro ex)<;>try conv=>whnf)
 refine B0 (ι:=Nat×Bool×List Pk) (fun x=>⟨[(0,.sl 2 (l.map A8)),(1,.i col),(2,.i lev),(7,.row 0 0 x.2.2.length),(8,.b x.2.1),(9,.i x.1)],1,[(0,some (.row OS 2 0 (x.2.2.map A8)))]⟩)
  (fun x=>x.1≤l.length∧x.2.2.length≤2*x.1∧O5 col lev l (decide (lev≤0)) []=O5 col lev (l.drop x.1) x.2.1 x.2.2) (fun x=>l.length-x.1) (0,decide (lev≤0),[]) ⟨Nat.zero_le _,Nat.zero_le _,rfl⟩
  (C0 (I0 (d:=7) (e:=OS) (sz:=2) rfl) (A7 h0 rfl ⟨rfl,rfl,rfl,rfl,rfl,rfl,trivial⟩ ⟨⟨0,rfl⟩,trivial⟩ rfl rfl rfl)) (fun x hI=>?_)
 obtain⟨k,dn,out⟩:=x
 obtain⟨hk,ho,hI⟩:=hI
 dsimp only at hk ho hI ⊢
 repeat'((first|refine S2 ?_|(refine T6 ?_ ?_<;>intro h<;>try exact V1 h)|intro el nJ nK|intro el nJ|exact T4|refine T5 ?_ ?_|intro ex)<;>try conv=>whnf)
 all_goals first
  |exact⟨(k+1,true,out++[⟨col,lev⟩]++[el]),⟨by dsimp only;omega,by dsimp only;simp only[List.length_append,List.length_cons,List.length_nil];omega,by rw[hI,F7 nJ,O5,if_pos ⟨by omega,by assumption⟩]⟩,by dsimp only;omega,A7 h0 rfl ⟨rfl,rfl,rfl,congrArg (fun z:Nat=>some (AV.row 0 0 z)) (by simp only[List.length_append];rfl),rfl,rfl,trivial⟩ ⟨⟨_,congrArg (C4.row OS 2 _) (by simp only[List.map_append];rfl)⟩,trivial⟩ rfl rfl rfl⟩
  |exact⟨(k+1,dn,out++[el]),⟨by dsimp only;omega,by dsimp only;simp only[List.length_append,List.length_cons,List.length_nil];omega,by rw[hI,F7 nJ,O5,if_neg (fun hh=>by first|(have h9:=hh.1;omega)|(have h9:=hh.2;simp_all;done)),if_neg (by omega)]⟩,by dsimp only;omega,A7 h0 rfl ⟨rfl,rfl,rfl,congrArg (fun z:Nat=>some (AV.row 0 0 z)) (by simp only[List.length_append];rfl),rfl,rfl,trivial⟩ ⟨⟨_,congrArg (C4.row OS 2 _) (by simp only[List.map_append];rfl)⟩,trivial⟩ rfl rfl rfl⟩
  |exact⟨(k+1,true,out++[⟨el.col,max el.lev lev⟩]),⟨by dsimp only;omega,by dsimp only;simp only[List.length_append,List.length_cons,List.length_nil];omega,by rw[hI,F7 nJ,O5,if_neg (fun hh=>by first|(have h9:=hh.1;omega)|(have h9:=hh.2;simp_all;done)),if_pos (by omega)]⟩,by dsimp only;omega,A7 h0 rfl ⟨rfl,rfl,rfl,congrArg (fun z:Nat=>some (AV.row 0 0 z)) (by simp only[List.length_append];rfl),rfl,rfl,trivial⟩ ⟨⟨_,congrArg (C4.row OS 2 _) (by simp only[List.map_append];rfl)⟩,trivial⟩ rfl rfl rfl⟩
  |exact A1 rfl (congrArg (AV.sl 2) (by rw[hI,T8 (by assumption),O5,if_pos (by assumption)]))
  |exact A1 rfl (congrArg (AV.sl 2) (by rw[hI,T8 (by assumption),O5,if_neg (fun hh=>by simp_all)];rw[List.map_append];rfl))
def Do(f g:Int→Int)(l:List Int)(i k:Nat):Prop:=(∀i':Nat,i'<i→∀k':Nat,k'<i'→l9 f g (l.getD i' 0) (l.getD k' 0)=true)∧∀k':Nat,k'<k→l9 f g (l.getD i 0) (l.getD k' 0)=true
theorem Do.zero(f g:Int→Int)(l:List Int):Do f g l 0 0:=⟨fun i' h=>absurd h (Nat.not_lt_zero _),fun k' h=>absurd h (Nat.not_lt_zero _)⟩
theorem Do.step{f g:Int→Int}{l:List Int}{i k:Nat}{x y:Int}(h:Do f g l i k)(hx:l[i]?=some x)(hy:l[k]?=some y)(hp:l9 f g x y=true):Do f g l i (k+1):=by
 refine⟨h.1,fun k' hk=>?_⟩
 by_cases e:k'=k
 ·subst e;rw[D7 hx,D7 hy];exact hp
 ·exact h.2 k' (by omega)
theorem Do.next{f g:Int→Int}{l:List Int}{i k:Nat}(h:Do f g l i k)(hk:¬(k:Int)<i):Do f g l (i+1) 0:=by
 refine⟨fun i' hi k' oL=>?_,fun k' h=>absurd h (Nat.not_lt_zero _)⟩
 by_cases e:i'=i
 ·subst e;exact h.2 k' (by omega)
 ·exact h.1 i' (by omega) k' oL
theorem Do.hit{f g:Int→Int}{l:List Int}{i k:Nat}{x y:Int}(hx:l[i]?=some x)(hy:l[k]?=some y)(hk:(k:Int)<i)(hp:l9 f g x y=false):divB f g l=false:=by
 cases hd:divB f g l with
 |false=>rfl
 |true =>
  unfold divB at hd
  have:=List.all_eq_true.1 (List.all_eq_true.1 hd i (by rw[List.mem_range];exact E9 hx)) k (by rw[List.mem_range];omega)
  rw[D7 hx,D7 hy,hp]at this
  cases this
theorem Do.done{f g:Int→Int}{l:List Int}{i:Nat}(h:Do f g l i 0)(hi:¬(i:Int)<l.length):divB f g l=true:=by
 unfold divB
 simp only[List.all_eq_true,List.mem_range]
 intro i' h1 k' h2
 exact h.1 i' (by omega) k' h2
theorem Uy{f g:Int→Int}{x y:Int}(h1:¬f x=f y)(h2:g x=g y):l9 f g x y=false:=by simp[l9,h1,h2]
theorem Uz{f g:Int→Int}{x y:Int}(h1:f x=f y):l9 f g x y=true:=by simp[l9,h1]
theorem VA{f g:Int→Int}{x y:Int}(h2:¬g x=g y):l9 f g x y=true:=by simp[l9,h2]
theorem E4.coa{s:A4}(h:E4 s){i:Nat}{c:D3}{n:Nat}(hi:0<i)(hc:s.cols[i]?=some c)(hn:M1 s c=n){lv:Nat}(pX:lv≤n)(v:Int):G1 s i lv v=Q1 s c lv v:=by
 have nN:=E9 hc
 have nY:B6 s i=c:=B9 (by simpa using hc)
 have vH:E6 s i=n:=by unfold E6;rw[if_neg (by omega),nY];exact hn
 have vN:B4 s i=n:=by unfold B4;rw[if_pos h.ok];exact vH
 unfold G1
 rw[vN,if_neg (by omega),nY]
theorem E4.divB{s:A4}(h:E4 s){i:Nat}{c:D3}{n:Nat}(hi:0<i)(hc:s.cols[i]?=some c)(hb:UG s c n){o L:Nat}(ho:o≤L)(hL:L≤n):divB (G1 s i L) (G1 s i o) (Er s c)=decide (K6 s c o=K6 s c L):=by
 have e1:G1 s i L=Q1 s c L:=funext fun v=>h.coa hi hc hb.fin hL v
 have e2:G1 s i o=Q1 s c o:=funext fun v=>h.coa hi hc hb.fin (by omega) v
 rw[e1,e2]
 have:=hb.divs o L ho hL
 rw[←UF]at this
 by_cases hd:K6 s c o=K6 s c L
 ·rw[decide_eq_true hd];exact this.2 hd
 ·rw[decide_eq_false hd]
  cases hx:Go.Proofs.YtiphlhoclaogjaaGreatDoor.divB (Q1 s c L) (Q1 s c o) (Er s c)with
  |false=>rfl
  |true=>exact absurd (this.1 hx) hd
theorem fI{s:A4}{c:D3}{nm:List UInt8}(h:R8 c nm){o L:Nat}(ho:o<L)(hL:L≤c.widths.length)(h0:o≠0):Dg c.low c.high (B1 c L) (B1 c o)=decide (K6 s c o=K6 s c L):=by
 obtain⟨hw,hW,m,hm,e⟩:=q8 h (a:=L) (b:=o) (by omega) (by omega) hL
 have ht:=eI (low:=c.low) (high:=c.high) hw.1 hm
 have hc:=(Pn hw.1 hm h.high.1).2
 rw[←e]at ht hc
 rw[←hc]at ht
 rw[Aj h (by omega) hL,Aj h (by omega) (by omega)]
 by_cases hd:c.high / B1 c o-c.low / B1 c o=c.high / B1 c L-c.low / B1 c L
 ·rw[ht.2 hd,decide_eq_true (by omega)]
 ·rw[decide_eq_false (by omega)]
  cases hx:Dg c.low c.high (B1 c L) (B1 c o)with
  |false=>rfl
  |true=>exact absurd (ht.1 hx) hd
theorem cG{s:A4}{c:D3}{nm:List UInt8}(h:R8 c nm){L:Nat}(h0:0<L)(hL:L≤c.widths.length):(!c.opt && decide ((c.low / B1 c L+1)*B1 c L>c.high))=decide (K6 s c 0=K6 s c L):=by
 obtain⟨hw,_,_⟩:=q8 h (a:=L) (b:=L) (by omega) (Nat.le_refl _) hL
 rw[Aj h (by omega) hL,Gf h]
 have qC:=KD hw.1 h.high.1
 have key:(c.low / B1 c L+1)*B1 c L>c.high↔c.high / B1 c L=c.low / B1 c L:=by
  have h1:=Int.mul_ediv_add_emod c.high (B1 c L)
  have h2:=Int.emod_nonneg c.high (b:=B1 c L) (by omega)
  have h3:=Int.emod_lt_of_pos c.high (b:=B1 c L) (by omega)
  rw[Int.add_mul,Int.one_mul,Int.mul_comm]
  constructor
  ·intro h
   rcases Int.lt_or_le (c.low / B1 c L) (c.high / B1 c L)with h4|h4
   ·have:=Int.mul_le_mul_of_nonneg_left (show c.low / B1 c L+1≤c.high / B1 c L by omega) (show 0≤B1 c L by omega)
    rw[Int.mul_add,Int.mul_one]at this
    omega
   ·omega
  ·intro h;rw[←h];omega
 cases c.opt with
 |true=>simp;omega
 |false =>
  simp only[Bool.not_false,Bool.true_and,key,Bool.false_eq_true,if_false]
  congr 1
  apply propext
  omega
theorem fJ{c:D3}{nm:List UInt8}(h:R8 c nm){w:Int}(hw:1≤w∧w≤20):-40≤(c.low / w+1)*w∧(c.low / w+1)*w≤40∧-10≤c.low / w∧c.low / w≤10:=by
 have h1:=Int.mul_ediv_add_emod c.low w
 have h2:=Int.emod_nonneg c.low (b:=w) (by omega)
 have h3:=Int.emod_lt_of_pos c.low (b:=w) (by omega)
 have hl:=h.low
 have h4:=W3 c.low hw.1
 have h5:-4≤c.low / w:=by
  have:=Int.ediv_le_ediv (a:=-4) (b:=c.low) (c:=w) (by omega) hl.1
  have h6:-4≤(-4:Int) / w:=by
   rw[Int.le_ediv_iff_mul_le (by omega)];omega
  omega
 have h6:c.low / w≤2:=by
  have:=Int.ediv_le_ediv (a:=c.low) (b:=2) (c:=w) (by omega) hl.2
  have h7:(2:Int) / w≤2:=Int.ediv_le_self w (by omega)
  omega
 rw[Int.add_mul,Int.one_mul,Int.mul_comm]
 omega
def Ce(f w:Int):Nat→Int
 |0=>f
 |n+1=>Ce f w n+w
theorem jX{lo hi w W:Int}(h1:(lo / w+1)*w≤hi)(h2:((lo / w+1)*w).tmod W≠0):Dg lo hi w W=false:=by
 have h3:¬hi<(lo / w+1)*w:=by omega
 simp[Dg,h3,h2]
theorem jY{lo hi w W:Int}(h1:¬(lo / w+1)*w≤hi):Dg lo hi w W=true:=by
 have h3:hi<(lo / w+1)*w:=by omega
 simp[Dg,h3]
theorem jZ{lo hi w W:Int}(h0:(lo / w+1)*w≤hi∧((lo / w+1)*w).tmod W=0)(h1:(lo / w+1)*w+w≤hi)(h2:((lo / w+1)*w+w).tmod W≠0):Dg lo hi w W=false:=by
 have h3:¬hi<(lo / w+1)*w:=by omega
 have h4:¬hi<(lo / w+1)*w+w:=by omega
 simp[Dg,h3,h4,h2]
theorem ja{lo hi w W:Int}(h0:(lo / w+1)*w≤hi∧((lo / w+1)*w).tmod W=0)(h1:¬(lo / w+1)*w+w≤hi):Dg lo hi w W=true:=by
 have h4:hi<(lo / w+1)*w+w:=by omega
 simp[Dg,h4,h0.2]
theorem jb{lo hi w W:Int}(h0:(lo / w+1)*w≤hi∧((lo / w+1)*w).tmod W=0)(h1:(lo / w+1)*w+w≤hi∧((lo / w+1)*w+w).tmod W=0):Dg lo hi w W=true:=by
 simp[Dg,h0.2,h1.2]
theorem Rn(s:A4)(i o L:Nat){c:D3}{n:Nat}(hd:E4 s)(hi:0<i)(hc:s.cols[i]?=some c)(hb:UG s c n)(ho:o≤L)(hL:L≤n):A3 Tryz.prog 173 [sA s,.i i,.i o,.i L] (.b (decide (K6 s c o=K6 s c L))):=by
 have nN:=E9 hc
 have hn:=hd.lens
 rw[←hd.divB hi hc hb ho hL]
 by_cases htriv:L=0∨L≤o
 ·have e:o=L:=by omega
  subst e
  rw[hd.divB hi hc hb (Nat.le_refl _) hL,decide_eq_true rfl]
  refine B5 Tryz.func173 121 fun nL E h0=>?_
  clear nL
  repeat'((first|(refine A2 (x:=c) hc (by omega) ?_) |refine S2 ?_|(refine T6 ?_ ?_<;>intro h<;>try exact V1 h)|intro el nJ nK|intro el nJ|exact T4|refine T5 ?_ ?_|intro ex)<;>try conv=>whnf)
  all_goals exact A1 rfl rfl
 by_cases hk:c.kind=2
 ·obtain⟨pO,e1,pL,nv⟩:=hd.lvs hc hk
  have wC:=AN s i
  have pX:A3 Tryz.prog 138 [sA s,.i i] (.sl 1 ((Er s c).map wA)):=by
   refine(BB s i (by omega) (by simpa using hc) pO).congr (congrArg (AV.sl 1) ?_)
   unfold Er
   rw[if_pos hk,←e1,List.map_map]
   rfl
  have sk:(Er s c).length≤10:=by
   unfold Er;rw[if_pos hk,←e1,List.length_map];exact nv
  generalize Er s c=al at *
  refine B5 Tryz.func173 121 fun nL E h0=>?_
  clear nL
  repeat'((first|(refine A2 (x:=c) hc (by omega) ?_)|refine A0 pX ?_ |refine S2 ?_|(refine T6 ?_ ?_<;>intro h<;>try exact V1 h)|intro el nJ nK|intro el nJ|exact T4|refine T5 ?_ ?_|intro ex)<;>try conv=>whnf)
  refine B0 (ι:=Nat) (fun k=>⟨[(1,.i i),(2,.i o),(3,.i L),(4,.ref 0 0),(10,.sl 1 (al.map wA)),(11,.i k)],2,[(0,some (.box (sL s))),(1,some (.box (U6 c)))]⟩) (fun k=>k≤al.length∧Do (G1 s i L) (G1 s i o) al k 0) (fun k=>al.length-k) 0 ⟨Nat.zero_le _,Do.zero _ _ _⟩ (A6 h0) (fun k hI=>?_)
  obtain⟨pd,hI⟩:=hI
  repeat'((first|refine S2 ?_|(refine T6 ?_ ?_<;>intro h<;>try exact V1 h)|intro el nJ nK|intro el nJ|exact T4|refine T5 ?_ ?_|intro ex)<;>try conv=>whnf)
  ·refine B0 (ι:=Nat) (fun j=>⟨[(1,.i i),(2,.i o),(3,.i L),(4,.ref 0 0),(10,.sl 1 (al.map wA)),(11,.i k),(12,.i j)],2,[(0,some (.box (sL s))),(1,some (.box (U6 c)))]⟩) (fun j=>j≤k∧Do (G1 s i L) (G1 s i o) al k j) (fun j=>k-j) 0 ⟨Nat.zero_le _,hI⟩ (A6 h0) (fun j hJ=>?_)
   obtain⟨vg,hJ⟩:=hJ
   repeat'((first|refine A0 (wC _ _) ?_ |refine S2 ?_|(refine T6 ?_ ?_<;>intro h<;>try exact V1 h)|intro el nJ nK|intro el nJ|exact T4|refine T5 ?_ ?_|intro ex)<;>try conv=>whnf)
   all_goals first
    |exact A1 rfl (congrArg AV.b (Do.hit (i:=k) (k:=j) (by assumption) (by assumption) (by assumption) (Uy (by assumption) (by assumption))).symm)
    |exact⟨j+1,⟨by omega,hJ.step (by assumption) (by assumption) (VA (by assumption))⟩,by omega,A7 h0 rfl ⟨rfl,rfl,rfl,rfl,rfl,rfl,rfl,trivial⟩ ⟨rfl,rfl,trivial⟩ rfl rfl rfl⟩
    |exact⟨j+1,⟨by omega,hJ.step (by assumption) (by assumption) (Uz (Decidable.of_not_not (by assumption)))⟩,by omega,A7 h0 rfl ⟨rfl,rfl,rfl,rfl,rfl,rfl,rfl,trivial⟩ ⟨rfl,rfl,trivial⟩ rfl rfl rfl⟩
    |exact⟨k+1,⟨by omega,hJ.next (by assumption)⟩,by omega,A6 h0⟩
  all_goals first
   |exact A1 rfl (congrArg AV.b (hI.done (by assumption)).symm)
 ·obtain⟨nm,hm⟩:∃nm,R8 c nm:=by
   rcases hd.col hc with ⟨h,_⟩|⟨_,rfl|rfl⟩|⟨_,h⟩
   ·omega
   ·exact absurd rfl hk
   ·exact absurd rfl hk
   ·exact h
  have hn':n=c.widths.length:=by have h:=hb.fin;unfold M1 at h;rw[if_neg hk]at h;omega
  have qI:=hm.kind
  rw[hd.divB hi hc hb ho hL]
  clear hb
  subst hn'
  obtain⟨hw,_,_⟩:=q8 hm (a:=L) (b:=L) (by omega) (Nat.le_refl _) hL
  have hwL:=CZ c L (by omega) (by omega)
  have sY:=hm.low
  have rn:=hm.high
  have oY:=OZ c.low (B1 c L) hw.1 (by omega)
  have vY:=fJ hm hw
  by_cases ho0:o=0
  ·subst ho0
   have hz:=cG (s:=s) hm (L:=L) (by omega) hL
   rw[show ((0:Nat):Int)=0 from rfl,←hz]
   clear hz
   generalize B1 c L=w at *
   refine B5 Tryz.func173 121 fun nL E h0=>?_
   clear nL
   repeat'((first|(refine A2 (x:=c) hc (by omega) ?_)|refine A0 hwL ?_|refine A0 oY ?_ |refine S2 ?_|(refine T6 ?_ ?_<;>intro h<;>try exact V1 h)|intro el nJ nK|intro el nJ|exact T4|refine T5 ?_ ?_|intro ex)<;>try conv=>whnf)
   all_goals first
    |exact A1 rfl (congrArg AV.b (by simp[*]))
  ·have hz:=fI (s:=s) hm (o:=o) (L:=L) (by omega) hL ho0
   obtain⟨_,hW,_⟩:=q8 hm (a:=L) (b:=o) (by omega) (by omega) hL
   have hwo:=CZ c o (by omega) (by omega)
   rw[←hz]
   clear hz
   generalize B1 c L=w at *
   generalize B1 c o=W at *
   refine B5 Tryz.func173 121 fun nL E h0=>?_
   clear nL
   repeat'((first|(refine A2 (x:=c) hc (by omega) ?_)|refine A0 hwL ?_|refine A0 oY ?_ |refine S2 ?_|(refine T6 ?_ ?_<;>intro h<;>try exact V1 h)|intro el nJ nK|intro el nJ|exact T4|refine T5 ?_ ?_|intro ex)<;>try conv=>whnf)
   refine B0 (ι:=Nat) (fun j=>⟨[(2,.i o),(9,.ref 1 0),(13,.i w),(14,.i (Ce ((c.low / w+1)*w) w j)),(15,.i j)],2,[(0,some (.box (sL s))),(1,some (.box (U6 c)))]⟩)
    (fun j=>j≤2∧∀q,q<j→Ce ((c.low / w+1)*w) w q≤c.high∧(Ce ((c.low / w+1)*w) w q).tmod W=0) (fun j=>2-j) 0 ⟨by omega,fun q hq=>absurd hq (Nat.not_lt_zero _)⟩
    (A6 h0) (fun j hJ=>?_)
   obtain⟨hj,hJ⟩:=hJ
   obtain rfl|rfl|rfl:j=0∨j=1∨j=2:=by omega
   ·have qy:-40≤Ce ((c.low / w+1)*w) w 0∧Ce ((c.low / w+1)*w) w 0≤40:=by simp only[Ce];omega
    repeat'((first|refine A0 hwo ?_ |refine S2 ?_|(refine T6 ?_ ?_<;>intro h<;>try exact V1 h)|intro el nJ nK|intro el nJ|exact T4|refine T5 ?_ ?_|intro ex)<;>try conv=>whnf)
    all_goals first
     |exact A1 rfl (congrArg AV.b (jX (by assumption) (by assumption)).symm)
     |exact A1 rfl (congrArg AV.b (jY (by assumption)).symm)
     |exact⟨1,⟨by omega,fun q hq=>by
        obtain rfl:q=0:=by omega
        exact⟨by assumption,Decidable.of_not_not (by assumption)⟩⟩,by omega,A6 h0⟩
   ·have uG:=hJ 0 (by omega)
    simp only[Ce]at uG
    have vC:-40≤Ce ((c.low / w+1)*w) w 1∧Ce ((c.low / w+1)*w) w 1≤60:=by simp only[Ce];omega
    repeat'((first|refine A0 hwo ?_ |refine S2 ?_|(refine T6 ?_ ?_<;>intro h<;>try exact V1 h)|intro el nJ nK|intro el nJ|exact T4|refine T5 ?_ ?_|intro ex)<;>try conv=>whnf)
    all_goals first
     |exact A1 rfl (congrArg AV.b (jZ uG (by assumption) (by assumption)).symm)
     |exact A1 rfl (congrArg AV.b (ja uG (by assumption)).symm)
     |exact⟨2,⟨by omega,fun q hq=>by
        obtain rfl|rfl:q=0∨q=1:=by omega
        ·exact uG
        ·exact⟨by assumption,Decidable.of_not_not (by assumption)⟩⟩,by omega,A6 h0⟩
   ·have uG:=hJ 0 (by omega)
    have hJ1:=hJ 1 (by omega)
    simp only[Ce]at uG hJ1
    repeat'((first|refine S2 ?_|(refine T6 ?_ ?_<;>intro h<;>try exact V1 h)|intro el nJ nK|intro el nJ|exact T4|refine T5 ?_ ?_|intro ex)<;>try conv=>whnf)
    all_goals first
     |exact A1 rfl (congrArg AV.b (jb uG hJ1).symm)
theorem HM(s:A4)(column level:Int)(hd:E4 s):A3 Tryz.prog 119 [sA s,.i column,.i level] (.i (H7 s column level)):=by
 have ng:=N0 s column
 have oc:=Z0 level 0 (B4 s column)
 by_cases hb:0≤level∧level≤B4 s column
 ·obtain⟨hr,h1,h2,h4⟩:=Bz (s:=s) (column:=column) (level:=level) hb.1 hb.2
  obtain⟨i,rfl⟩:=Int.eq_ofNat_of_zero_le (show 0≤column by omega)
  obtain⟨L,rfl⟩:=Int.eq_ofNat_of_zero_le (show 0≤level by omega)
  obtain⟨c,hc⟩:∃c,s.cols[i]?=some c:=⟨_,List.getElem?_eq_getElem (by omega)⟩
  obtain⟨n,hB⟩:=hd.blk (i:=i) (by omega) hc
  have nY:B6 s i=c:=B9 (by simpa using hc)
  have hLn:L≤n:=by
   have hf:=hB.fin
   have:E6 s i=M1 s c:=by unfold E6;rw[if_neg (by omega),nY]
   omega
  have e:H7 s i L=e8 s c L:=by
   unfold H7;rw[if_neg (by omega),nY];rfl
  rw[e]
  rw[decide_eq_true hb]at oc
  refine B5 Tryz.func119 23 fun nL E h0=>?_
  clear nL
  repeat'((first|refine A0 ng ?_|refine A0 oc ?_ |refine S2 ?_|(refine T6 ?_ ?_<;>intro h<;>try exact V1 h)|intro el nJ nK|intro el nJ|exact T4|refine T5 ?_ ?_|intro ex)<;>try conv=>whnf)
  refine B0 (ι:=Nat) (fun k=>⟨[(1,.i i),(2,.i L),(3,.ref 0 0),(7,.i k)],1,[(0,some (.box (sL s)))]⟩) (fun k=>k≤L∧∀o:Nat,o<k→K6 s c o≠K6 s c L) (fun k=>L-k) 0 ⟨Nat.zero_le _,fun o ho=>absurd ho (Nat.not_lt_zero _)⟩
   (A6 h0) (fun k hI=>?_)
  obtain⟨hk,hI⟩:=hI
  have hdv:=Rn s i k L hd (by omega) hc hB hk hLn
  have hL4:=hB.le
  repeat'((first|refine A0 hdv ?_ |refine S2 ?_|(refine T6 ?_ ?_<;>intro h<;>try exact V1 h)|intro el nJ nK|intro el nJ|exact T4|refine T5 ?_ ?_|intro ex)<;>try conv=>whnf)
  all_goals first
   |exact A1 rfl (congrArg AV.i (UH hB hLn hI (by assumption)))
   |(have hkL:k≠L:=by
      intro e
      subst e
      exact absurd rfl (by assumption)
     exact⟨k+1,⟨by omega,fun o ho=>by
      by_cases eo:o=k
      ·subst eo;assumption
      ·exact hI o (by omega)⟩,by omega,A6 h0⟩)
 ·have e:H7 s column level=-1:=by unfold H7;rw[if_pos (by omega)]
  rw[e]
  rw[decide_eq_false hb]at oc
  refine B5 Tryz.func119 23 fun nL E h0=>?_
  clear nL
  repeat'((first|refine A0 ng ?_|refine A0 oc ?_ |refine S2 ?_|(refine T6 ?_ ?_<;>intro h<;>try exact V1 h)|intro el nJ nK|intro el nJ|exact T4|refine T5 ?_ ?_|intro ex)<;>try conv=>whnf)
  all_goals exact A1 rfl rfl
theorem fK{s:A4}{a:B7}{level:Int}(hr:C3 s=0)(ha:H9 s a=0)(h2:a.op=2)(h0:0≤level)(h1:level≤E6 s a.col):a8 s a level=divB (M3 s a) (G1 s a.col level) ((F9 s a.col).map fun n:Nat=>(n:Int)):=by
 obtain⟨x,hx,c1,c2,q2,_⟩:=x9 hr ha (.inl h2)
 obtain⟨hk,_⟩:=q2 h2
 have qk:∀v∈F9 s a.col,G1 s a.col level v=L3 (C2 s (B6 s a.col)).1 (C2 s (B6 s a.col)).2 v level:=fun v hv=>by
  rw[B9 hx]
  exact(GE hr c1 hx hk h0 (by rw[B4,if_pos hr];exact h1) hv).1
 unfold a8
 rw[if_pos h2,Bool.eq_iff_iff,decide_eq_true_iff,UF]
 constructor
 ·intro h u hu v hv hne e
  obtain⟨u',qv,rfl⟩:=List.mem_map.1 hu
  obtain⟨v',ob,rfl⟩:=List.mem_map.1 hv
  rw[qk u' qv,qk v' ob]at e
  exact hne (h u' qv v' ob e)
 ·intro h u hu v hv e
  refine Classical.byContradiction fun hne=>?_
  refine h u (List.mem_map.2 ⟨u,hu,rfl⟩) v (List.mem_map.2 ⟨v,hv,rfl⟩) hne ?_
  rw[qk u hu,qk v hv]
  exact e
theorem ZR(s:A4)(a:B7)(level:Int)(hr:C3 s=0)(ha:H9 s a=0)(h2:a.op=2)(zZ:0≤level)(vA:level≤E6 s a.col):A3 Tryz.prog 185 [sA s,D5 a,.i level] (.b (a8 s a level)):=by
 obtain⟨x,hx,c1,c2,q2,_⟩:=x9 hr ha (.inl h2)
 obtain⟨hk,pL,nv,hf⟩:=q2 h2
 rw[fK hr ha h2 zZ vA]
 have pt:=fun v=>Ix s a v (.inl h2) (Ej hr ha)
 have wC:=fun v=>AN s a.col level v
 have pX:A3 Tryz.prog 138 [sA s,.i a.col] (.sl 1 (((F9 s a.col).map fun n:Nat=>(n:Int)).map wA)) :=
  (BB s a.col (by omega) hx ⟨pL,nv⟩).congr (congrArg (AV.sl 1) (by rw[List.map_map];rfl))
 have AB5:=Ah (C2 s (B6 s a.col)).1 (C2 s (B6 s a.col)).2 (C5 (C2 s (B6 s a.col)).1 (C2 s (B6 s a.col)).2-1)
 have sk:((F9 s a.col).map fun n:Nat=>(n:Int)).length≤9223372036854775807:=by
  rw[List.length_map]
  have hc:chk (C2 s x).1 (C2 s x).2=0:=(D2 hr).2.2.1 _ (by unfold C2;rw[List.getD_eq_getElem?_getD,List.getElem?_eq_getElem (by omega)];exact List.getElem_mem _)
  have:=Bi hc
  rw[B9 hx]at AB5
  unfold F9
  rw[B9 hx]
  omega
 generalize ((F9 s a.col).map fun n:Nat=>(n:Int))=al at *
 rw[F8]at *
 refine B5 Tryz.func185 140 fun nL E h0=>?_
 clear nL
 repeat'((first|(refine A2 (x:=x) hx (by omega) ?_)|refine A0 pX ?_ |refine S2 ?_|(refine T6 ?_ ?_<;>intro h<;>try exact V1 h)|intro el nJ nK|intro el nJ|exact T4|refine T5 ?_ ?_|intro ex)<;>try conv=>whnf)
 refine B0 (ι:=Nat) (fun k=>⟨[(2,.i level),(3,.ref 0 0),(4,.ref 1 0),(8,.sl 1 (al.map wA)),(9,.i k)],3,[(0,some (.box (sL s))),(1,some (.box (M9 a)))]⟩) (fun k=>k≤al.length∧Do (M3 s a) (G1 s a.col level) al k 0) (fun k=>al.length-k) 0 ⟨Nat.zero_le _,Do.zero _ _ _⟩ (A6 h0) (fun k hI=>?_)
 obtain⟨pd,hI⟩:=hI
 repeat'((first|refine S2 ?_|(refine T6 ?_ ?_<;>intro h<;>try exact V1 h)|intro el nJ nK|intro el nJ|exact T4|refine T5 ?_ ?_|intro ex)<;>try conv=>whnf)
 ·refine B0 (ι:=Nat) (fun j=>⟨[(2,.i level),(3,.ref 0 0),(4,.ref 1 0),(8,.sl 1 (al.map wA)),(9,.i k),(10,.i j)],3,[(0,some (.box (sL s))),(1,some (.box (M9 a)))]⟩) (fun j=>j≤k∧Do (M3 s a) (G1 s a.col level) al k j) (fun j=>k-j) 0 ⟨Nat.zero_le _,hI⟩ (A6 h0) (fun j hJ=>?_)
  obtain⟨vg,hJ⟩:=hJ
  repeat'((first|refine A0 (wC _) ?_|refine A0 (pt _) ?_ |refine S2 ?_|(refine T6 ?_ ?_<;>intro h<;>try exact V1 h)|intro el nJ nK|intro el nJ|exact T4|refine T5 ?_ ?_|intro ex)<;>try conv=>whnf)
  all_goals first
   |exact A1 rfl (congrArg AV.b (Do.hit (i:=k) (k:=j) (by assumption) (by assumption) (by assumption) (Uy (by assumption) (by assumption))).symm)
   |exact⟨j+1,⟨by omega,hJ.step (by assumption) (by assumption) (VA (by assumption))⟩,by omega,A7 h0 rfl ⟨rfl,rfl,rfl,rfl,rfl,rfl,trivial⟩ ⟨rfl,rfl,trivial⟩ rfl rfl rfl⟩
   |exact⟨j+1,⟨by omega,hJ.step (by assumption) (by assumption) (Uz (Decidable.of_not_not (by assumption)))⟩,by omega,A7 h0 rfl ⟨rfl,rfl,rfl,rfl,rfl,rfl,trivial⟩ ⟨rfl,rfl,trivial⟩ rfl rfl rfl⟩
   |exact⟨k+1,⟨by omega,hJ.next (by assumption)⟩,by omega,A6 h0⟩
 all_goals first
  |exact A1 rfl (congrArg AV.b (hI.done (by assumption)).symm)
theorem ZS(s:A4)(a:B7)(level:Int)(hr:C3 s=0)(ha:H9 s a=0)(ho:a.op=3∨a.op=4)(zZ:0≤level)(vA:level≤E6 s a.col):A3 Tryz.prog 185 [sA s,D5 a,.i level] (.b (a8 s a level)):=by
 obtain⟨x,hx,c1,c2,_,q2,q3,q4⟩:=x9 hr ha (.inr ho)
 obtain⟨hk,hm,hf⟩:=q2 (by omega)
 rw[hf]at vA
 have hp:=U1 hm
 have qH:¬level=0→1≤B1 x level∧B1 x level≤1000000:=fun h=>k7 hp.2.2.2.2.2 (by omega) vA
 have sX:¬level=0→A3 Tryz.prog 151 [U0 x,.i level] (.i (B1 x level)):=fun h=>CZ x level (by omega) vA
 rw[F8]at *
 by_cases h4:a.op=4
 ·rw[Mb h4]
  refine B5 Tryz.func185 140 fun nL E h0=>?_
  clear nL
  repeat'((first|(refine A2 (x:=x) hx (by omega) ?_) |refine S2 ?_|(refine T6 ?_ ?_<;>intro h<;>try exact V1 h)|intro el nJ nK|intro el nJ|exact T4|refine T5 ?_ ?_|intro ex)<;>try conv=>whnf)
  all_goals first
   |exact A1 rfl rfl
 have h3:a.op=3:=by omega
 have ze:=q3 h3
 rw[Mc h3 hx]
 refine B5 Tryz.func185 140 fun nL E h0=>?_
 clear nL
 repeat'((first|(refine A2 (x:=x) hx (by omega) ?_)|refine A0 (sX (by assumption)) ?_|(refine J0 ?_ ?_;(have:=qH (by assumption);omega))|(refine A9 ?_ ?_;kernel_rfl) |refine S2 ?_|(refine T6 ?_ ?_<;>intro h<;>try exact V1 h)|intro el nJ nK|intro el nJ|exact T4|refine T5 ?_ ?_|intro ex)<;>try conv=>whnf)
 all_goals (refine A1 rfl (congrArg AV.b (Bool.eq_iff_iff.2 ?_));simp only[decide_eq_true_iff,Bool.not_eq_true',decide_eq_false_iff_not,true_iff,false_iff,Bool.false_eq_true,Bool.not_false,Bool.not_true];unfold HC)
 all_goals first
  |(rw[if_pos (by assumption:level=0),(by assumption:x.opt=false)];simp only[true_and];omega)
  |(rw[if_pos (by assumption:level=0),(by assumption:x.opt=true)];simp;done)
  |(rw[if_neg (by assumption:¬level=0)];omega)
  |(clear h0;trace_state)
end Go.Proofs.YtiphlhoclaogjaaGreatDoor
