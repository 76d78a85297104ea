/- Chapter 5: picks raised to a level. -/
import Derived.Test.YtiphlhoclaogjaaGreatDoorSC3
import Derived.Test.YtiphlhoclaogjaaGreatDoorSB13
import Derived.Test.YtiphlhoclaogjaaGreatDoorSB10
set_option linter.unusedVariables false
set_option linter.unnecessarySimpa false
set_option linter.unusedSimpArgs false
set_option maxHeartbeats 64000000
namespace Go.Proofs.YtiphlhoclaogjaaGreatDoor
open Go Go.Av
attribute [local irreducible] C7 B2 D3 C9 DQ D0 C8 St.le A3 B9
set_option maxRecDepth 100000
theorem AU(l:List Pk)(col lev:Int)(hl:l.length≤1000):A3 Tryz.prog 118 [.sl 2 (l.map B4),.i col,.i lev] (.sl 2 ((w5 l col lev).map B4)):=by
 refine B6 Tryz.func118 59 fun lW E h0=>?_
 clear lW
 unfold w5
 repeat'((first|refine S2 ?_|(refine T6 ?_ ?_<;>intro h<;>try exact V1 h)|intro el lU lV|intro el lU|exact T4|refine T5 ?_ ?_|intro ex)<;>try conv=>whnf)
 refine B0 (ι:=Nat×Bool×List Pk) (fun x=>⟨[(0,.sl 2 (l.map B4)),(1,.i col),(2,.i lev),(7,.row 0 0 x.2.2.length),(8,.b x.2.1),(9,.i x.1)],1,[(0,some (.row Nf 2 0 (x.2.2.map B4)))]⟩)
  (fun x=>x.1≤l.length∧x.2.2.length≤2*x.1∧O4 col lev l (decide (lev≤0)) []=O4 col lev (l.drop x.1) x.2.1 x.2.2) (fun x=>l.length-x.1) (0,decide (lev≤0),[]) ⟨Nat.zero_le _,Nat.zero_le _,rfl⟩
  (B5 (I9 (d:=7) (e:=Nf) (sz:=2) rfl) (A9 h0 rfl ⟨rfl,rfl,rfl,rfl,rfl,rfl,trivial⟩ ⟨⟨0,rfl⟩,trivial⟩ rfl rfl rfl)) (fun x hI=>?_)
 obtain⟨k,dn,out⟩:=x
 obtain⟨hk,ho,hI⟩:=hI
 dsimp only at hk ho hI ⊢
 repeat'((first|refine S2 ?_|(refine T6 ?_ ?_<;>intro h<;>try exact V1 h)|intro el lU lV|intro el lU|exact T4|refine T5 ?_ ?_|intro ex)<;>try conv=>whnf)
 all_goals first
  |exact⟨(k+1,true,out++[⟨col,lev⟩]++[el]),⟨by dsimp only;omega,by dsimp only;simp only[List.length_append,List.length_cons,List.length_nil];omega,by rw[hI,G3 lU,O4,if_pos ⟨by omega,by assumption⟩]⟩,by dsimp only;omega,A9 h0 rfl ⟨rfl,rfl,rfl,congrArg (fun z:Nat=>some (AV.row 0 0 z)) (by simp only[List.length_append];rfl),rfl,rfl,trivial⟩ ⟨⟨_,congrArg (C6.row Nf 2 _) (by simp only[List.map_append];rfl)⟩,trivial⟩ rfl rfl rfl⟩
  |exact⟨(k+1,dn,out++[el]),⟨by dsimp only;omega,by dsimp only;simp only[List.length_append,List.length_cons,List.length_nil];omega,by rw[hI,G3 lU,O4,if_neg (fun hh=>by first|(have h9:=hh.1;omega)|(have h9:=hh.2;simp_all;done)),if_neg (by omega)]⟩,by dsimp only;omega,A9 h0 rfl ⟨rfl,rfl,rfl,congrArg (fun z:Nat=>some (AV.row 0 0 z)) (by simp only[List.length_append];rfl),rfl,rfl,trivial⟩ ⟨⟨_,congrArg (C6.row Nf 2 _) (by simp only[List.map_append];rfl)⟩,trivial⟩ rfl rfl rfl⟩
  |exact⟨(k+1,true,out++[⟨el.col,max el.lev lev⟩]),⟨by dsimp only;omega,by dsimp only;simp only[List.length_append,List.length_cons,List.length_nil];omega,by rw[hI,G3 lU,O4,if_neg (fun hh=>by first|(have h9:=hh.1;omega)|(have h9:=hh.2;simp_all;done)),if_pos (by omega)]⟩,by dsimp only;omega,A9 h0 rfl ⟨rfl,rfl,rfl,congrArg (fun z:Nat=>some (AV.row 0 0 z)) (by simp only[List.length_append];rfl),rfl,rfl,trivial⟩ ⟨⟨_,congrArg (C6.row Nf 2 _) (by simp only[List.map_append];rfl)⟩,trivial⟩ rfl rfl rfl⟩
  |exact A0 rfl (congrArg (AV.sl 2) (by rw[hI,S6 (by assumption),O4,if_pos (by assumption)]))
  |exact A0 rfl (congrArg (AV.sl 2) (by rw[hI,S6 (by assumption),O4,if_neg (fun hh=>by simp_all)];rw[List.map_append];rfl))
def DN(f g:Int→Int)(l:List Int)(i k:Nat):Prop:=(∀i':Nat,i'<i→∀k':Nat,k'<i'→c8 f g (l.getD i' 0) (l.getD k' 0)=true)∧∀k':Nat,k'<k→c8 f g (l.getD i 0) (l.getD k' 0)=true
theorem DN.zero(f g:Int→Int)(l:List Int):DN f g l 0 0:=⟨fun i' h=>absurd h (Nat.not_lt_zero _),fun k' h=>absurd h (Nat.not_lt_zero _)⟩
theorem DN.step{f g:Int→Int}{l:List Int}{i k:Nat}{x y:Int}(h:DN f g l i k)(hx:l[i]?=some x)(hy:l[k]?=some y)(hp:c8 f g x y=true):DN f g l i (k+1):=by
 refine⟨h.1,fun k' hk=>?_⟩
 by_cases e:k'=k
 ·subst e;rw[E4 hx,E4 hy];exact hp
 ·exact h.2 k' (by omega)
theorem DN.next{f g:Int→Int}{l:List Int}{i k:Nat}(h:DN f g l i k)(hk:¬(k:Int)<i):DN f g l (i+1) 0:=by
 refine⟨fun i' hi k' mQ=>?_,fun k' h=>absurd h (Nat.not_lt_zero _)⟩
 by_cases e:i'=i
 ·subst e;exact h.2 k' (by omega)
 ·exact h.1 i' (by omega) k' mQ
theorem DN.hit{f g:Int→Int}{l:List Int}{i k:Nat}{x y:Int}(hx:l[i]?=some x)(hy:l[k]?=some y)(hk:(k:Int)<i)(hp:c8 f g x y=false):divB f g l=false:=by
 cases hd:divB f g l with
 |false=>rfl
 |true =>
  unfold divB at hd
  have:=List.all_eq_true.1 (List.all_eq_true.1 hd i (by rw[List.mem_range];exact F5 hx)) k (by rw[List.mem_range];omega)
  rw[E4 hx,E4 hy,hp]at this
  cases this
theorem DN.done{f g:Int→Int}{l:List Int}{i:Nat}(h:DN f g l i 0)(hi:¬(i:Int)<l.length):divB f g l=true:=by
 unfold divB
 simp only[List.all_eq_true,List.mem_range]
 intro i' h1 k' h2
 exact h.1 i' (by omega) k' h2
theorem UH{f g:Int→Int}{x y:Int}(h1:¬f x=f y)(h2:g x=g y):c8 f g x y=false:=by simp[c8,h1,h2]
theorem UI{f g:Int→Int}{x y:Int}(h1:f x=f y):c8 f g x y=true:=by simp[c8,h1]
theorem UJ{f g:Int→Int}{x y:Int}(h2:¬g x=g y):c8 f g x y=true:=by simp[c8,h2]
theorem E7.coa{s:A4}(h:E7 s){i:Nat}{c:D4}{n:Nat}(hi:0<i)(hc:s.cols[i]?=some c)(hn:M7 s c=n){lv:Nat}(nz:lv≤n)(v:Int):G2 s i lv v=O9 s c lv v:=by
 have lY:=F5 hc
 have lm:C0 s i=c:=C1 (by simpa using hc)
 have so:E5 s i=n:=by unfold E5;rw[if_neg (by omega),lm];exact hn
 have sw:B7 s i=n:=by unfold B7;rw[if_pos h.ok];exact so
 unfold G2
 rw[sw,if_neg (by omega),lm]
theorem E7.divB{s:A4}(h:E7 s){i:Nat}{c:D4}{n:Nat}(hi:0<i)(hc:s.cols[i]?=some c)(hb:TO s c n){o L:Nat}(ho:o≤L)(hL:L≤n):divB (G2 s i L) (G2 s i o) (EL s c)=decide (K4 s c o=K4 s c L):=by
 have e1:G2 s i L=O9 s c L:=funext fun v=>h.coa hi hc hb.fin hL v
 have e2:G2 s i o=O9 s c o:=funext fun v=>h.coa hi hc hb.fin (by omega) v
 rw[e1,e2]
 have:=hb.divs o L ho hL
 rw[←TN]at this
 by_cases hd:K4 s c o=K4 s c L
 ·rw[decide_eq_true hd];exact this.2 hd
 ·rw[decide_eq_false hd]
  cases hx:Go.Proofs.YtiphlhoclaogjaaGreatDoor.divB (O9 s c L) (O9 s c o) (EL s c)with
  |false=>rfl
  |true=>exact absurd (this.1 hx) hd
theorem dl{s:A4}{c:D4}{nm:List UInt8}(h:Q7 c nm){o L:Nat}(ho:o<L)(hL:L≤c.widths.length)(h0:o≠0):DD c.low c.high (A7 c L) (A7 c o)=decide (K4 s c o=K4 s c L):=by
 obtain⟨hw,hW,m,hm,e⟩:=l5 h (a:=L) (b:=o) (by omega) (by omega) hL
 have ht:=dB (low:=c.low) (high:=c.high) hw.1 hm
 have hc:=(Ov hw.1 hm h.high.1).2
 rw[←e]at ht hc
 rw[←hc]at ht
 rw[AK h (by omega) hL,AK h (by omega) (by omega)]
 by_cases hd:c.high / A7 c o-c.low / A7 c o=c.high / A7 c L-c.low / A7 c L
 ·rw[ht.2 hd,decide_eq_true (by omega)]
 ·rw[decide_eq_false (by omega)]
  cases hx:DD c.low c.high (A7 c L) (A7 c o)with
  |false=>rfl
  |true=>exact absurd (ht.1 hx) hd
theorem bH{s:A4}{c:D4}{nm:List UInt8}(h:Q7 c nm){L:Nat}(h0:0<L)(hL:L≤c.widths.length):(!c.opt && decide ((c.low / A7 c L+1)*A7 c L>c.high))=decide (K4 s c 0=K4 s c L):=by
 obtain⟨hw,_,_⟩:=l5 h (a:=L) (b:=L) (by omega) (Nat.le_refl _) hL
 rw[AK h (by omega) hL,Fu h]
 have oa:=JW hw.1 h.high.1
 have key:(c.low / A7 c L+1)*A7 c L>c.high↔c.high / A7 c L=c.low / A7 c L:=by
  have h1:=Int.mul_ediv_add_emod c.high (A7 c L)
  have h2:=Int.emod_nonneg c.high (b:=A7 c L) (by omega)
  have h3:=Int.emod_lt_of_pos c.high (b:=A7 c L) (by omega)
  rw[Int.add_mul,Int.one_mul,Int.mul_comm]
  constructor
  ·intro h
   rcases Int.lt_or_le (c.low / A7 c L) (c.high / A7 c L)with h4|h4
   ·have:=Int.mul_le_mul_of_nonneg_left (show c.low / A7 c L+1≤c.high / A7 c L by omega) (show 0≤A7 c L by omega)
    rw[Int.mul_add,Int.mul_one]at this
    omega
   ·omega
  ·intro h;rw[←h];omega
 cases c.opt with
 |true=>simp;omega
 |false =>
  simp only[Bool.not_false,Bool.true_and,key,Bool.false_eq_true,if_false]
  congr 1
  apply propext
  omega
theorem dm{c:D4}{nm:List UInt8}(h:Q7 c nm){w:Int}(hw:1≤w∧w≤20):-40≤(c.low / w+1)*w∧(c.low / w+1)*w≤40∧-10≤c.low / w∧c.low / w≤10:=by
 have h1:=Int.mul_ediv_add_emod c.low w
 have h2:=Int.emod_nonneg c.low (b:=w) (by omega)
 have h3:=Int.emod_lt_of_pos c.low (b:=w) (by omega)
 have hl:=h.low
 have h4:=V3 c.low hw.1
 have h5:-4≤c.low / w:=by
  have:=Int.ediv_le_ediv (a:=-4) (b:=c.low) (c:=w) (by omega) hl.1
  have h6:-4≤(-4:Int) / w:=by
   rw[Int.le_ediv_iff_mul_le (by omega)];omega
  omega
 have h6:c.low / w≤2:=by
  have:=Int.ediv_le_ediv (a:=c.low) (b:=2) (c:=w) (by omega) hl.2
  have h7:(2:Int) / w≤2:=Int.ediv_le_self w (by omega)
  omega
 rw[Int.add_mul,Int.one_mul,Int.mul_comm]
 omega
def CB(f w:Int):Nat→Int
 |0=>f
 |n+1=>CB f w n+w
theorem hH{lo hi w W:Int}(h1:(lo / w+1)*w≤hi)(h2:((lo / w+1)*w).tmod W≠0):DD lo hi w W=false:=by
 have h3:¬hi<(lo / w+1)*w:=by omega
 simp[DD,h3,h2]
theorem iB{lo hi w W:Int}(h1:¬(lo / w+1)*w≤hi):DD lo hi w W=true:=by
 have h3:hi<(lo / w+1)*w:=by omega
 simp[DD,h3]
theorem iC{lo hi w W:Int}(h0:(lo / w+1)*w≤hi∧((lo / w+1)*w).tmod W=0)(h1:(lo / w+1)*w+w≤hi)(h2:((lo / w+1)*w+w).tmod W≠0):DD lo hi w W=false:=by
 have h3:¬hi<(lo / w+1)*w:=by omega
 have h4:¬hi<(lo / w+1)*w+w:=by omega
 simp[DD,h3,h4,h2]
theorem iD{lo hi w W:Int}(h0:(lo / w+1)*w≤hi∧((lo / w+1)*w).tmod W=0)(h1:¬(lo / w+1)*w+w≤hi):DD lo hi w W=true:=by
 have h4:hi<(lo / w+1)*w+w:=by omega
 simp[DD,h4,h0.2]
theorem iE{lo hi w W:Int}(h0:(lo / w+1)*w≤hi∧((lo / w+1)*w).tmod W=0)(h1:(lo / w+1)*w+w≤hi∧((lo / w+1)*w+w).tmod W=0):DD lo hi w W=true:=by
 simp[DD,h0.2,h1.2]
theorem Qw(s:A4)(i o L:Nat){c:D4}{n:Nat}(hd:E7 s)(hi:0<i)(hc:s.cols[i]?=some c)(hb:TO s c n)(ho:o≤L)(hL:L≤n):A3 Tryz.prog 173 [sA s,.i i,.i o,.i L] (.b (decide (K4 s c o=K4 s c L))):=by
 have lY:=F5 hc
 have hn:=hd.lens
 rw[←hd.divB hi hc hb ho hL]
 by_cases htriv:L=0∨L≤o
 ·have e:o=L:=by omega
  subst e
  rw[hd.divB hi hc hb (Nat.le_refl _) hL,decide_eq_true rfl]
  refine B6 Tryz.func173 121 fun lW E h0=>?_
  clear lW
  repeat'((first|(refine A2 (x:=c) hc (by omega) ?_) |refine S2 ?_|(refine T6 ?_ ?_<;>intro h<;>try exact V1 h)|intro el lU lV|intro el lU|exact T4|refine T5 ?_ ?_|intro ex)<;>try conv=>whnf)
  all_goals exact A0 rfl rfl
 by_cases hk:c.kind=2
 ·obtain⟨nS,e1,nL,mO⟩:=hd.lvs hc hk
  have tg:=w8 s i
  have nz:A3 Tryz.prog 138 [sA s,.i i] (.sl 1 ((EL s c).map wA)):=by
   refine(Af s i (by omega) (by simpa using hc) nS).congr (congrArg (AV.sl 1) ?_)
   unfold EL
   rw[if_pos hk,←e1,List.map_map]
   rfl
  have rj:(EL s c).length≤10:=by
   unfold EL;rw[if_pos hk,←e1,List.length_map];exact mO
  generalize EL s c=al at *
  refine B6 Tryz.func173 121 fun lW E h0=>?_
  clear lW
  repeat'((first|(refine A2 (x:=c) hc (by omega) ?_)|refine A1 nz ?_ |refine S2 ?_|(refine T6 ?_ ?_<;>intro h<;>try exact V1 h)|intro el lU lV|intro el lU|exact T4|refine T5 ?_ ?_|intro ex)<;>try conv=>whnf)
  refine B0 (ι:=Nat) (fun k=>⟨[(1,.i i),(2,.i o),(3,.i L),(4,.ref 0 0),(10,.sl 1 (al.map wA)),(11,.i k)],2,[(0,some (.box (sL s))),(1,some (.box (X0 c)))]⟩) (fun k=>k≤al.length∧DN (G2 s i L) (G2 s i o) al k 0) (fun k=>al.length-k) 0 ⟨Nat.zero_le _,DN.zero _ _ _⟩ (A6 h0) (fun k hI=>?_)
  obtain⟨nr,hI⟩:=hI
  repeat'((first|refine S2 ?_|(refine T6 ?_ ?_<;>intro h<;>try exact V1 h)|intro el lU lV|intro el lU|exact T4|refine T5 ?_ ?_|intro ex)<;>try conv=>whnf)
  ·refine B0 (ι:=Nat) (fun j=>⟨[(1,.i i),(2,.i o),(3,.i L),(4,.ref 0 0),(10,.sl 1 (al.map wA)),(11,.i k),(12,.i j)],2,[(0,some (.box (sL s))),(1,some (.box (X0 c)))]⟩) (fun j=>j≤k∧DN (G2 s i L) (G2 s i o) al k j) (fun j=>k-j) 0 ⟨Nat.zero_le _,hI⟩ (A6 h0) (fun j hJ=>?_)
   obtain⟨tL,hJ⟩:=hJ
   repeat'((first|refine A1 (tg _ _) ?_ |refine S2 ?_|(refine T6 ?_ ?_<;>intro h<;>try exact V1 h)|intro el lU lV|intro el lU|exact T4|refine T5 ?_ ?_|intro ex)<;>try conv=>whnf)
   all_goals first
    |exact A0 rfl (congrArg AV.b (DN.hit (i:=k) (k:=j) (by assumption) (by assumption) (by assumption) (UH (by assumption) (by assumption))).symm)
    |exact⟨j+1,⟨by omega,hJ.step (by assumption) (by assumption) (UJ (by assumption))⟩,by omega,A6 h0⟩
    |exact⟨j+1,⟨by omega,hJ.step (by assumption) (by assumption) (UI (Decidable.of_not_not (by assumption)))⟩,by omega,A6 h0⟩
    |exact⟨k+1,⟨by omega,hJ.next (by assumption)⟩,by omega,A6 h0⟩
  all_goals first
   |exact A0 rfl (congrArg AV.b (hI.done (by assumption)).symm)
 ·obtain⟨nm,hm⟩:∃nm,Q7 c nm:=by
   rcases hd.col hc with ⟨h,_⟩|⟨_,rfl|rfl⟩|⟨_,h⟩
   ·omega
   ·exact absurd rfl hk
   ·exact absurd rfl hk
   ·exact h
  have hn':n=c.widths.length:=by have h:=hb.fin;unfold M7 at h;rw[if_neg hk]at h;omega
  have pF:=hm.kind
  rw[hd.divB hi hc hb ho hL]
  clear hb
  subst hn'
  obtain⟨hw,_,_⟩:=l5 hm (a:=L) (b:=L) (by omega) (Nat.le_refl _) hL
  have zD:=Bv c L (by omega) (by omega)
  have qH:=hm.low
  have pg:=hm.high
  have nB:=Nm c.low (A7 c L) hw.1 (by omega)
  have tJ:=dm hm hw
  by_cases ho0:o=0
  ·subst ho0
   have hz:=bH (s:=s) hm (L:=L) (by omega) hL
   rw[show ((0:Nat):Int)=0 from rfl,←hz]
   clear hz
   generalize A7 c L=w at *
   refine B6 Tryz.func173 121 fun lW E h0=>?_
   clear lW
   repeat'((first|(refine A2 (x:=c) hc (by omega) ?_)|refine A1 zD ?_|refine A1 nB ?_ |refine S2 ?_|(refine T6 ?_ ?_<;>intro h<;>try exact V1 h)|intro el lU lV|intro el lU|exact T4|refine T5 ?_ ?_|intro ex)<;>try conv=>whnf)
   all_goals first
    |exact A0 rfl (congrArg AV.b (by simp[*]))
  ·have hz:=dl (s:=s) hm (o:=o) (L:=L) (by omega) hL ho0
   obtain⟨_,hW,_⟩:=l5 hm (a:=L) (b:=o) (by omega) (by omega) hL
   have zT:=Bv c o (by omega) (by omega)
   rw[←hz]
   clear hz
   generalize A7 c L=w at *
   generalize A7 c o=W at *
   refine B6 Tryz.func173 121 fun lW E h0=>?_
   clear lW
   repeat'((first|(refine A2 (x:=c) hc (by omega) ?_)|refine A1 zD ?_|refine A1 nB ?_ |refine S2 ?_|(refine T6 ?_ ?_<;>intro h<;>try exact V1 h)|intro el lU lV|intro el lU|exact T4|refine T5 ?_ ?_|intro ex)<;>try conv=>whnf)
   refine B0 (ι:=Nat) (fun j=>⟨[(2,.i o),(9,.ref 1 0),(13,.i w),(14,.i (CB ((c.low / w+1)*w) w j)),(15,.i j)],2,[(0,some (.box (sL s))),(1,some (.box (X0 c)))]⟩)
    (fun j=>j≤2∧∀q,q<j→CB ((c.low / w+1)*w) w q≤c.high∧(CB ((c.low / w+1)*w) w q).tmod W=0) (fun j=>2-j) 0 ⟨by omega,fun q hq=>absurd hq (Nat.not_lt_zero _)⟩
    (A6 h0) (fun j hJ=>?_)
   obtain⟨hj,hJ⟩:=hJ
   obtain rfl|rfl|rfl:j=0∨j=1∨j=2:=by omega
   ·have pT:-40≤CB ((c.low / w+1)*w) w 0∧CB ((c.low / w+1)*w) w 0≤40:=by simp only[CB];omega
    repeat'((first|refine A1 zT ?_ |refine S2 ?_|(refine T6 ?_ ?_<;>intro h<;>try exact V1 h)|intro el lU lV|intro el lU|exact T4|refine T5 ?_ ?_|intro ex)<;>try conv=>whnf)
    all_goals first
     |exact A0 rfl (congrArg AV.b (hH (by assumption) (by assumption)).symm)
     |exact A0 rfl (congrArg AV.b (iB (by assumption)).symm)
     |exact⟨1,⟨by omega,fun q hq=>by
        obtain rfl:q=0:=by omega
        exact⟨by assumption,Decidable.of_not_not (by assumption)⟩⟩,by omega,A6 h0⟩
   ·have rh:=hJ 0 (by omega)
    simp only[CB]at rh
    have rr:-40≤CB ((c.low / w+1)*w) w 1∧CB ((c.low / w+1)*w) w 1≤60:=by simp only[CB];omega
    repeat'((first|refine A1 zT ?_ |refine S2 ?_|(refine T6 ?_ ?_<;>intro h<;>try exact V1 h)|intro el lU lV|intro el lU|exact T4|refine T5 ?_ ?_|intro ex)<;>try conv=>whnf)
    all_goals first
     |exact A0 rfl (congrArg AV.b (iC rh (by assumption) (by assumption)).symm)
     |exact A0 rfl (congrArg AV.b (iD rh (by assumption)).symm)
     |exact⟨2,⟨by omega,fun q hq=>by
        obtain rfl|rfl:q=0∨q=1:=by omega
        ·exact rh
        ·exact⟨by assumption,Decidable.of_not_not (by assumption)⟩⟩,by omega,A6 h0⟩
   ·have rh:=hJ 0 (by omega)
    have zK:=hJ 1 (by omega)
    simp only[CB]at rh zK
    repeat'((first|refine S2 ?_|(refine T6 ?_ ?_<;>intro h<;>try exact V1 h)|intro el lU lV|intro el lU|exact T4|refine T5 ?_ ?_|intro ex)<;>try conv=>whnf)
    all_goals first
     |exact A0 rfl (congrArg AV.b (iE rh zK).symm)
theorem VV(s:A4)(column level:Int)(hd:E7 s):A3 Tryz.prog 119 [sA s,.i column,.i level] (.i (K5 s column level)):=by
 have lr:=T7 s column
 have mm:=W7 level 0 (B7 s column)
 by_cases hb:0≤level∧level≤B7 s column
 ·obtain⟨hr,h1,h2,h4⟩:=BZ (s:=s) (column:=column) (level:=level) hb.1 hb.2
  obtain⟨i,rfl⟩:=Int.eq_ofNat_of_zero_le (show 0≤column by omega)
  obtain⟨L,rfl⟩:=Int.eq_ofNat_of_zero_le (show 0≤level by omega)
  obtain⟨c,hc⟩:∃c,s.cols[i]?=some c:=⟨_,List.getElem?_eq_getElem (by omega)⟩
  obtain⟨n,hB⟩:=hd.blk (i:=i) (by omega) hc
  have lm:C0 s i=c:=C1 (by simpa using hc)
  have yX:L≤n:=by
   have hf:=hB.fin
   have:E5 s i=M7 s c:=by unfold E5;rw[if_neg (by omega),lm]
   omega
  have e:K5 s i L=Y4 s c L:=by
   unfold K5;rw[if_neg (by omega),lm];rfl
  rw[e]
  rw[decide_eq_true hb]at mm
  refine B6 Tryz.func119 23 fun lW E h0=>?_
  clear lW
  repeat'((first|refine A1 lr ?_|refine A1 mm ?_ |refine S2 ?_|(refine T6 ?_ ?_<;>intro h<;>try exact V1 h)|intro el lU lV|intro el lU|exact T4|refine T5 ?_ ?_|intro ex)<;>try conv=>whnf)
  refine B0 (ι:=Nat) (fun k=>⟨[(1,.i i),(2,.i L),(3,.ref 0 0),(7,.i k)],1,[(0,some (.box (sL s)))]⟩) (fun k=>k≤L∧∀o:Nat,o<k→K4 s c o≠K4 s c L) (fun k=>L-k) 0 ⟨Nat.zero_le _,fun o ho=>absurd ho (Nat.not_lt_zero _)⟩
   (A6 h0) (fun k hI=>?_)
  obtain⟨hk,hI⟩:=hI
  have hdv:=Qw s i k L hd (by omega) hc hB hk yX
  have hL4:=hB.le
  repeat'((first|refine A1 hdv ?_ |refine S2 ?_|(refine T6 ?_ ?_<;>intro h<;>try exact V1 h)|intro el lU lV|intro el lU|exact T4|refine T5 ?_ ?_|intro ex)<;>try conv=>whnf)
  all_goals first
   |exact A0 rfl (congrArg AV.i (TP hB yX hI (by assumption)))
   |(have hkL:k≠L:=by
      intro e
      subst e
      exact absurd rfl (by assumption)
     exact⟨k+1,⟨by omega,fun o ho=>by
      by_cases eo:o=k
      ·subst eo;assumption
      ·exact hI o (by omega)⟩,by omega,A6 h0⟩)
 ·have e:K5 s column level=-1:=by unfold K5;rw[if_pos (by omega)]
  rw[e]
  rw[decide_eq_false hb]at mm
  refine B6 Tryz.func119 23 fun lW E h0=>?_
  clear lW
  repeat'((first|refine A1 lr ?_|refine A1 mm ?_ |refine S2 ?_|(refine T6 ?_ ?_<;>intro h<;>try exact V1 h)|intro el lU lV|intro el lU|exact T4|refine T5 ?_ ?_|intro ex)<;>try conv=>whnf)
  all_goals exact A0 rfl rfl
end Go.Proofs.YtiphlhoclaogjaaGreatDoor
