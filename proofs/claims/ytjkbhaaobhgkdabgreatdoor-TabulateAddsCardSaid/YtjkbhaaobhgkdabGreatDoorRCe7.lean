/- Chapter 2: the reference's least level of a column of a drawn schema. -/
import Derived.Test.YtjkbhaaobhgkdabGreatDoorRB13
import Derived.Test.YtjkbhaaobhgkdabGreatDoorRB10
import Derived.Test.YtjkbhaaobhgkdabGreatDoorRC3
import Derived.Test.YtjkbhaaobhgkdabGreatDoorRC7
import Derived.Test.YtjkbhaaobhgkdabGreatDoorRTa2
set_option linter.unusedVariables false
set_option linter.unnecessarySimpa false
set_option linter.unusedSimpArgs false
set_option maxHeartbeats 64000000
namespace Go.Proofs.YtjkbhaaobhgkdabGreatDoor
open Go Go.Av
attribute [local irreducible] D0 B0 D2 C7 DQ D1 C8 St.le A3 B6
set_option maxRecDepth 100000
def DJ(f g:Int→Int)(l:List Int)(i k:Nat):Prop:=(∀i':Nat,i'<i→∀k':Nat,k'<i'→a7 f g (l.getD i' 0) (l.getD k' 0)=true)∧∀k':Nat,k'<k→a7 f g (l.getD i 0) (l.getD k' 0)=true
theorem DJ.zero(f g:Int→Int)(l:List Int):DJ f g l 0 0:=⟨fun i' h=>absurd h (Nat.not_lt_zero _),fun k' h=>absurd h (Nat.not_lt_zero _)⟩
theorem DJ.step{f g:Int→Int}{l:List Int}{i k:Nat}{x y:Int}(h:DJ f g l i k)(hx:l[i]?=some x)(hy:l[k]?=some y)(hp:a7 f g x y=true):DJ f g l i (k+1):=by
 refine⟨h.1,fun k' hk=>?_⟩
 by_cases e:k'=k
 ·subst e;rw[D3 hx,D3 hy];exact hp
 ·exact h.2 k' (by omega)
theorem DJ.next{f g:Int→Int}{l:List Int}{i k:Nat}(h:DJ f g l i k)(hk:¬(k:Int)<i):DJ f g l (i+1) 0:=by
 refine⟨fun i' hi k' oH=>?_,fun k' h=>absurd h (Nat.not_lt_zero _)⟩
 by_cases e:i'=i
 ·subst e;exact h.2 k' (by omega)
 ·exact h.1 i' (by omega) k' oH
theorem DJ.hit{f g:Int→Int}{l:List Int}{i k:Nat}{x y:Int}(hx:l[i]?=some x)(hy:l[k]?=some y)(hk:(k:Int)<i)(hp:a7 f g x y=false):divB f g l=false:=by
 cases hd:divB f g l with
 |false=>rfl
 |true =>
  unfold divB at hd
  have:=List.all_eq_true.1 (List.all_eq_true.1 hd i (by rw[List.mem_range];exact D6 hx)) k (by rw[List.mem_range];omega)
  rw[D3 hx,D3 hy,hp]at this
  cases this
theorem DJ.done{f g:Int→Int}{l:List Int}{i:Nat}(h:DJ f g l i 0)(hi:¬(i:Int)<l.length):divB f g l=true:=by
 unfold divB
 simp only[List.all_eq_true,List.mem_range]
 intro i' h1 k' h2
 exact h.1 i' (by omega) k' h2
theorem UY{f g:Int→Int}{x y:Int}(h1:¬f x=f y)(h2:g x=g y):a7 f g x y=false:=by simp[a7,h1,h2]
theorem UZ{f g:Int→Int}{x y:Int}(h1:f x=f y):a7 f g x y=true:=by simp[a7,h1]
theorem Ua{f g:Int→Int}{x y:Int}(h2:¬g x=g y):a7 f g x y=true:=by simp[a7,h2]
theorem C4.coa{s:A4}(h:C4 s){i:Nat}{c:D4}{n:Nat}(hi:0<i)(hc:s.cols[i]?=some c)(hn:N7 s c=n){lv:Nat}(qa:lv≤n)(v:Int):I0 s i lv v=O9 s c lv v:=by
 have nR:=D6 hc
 have nh:B4 s i=c:=B7 (by simpa using hc)
 have yC:F0 s i=n:=by unfold F0;rw[if_neg (by omega),nh];exact hn
 have yM:B9 s i=n:=by unfold B9;rw[if_pos h.ok];exact yC
 unfold I0
 rw[yM,if_neg (by omega),nh]
theorem C4.divB{s:A4}(h:C4 s){i:Nat}{c:D4}{n:Nat}(hi:0<i)(hc:s.cols[i]?=some c)(hb:TY s c n){o L:Nat}(ho:o≤L)(hL:L≤n):divB (I0 s i L) (I0 s i o) (EN s c)=decide (K1 s c o=K1 s c L):=by
 have e1:I0 s i L=O9 s c L:=funext fun v=>h.coa hi hc hb.fin hL v
 have e2:I0 s i o=O9 s c o:=funext fun v=>h.coa hi hc hb.fin (by omega) v
 rw[e1,e2]
 have:=hb.divs o L ho hL
 rw[←TX]at this
 by_cases hd:K1 s c o=K1 s c L
 ·rw[decide_eq_true hd];exact this.2 hd
 ·rw[decide_eq_false hd]
  cases hx:Go.Proofs.YtjkbhaaobhgkdabGreatDoor.divB (O9 s c L) (O9 s c o) (EN s c)with
  |false=>rfl
  |true=>exact absurd (this.1 hx) hd
theorem fD{s:A4}{c:D4}{nm:List UInt8}(h:P8 c nm){o L:Nat}(ho:o<L)(hL:L≤c.widths.length)(h0:o≠0):Cv c.low c.high (A9 c L) (A9 c o)=decide (K1 s c o=K1 s c L):=by
 obtain⟨hw,hW,m,hm,e⟩:=k6 h (a:=L) (b:=o) (by omega) (by omega) hL
 have ht:=eC (low:=c.low) (high:=c.high) hw.1 hm
 have hc:=(PA hw.1 hm h.high.1).2
 rw[←e]at ht hc
 rw[←hc]at ht
 rw[y4 h (by omega) hL,y4 h (by omega) (by omega)]
 by_cases hd:c.high / A9 c o-c.low / A9 c o=c.high / A9 c L-c.low / A9 c L
 ·rw[ht.2 hd,decide_eq_true (by omega)]
 ·rw[decide_eq_false (by omega)]
  cases hx:Cv c.low c.high (A9 c L) (A9 c o)with
  |false=>rfl
  |true=>exact absurd (ht.1 hx) hd
theorem bq{s:A4}{c:D4}{nm:List UInt8}(h:P8 c nm){L:Nat}(h0:0<L)(hL:L≤c.widths.length):(!c.opt && decide ((c.low / A9 c L+1)*A9 c L>c.high))=decide (K1 s c 0=K1 s c L):=by
 obtain⟨hw,_,_⟩:=k6 h (a:=L) (b:=L) (by omega) (Nat.le_refl _) hL
 rw[y4 h (by omega) hL,GB h]
 have qI:=Jc hw.1 h.high.1
 have key:(c.low / A9 c L+1)*A9 c L>c.high↔c.high / A9 c L=c.low / A9 c L:=by
  have h1:=Int.mul_ediv_add_emod c.high (A9 c L)
  have h2:=Int.emod_nonneg c.high (b:=A9 c L) (by omega)
  have h3:=Int.emod_lt_of_pos c.high (b:=A9 c L) (by omega)
  rw[Int.add_mul,Int.one_mul,Int.mul_comm]
  constructor
  ·intro h
   rcases Int.lt_or_le (c.low / A9 c L) (c.high / A9 c L)with h4|h4
   ·have:=Int.mul_le_mul_of_nonneg_left (show c.low / A9 c L+1≤c.high / A9 c L by omega) (show 0≤A9 c L by omega)
    rw[Int.mul_add,Int.mul_one]at this
    omega
   ·omega
  ·intro h;rw[←h];omega
 cases c.opt with
 |true=>simp;omega
 |false =>
  simp only[Bool.not_false,Bool.true_and,key,Bool.false_eq_true,if_false]
  congr 1
  apply propext
  omega
theorem fE{c:D4}{nm:List UInt8}(h:P8 c nm){w:Int}(hw:1≤w∧w≤20):-40≤(c.low / w+1)*w∧(c.low / w+1)*w≤40∧-10≤c.low / w∧c.low / w≤10:=by
 have h1:=Int.mul_ediv_add_emod c.low w
 have h2:=Int.emod_nonneg c.low (b:=w) (by omega)
 have h3:=Int.emod_lt_of_pos c.low (b:=w) (by omega)
 have hl:=h.low
 have h4:=T9 c.low hw.1
 have h5:-4≤c.low / w:=by
  have:=Int.ediv_le_ediv (a:=-4) (b:=c.low) (c:=w) (by omega) hl.1
  have h6:-4≤(-4:Int) / w:=by
   rw[Int.le_ediv_iff_mul_le (by omega)];omega
  omega
 have h6:c.low / w≤2:=by
  have:=Int.ediv_le_ediv (a:=c.low) (b:=2) (c:=w) (by omega) hl.2
  have h7:(2:Int) / w≤2:=Int.ediv_le_self w (by omega)
  omega
 rw[Int.add_mul,Int.one_mul,Int.mul_comm]
 omega
def Bp(f w:Int):Nat→Int
 |0=>f
 |n+1=>Bp f w n+w
theorem jO{lo hi w W:Int}(h1:(lo / w+1)*w≤hi)(h2:((lo / w+1)*w).tmod W≠0):Cv lo hi w W=false:=by
 have h3:¬hi<(lo / w+1)*w:=by omega
 simp[Cv,h3,h2]
theorem jP{lo hi w W:Int}(h1:¬(lo / w+1)*w≤hi):Cv lo hi w W=true:=by
 have h3:hi<(lo / w+1)*w:=by omega
 simp[Cv,h3]
theorem jQ{lo hi w W:Int}(h0:(lo / w+1)*w≤hi∧((lo / w+1)*w).tmod W=0)(h1:(lo / w+1)*w+w≤hi)(h2:((lo / w+1)*w+w).tmod W≠0):Cv lo hi w W=false:=by
 have h3:¬hi<(lo / w+1)*w:=by omega
 have h4:¬hi<(lo / w+1)*w+w:=by omega
 simp[Cv,h3,h4,h2]
theorem jR{lo hi w W:Int}(h0:(lo / w+1)*w≤hi∧((lo / w+1)*w).tmod W=0)(h1:¬(lo / w+1)*w+w≤hi):Cv lo hi w W=true:=by
 have h4:hi<(lo / w+1)*w+w:=by omega
 simp[Cv,h4,h0.2]
theorem jS{lo hi w W:Int}(h0:(lo / w+1)*w≤hi∧((lo / w+1)*w).tmod W=0)(h1:(lo / w+1)*w+w≤hi∧((lo / w+1)*w+w).tmod W=0):Cv lo hi w W=true:=by
 simp[Cv,h0.2,h1.2]
theorem RH(s:A4)(i o L:Nat){c:D4}{n:Nat}(hd:C4 s)(hi:0<i)(hc:s.cols[i]?=some c)(hb:TY s c n)(ho:o≤L)(hL:L≤n):A3 Tryz.prog 198 [sA s,.i i,.i o,.i L] (.b (decide (K1 s c o=K1 s c L))):=by
 have nR:=D6 hc
 have hn:=hd.lens
 rw[←hd.divB hi hc hb ho hL]
 by_cases htriv:L=0∨L≤o
 ·have e:o=L:=by omega
  subst e
  rw[hd.divB hi hc hb (Nat.le_refl _) hL,decide_eq_true rfl]
  refine C0 Tryz.func198 121 fun nQ E h0=>?_
  clear nQ
  repeat'((first|(refine A2 (x:=c) hc (by omega) ?_) |refine S2 ?_|(refine T6 ?_ ?_<;>intro h<;>try exact V1 h)|intro el nN nP|intro el nN|exact T4|refine T5 ?_ ?_|intro ex)<;>try conv=>whnf)
  all_goals exact A0 rfl rfl
 by_cases hk:c.kind=2
 ·obtain⟨oq,e1,om,oF⟩:=hd.lvs hc hk
  have vS:=Fa s i
  have qa:A3 Tryz.prog 116 [sA s,.i i] (.sl 1 ((EN s c).map wA)):=by
   refine(GX s i (by omega) (by simpa using hc) oq).congr (congrArg (AV.sl 1) ?_)
   unfold EN
   rw[if_pos hk,←e1,List.map_map]
   rfl
  have si:(EN s c).length≤10:=by
   unfold EN;rw[if_pos hk,←e1,List.length_map];exact oF
  generalize EN s c=al at *
  refine C0 Tryz.func198 121 fun nQ E h0=>?_
  clear nQ
  repeat'((first|(refine A2 (x:=c) hc (by omega) ?_)|refine A1 qa ?_ |refine S2 ?_|(refine T6 ?_ ?_<;>intro h<;>try exact V1 h)|intro el nN nP|intro el nN|exact T4|refine T5 ?_ ?_|intro ex)<;>try conv=>whnf)
  refine B2 (ι:=Nat) (fun k=>⟨[(1,.i i),(2,.i o),(3,.i L),(4,.ref 0 0),(10,.sl 1 (al.map wA)),(11,.i k)],2,[(0,some (.box (sL s))),(1,some (.box (W5 c)))]⟩) (fun k=>k≤al.length∧DJ (I0 s i L) (I0 s i o) al k 0) (fun k=>al.length-k) 0 ⟨Nat.zero_le _,DJ.zero _ _ _⟩ (A6 h0) (fun k hI=>?_)
  obtain⟨pk,hI⟩:=hI
  repeat'((first|refine S2 ?_|(refine T6 ?_ ?_<;>intro h<;>try exact V1 h)|intro el nN nP|intro el nN|exact T4|refine T5 ?_ ?_|intro ex)<;>try conv=>whnf)
  ·refine B2 (ι:=Nat) (fun j=>⟨[(1,.i i),(2,.i o),(3,.i L),(4,.ref 0 0),(10,.sl 1 (al.map wA)),(11,.i k),(12,.i j)],2,[(0,some (.box (sL s))),(1,some (.box (W5 c)))]⟩) (fun j=>j≤k∧DJ (I0 s i L) (I0 s i o) al k j) (fun j=>k-j) 0 ⟨Nat.zero_le _,hI⟩ (A6 h0) (fun j hJ=>?_)
   obtain⟨vC,hJ⟩:=hJ
   repeat'((first|refine A1 (vS _ _) ?_ |refine S2 ?_|(refine T6 ?_ ?_<;>intro h<;>try exact V1 h)|intro el nN nP|intro el nN|exact T4|refine T5 ?_ ?_|intro ex)<;>try conv=>whnf)
   all_goals first
    |exact A0 rfl (congrArg AV.b (DJ.hit (i:=k) (k:=j) (by assumption) (by assumption) (by assumption) (UY (by assumption) (by assumption))).symm)
    |exact⟨j+1,⟨by omega,hJ.step (by assumption) (by assumption) (Ua (by assumption))⟩,by omega,A6 h0⟩
    |exact⟨j+1,⟨by omega,hJ.step (by assumption) (by assumption) (UZ (Decidable.of_not_not (by assumption)))⟩,by omega,A6 h0⟩
    |exact⟨k+1,⟨by omega,hJ.next (by assumption)⟩,by omega,A6 h0⟩
  all_goals first
   |exact A0 rfl (congrArg AV.b (hI.done (by assumption)).symm)
 ·obtain⟨nm,hm⟩:∃nm,P8 c nm:=by
   rcases hd.col hc with ⟨h,_⟩|⟨_,rfl|rfl⟩|⟨_,h⟩
   ·omega
   ·exact absurd rfl hk
   ·exact absurd rfl hk
   ·exact h
  have hn':n=c.widths.length:=by have h:=hb.fin;unfold N7 at h;rw[if_neg hk]at h;omega
  have rT:=hm.kind
  rw[hd.divB hi hc hb ho hL]
  clear hb
  subst hn'
  obtain⟨hw,_,_⟩:=k6 hm (a:=L) (b:=L) (by omega) (Nat.le_refl _) hL
  have hwL:=Du c L (by omega) (by omega)
  have rk:=hm.low
  have rN:=hm.high
  have pF:=Ns c.low (A9 c L) hw.1 (by omega)
  have ux:=fE hm hw
  by_cases ho0:o=0
  ·subst ho0
   have hz:=bq (s:=s) hm (L:=L) (by omega) hL
   rw[show ((0:Nat):Int)=0 from rfl,←hz]
   clear hz
   generalize A9 c L=w at *
   refine C0 Tryz.func198 121 fun nQ E h0=>?_
   clear nQ
   repeat'((first|(refine A2 (x:=c) hc (by omega) ?_)|refine A1 hwL ?_|refine A1 pF ?_ |refine S2 ?_|(refine T6 ?_ ?_<;>intro h<;>try exact V1 h)|intro el nN nP|intro el nN|exact T4|refine T5 ?_ ?_|intro ex)<;>try conv=>whnf)
   all_goals first
    |exact A0 rfl (congrArg AV.b (by simp[*]))
  ·have hz:=fD (s:=s) hm (o:=o) (L:=L) (by omega) hL ho0
   obtain⟨_,hW,_⟩:=k6 hm (a:=L) (b:=o) (by omega) (by omega) hL
   have hwo:=Du c o (by omega) (by omega)
   rw[←hz]
   clear hz
   generalize A9 c L=w at *
   generalize A9 c o=W at *
   refine C0 Tryz.func198 121 fun nQ E h0=>?_
   clear nQ
   repeat'((first|(refine A2 (x:=c) hc (by omega) ?_)|refine A1 hwL ?_|refine A1 pF ?_ |refine S2 ?_|(refine T6 ?_ ?_<;>intro h<;>try exact V1 h)|intro el nN nP|intro el nN|exact T4|refine T5 ?_ ?_|intro ex)<;>try conv=>whnf)
   refine B2 (ι:=Nat) (fun j=>⟨[(2,.i o),(9,.ref 1 0),(13,.i w),(14,.i (Bp ((c.low / w+1)*w) w j)),(15,.i j)],2,[(0,some (.box (sL s))),(1,some (.box (W5 c)))]⟩)
    (fun j=>j≤2∧∀q,q<j→Bp ((c.low / w+1)*w) w q≤c.high∧(Bp ((c.low / w+1)*w) w q).tmod W=0) (fun j=>2-j) 0 ⟨by omega,fun q hq=>absurd hq (Nat.not_lt_zero _)⟩
    (A6 h0) (fun j hJ=>?_)
   obtain⟨hj,hJ⟩:=hJ
   obtain rfl|rfl|rfl:j=0∨j=1∨j=2:=by omega
   ·have rD:-40≤Bp ((c.low / w+1)*w) w 0∧Bp ((c.low / w+1)*w) w 0≤40:=by simp only[Bp];omega
    repeat'((first|refine A1 hwo ?_ |refine S2 ?_|(refine T6 ?_ ?_<;>intro h<;>try exact V1 h)|intro el nN nP|intro el nN|exact T4|refine T5 ?_ ?_|intro ex)<;>try conv=>whnf)
    all_goals first
     |exact A0 rfl (congrArg AV.b (jO (by assumption) (by assumption)).symm)
     |exact A0 rfl (congrArg AV.b (jP (by assumption)).symm)
     |exact⟨1,⟨by omega,fun q hq=>by
        obtain rfl:q=0:=by omega
        exact⟨by assumption,Decidable.of_not_not (by assumption)⟩⟩,by omega,A6 h0⟩
   ·have tP:=hJ 0 (by omega)
    simp only[Bp]at tP
    have uS:-40≤Bp ((c.low / w+1)*w) w 1∧Bp ((c.low / w+1)*w) w 1≤60:=by simp only[Bp];omega
    repeat'((first|refine A1 hwo ?_ |refine S2 ?_|(refine T6 ?_ ?_<;>intro h<;>try exact V1 h)|intro el nN nP|intro el nN|exact T4|refine T5 ?_ ?_|intro ex)<;>try conv=>whnf)
    all_goals first
     |exact A0 rfl (congrArg AV.b (jQ tP (by assumption) (by assumption)).symm)
     |exact A0 rfl (congrArg AV.b (jR tP (by assumption)).symm)
     |exact⟨2,⟨by omega,fun q hq=>by
        obtain rfl|rfl:q=0∨q=1:=by omega
        ·exact tP
        ·exact⟨by assumption,Decidable.of_not_not (by assumption)⟩⟩,by omega,A6 h0⟩
   ·have tP:=hJ 0 (by omega)
    have hJ1:=hJ 1 (by omega)
    simp only[Bp]at tP hJ1
    repeat'((first|refine S2 ?_|(refine T6 ?_ ?_<;>intro h<;>try exact V1 h)|intro el nN nP|intro el nN|exact T4|refine T5 ?_ ?_|intro ex)<;>try conv=>whnf)
    all_goals first
     |exact A0 rfl (congrArg AV.b (jS tP hJ1).symm)
theorem Vn(s:A4)(column level:Int)(hd:C4 s):A3 Tryz.prog 167 [sA s,.i column,.i level] (.i (H7 s column level)):=by
 have nu:=u6 s column
 have pK:=u5 level 0 (B9 s column)
 by_cases hb:0≤level∧level≤B9 s column
 ·obtain⟨hr,h1,h2,h4⟩:=Hd (s:=s) (column:=column) (level:=level) hb.1 hb.2
  obtain⟨i,rfl⟩:=Int.eq_ofNat_of_zero_le (show 0≤column by omega)
  obtain⟨L,rfl⟩:=Int.eq_ofNat_of_zero_le (show 0≤level by omega)
  obtain⟨c,hc⟩:∃c,s.cols[i]?=some c:=⟨_,List.getElem?_eq_getElem (by omega)⟩
  obtain⟨n,hB⟩:=hd.blk (i:=i) (by omega) hc
  have nh:B4 s i=c:=B7 (by simpa using hc)
  have hLn:L≤n:=by
   have hf:=hB.fin
   have:F0 s i=N7 s c:=by unfold F0;rw[if_neg (by omega),nh]
   omega
  have e:H7 s i L=P7 s c L:=by
   unfold H7;rw[if_neg (by omega),nh];rfl
  rw[e]
  rw[decide_eq_true hb]at pK
  refine C0 Tryz.func167 23 fun nQ E h0=>?_
  clear nQ
  repeat'((first|refine A1 nu ?_|refine A1 pK ?_ |refine S2 ?_|(refine T6 ?_ ?_<;>intro h<;>try exact V1 h)|intro el nN nP|intro el nN|exact T4|refine T5 ?_ ?_|intro ex)<;>try conv=>whnf)
  refine B2 (ι:=Nat) (fun k=>⟨[(1,.i i),(2,.i L),(3,.ref 0 0),(7,.i k)],1,[(0,some (.box (sL s)))]⟩) (fun k=>k≤L∧∀o:Nat,o<k→K1 s c o≠K1 s c L) (fun k=>L-k) 0 ⟨Nat.zero_le _,fun o ho=>absurd ho (Nat.not_lt_zero _)⟩
   (A6 h0) (fun k hI=>?_)
  obtain⟨hk,hI⟩:=hI
  have hdv:=RH s i k L hd (by omega) hc hB hk hLn
  have hL4:=hB.le
  repeat'((first|refine A1 hdv ?_ |refine S2 ?_|(refine T6 ?_ ?_<;>intro h<;>try exact V1 h)|intro el nN nP|intro el nN|exact T4|refine T5 ?_ ?_|intro ex)<;>try conv=>whnf)
  all_goals first
   |exact A0 rfl (congrArg AV.i (TZ hB hLn hI (by assumption)))
   |(have hkL:k≠L:=by
      intro e
      subst e
      exact absurd rfl (by assumption)
     exact⟨k+1,⟨by omega,fun o ho=>by
      by_cases eo:o=k
      ·subst eo;assumption
      ·exact hI o (by omega)⟩,by omega,A6 h0⟩)
 ·have e:H7 s column level=-1:=by unfold H7;rw[if_pos (by omega)]
  rw[e]
  rw[decide_eq_false hb]at pK
  refine C0 Tryz.func167 23 fun nQ E h0=>?_
  clear nQ
  repeat'((first|refine A1 nu ?_|refine A1 pK ?_ |refine S2 ?_|(refine T6 ?_ ?_<;>intro h<;>try exact V1 h)|intro el nN nP|intro el nN|exact T4|refine T5 ?_ ?_|intro ex)<;>try conv=>whnf)
  all_goals exact A0 rfl rfl
theorem fF{s:A4}{a:B1}{level:Int}(hr:C5 s=0)(ha:G4 s a=0)(h2:a.op=2)(h0:0≤level)(h1:level≤F0 s a.col):X4 s a level=divB (R3 s a) (I0 s a.col level) ((J3 s a.col).map fun n:Nat=>(n:Int)):=by
 obtain⟨x,hx,c1,c2,q2,_⟩:=x8 hr ha (.inl h2)
 obtain⟨hk,_⟩:=q2 h2
 have sd:∀v∈J3 s a.col,I0 s a.col level v=M6 (C1 s (B4 s a.col)).1 (C1 s (B4 s a.col)).2 v level:=fun v hv=>by
  rw[B7 hx]
  exact(MJ hr c1 hx hk h0 (by rw[B9,if_pos hr];exact h1) hv).1
 unfold X4
 rw[if_pos h2,Bool.eq_iff_iff,decide_eq_true_iff,TX]
 constructor
 ·intro h u hu v hv hne e
  obtain⟨u',qe,rfl⟩:=List.mem_map.1 hu
  obtain⟨v',oY,rfl⟩:=List.mem_map.1 hv
  rw[sd u' qe,sd v' oY]at e
  exact hne (h u' qe v' oY e)
 ·intro h u hu v hv e
  refine Classical.byContradiction fun hne=>?_
  refine h u (List.mem_map.2 ⟨u,hu,rfl⟩) v (List.mem_map.2 ⟨v,hv,rfl⟩) hne ?_
  rw[sd u hu,sd v hv]
  exact e
theorem ZF(s:A4)(a:B1)(level:Int)(hr:C5 s=0)(ha:G4 s a=0)(h2:a.op=2)(yr:0≤level)(uQ:level≤F0 s a.col):A3 Tryz.prog 197 [sA s,E7 a,.i level] (.b (X4 s a level)):=by
 obtain⟨x,hx,c1,c2,q2,_⟩:=x8 hr ha (.inl h2)
 obtain⟨hk,om,oF,hf⟩:=q2 h2
 rw[fF hr ha h2 yr uQ]
 have qB:=fun v=>OI s a v (.inl h2) (GA hr ha)
 have vS:=fun v=>Fa s a.col level v
 have qa:A3 Tryz.prog 116 [sA s,.i a.col] (.sl 1 (((J3 s a.col).map fun n:Nat=>(n:Int)).map wA)) :=
  (GX s a.col (by omega) hx ⟨om,oF⟩).congr (congrArg (AV.sl 1) (by rw[List.map_map];rfl))
 have zd:=Cq (C1 s (B4 s a.col)).1 (C1 s (B4 s a.col)).2 (C3 (C1 s (B4 s a.col)).1 (C1 s (B4 s a.col)).2-1)
 have si:((J3 s a.col).map fun n:Nat=>(n:Int)).length≤9223372036854775807:=by
  rw[List.length_map]
  have hc:chk (C1 s x).1 (C1 s x).2=0:=(F2 hr).2.2.1 _ (by unfold C1;rw[List.getD_eq_getElem?_getD,List.getElem?_eq_getElem (by omega)];exact List.getElem_mem _)
  have:=Bc hc
  rw[B7 hx]at zd
  unfold J3
  rw[B7 hx]
  omega
 generalize ((J3 s a.col).map fun n:Nat=>(n:Int))=al at *
 rw[F8]at *
 refine C0 Tryz.func197 140 fun nQ E h0=>?_
 clear nQ
 repeat'((first|(refine A2 (x:=x) hx (by omega) ?_)|refine A1 qa ?_ |refine S2 ?_|(refine T6 ?_ ?_<;>intro h<;>try exact V1 h)|intro el nN nP|intro el nN|exact T4|refine T5 ?_ ?_|intro ex)<;>try conv=>whnf)
 refine B2 (ι:=Nat) (fun k=>⟨[(2,.i level),(3,.ref 0 0),(4,.ref 1 0),(8,.sl 1 (al.map wA)),(9,.i k)],3,[(0,some (.box (sL s))),(1,some (.box (O4 a)))]⟩) (fun k=>k≤al.length∧DJ (R3 s a) (I0 s a.col level) al k 0) (fun k=>al.length-k) 0 ⟨Nat.zero_le _,DJ.zero _ _ _⟩ (A6 h0) (fun k hI=>?_)
 obtain⟨pk,hI⟩:=hI
 repeat'((first|refine S2 ?_|(refine T6 ?_ ?_<;>intro h<;>try exact V1 h)|intro el nN nP|intro el nN|exact T4|refine T5 ?_ ?_|intro ex)<;>try conv=>whnf)
 ·refine B2 (ι:=Nat) (fun j=>⟨[(2,.i level),(3,.ref 0 0),(4,.ref 1 0),(8,.sl 1 (al.map wA)),(9,.i k),(10,.i j)],3,[(0,some (.box (sL s))),(1,some (.box (O4 a)))]⟩) (fun j=>j≤k∧DJ (R3 s a) (I0 s a.col level) al k j) (fun j=>k-j) 0 ⟨Nat.zero_le _,hI⟩ (A6 h0) (fun j hJ=>?_)
  obtain⟨vC,hJ⟩:=hJ
  repeat'((first|refine A1 (vS _) ?_|refine A1 (qB _) ?_ |refine S2 ?_|(refine T6 ?_ ?_<;>intro h<;>try exact V1 h)|intro el nN nP|intro el nN|exact T4|refine T5 ?_ ?_|intro ex)<;>try conv=>whnf)
  all_goals first
   |exact A0 rfl (congrArg AV.b (DJ.hit (i:=k) (k:=j) (by assumption) (by assumption) (by assumption) (UY (by assumption) (by assumption))).symm)
   |exact⟨j+1,⟨by omega,hJ.step (by assumption) (by assumption) (Ua (by assumption))⟩,by omega,A6 h0⟩
   |exact⟨j+1,⟨by omega,hJ.step (by assumption) (by assumption) (UZ (Decidable.of_not_not (by assumption)))⟩,by omega,A6 h0⟩
   |exact⟨k+1,⟨by omega,hJ.next (by assumption)⟩,by omega,A6 h0⟩
 all_goals first
  |exact A0 rfl (congrArg AV.b (hI.done (by assumption)).symm)
theorem ZG(s:A4)(a:B1)(level:Int)(hr:C5 s=0)(ha:G4 s a=0)(ho:a.op=3∨a.op=4)(yr:0≤level)(uQ:level≤F0 s a.col):A3 Tryz.prog 197 [sA s,E7 a,.i level] (.b (X4 s a level)):=by
 obtain⟨x,hx,c1,c2,_,q2,q3,q4⟩:=x8 hr ha (.inr ho)
 obtain⟨hk,hm,hf⟩:=q2 (by omega)
 rw[hf]at uQ
 have hp:=l6 hm
 have qX:¬level=0→1≤A9 x level∧A9 x level≤1000000:=fun h=>v8 hp.2.2.2.2.2 (by omega) uQ
 have sW:¬level=0→A3 Tryz.prog 93 [W6 x,.i level] (.i (A9 x level)):=fun h=>Du x level (by omega) uQ
 rw[F8]at *
 by_cases h4:a.op=4
 ·rw[MA h4]
  refine C0 Tryz.func197 140 fun nQ E h0=>?_
  clear nQ
  repeat'((first|(refine A2 (x:=x) hx (by omega) ?_) |refine S2 ?_|(refine T6 ?_ ?_<;>intro h<;>try exact V1 h)|intro el nN nP|intro el nN|exact T4|refine T5 ?_ ?_|intro ex)<;>try conv=>whnf)
  all_goals first
   |exact A0 rfl rfl
 have h3:a.op=3:=by omega
 have yw:=q3 h3
 rw[MC h3 hx]
 refine C0 Tryz.func197 140 fun nQ E h0=>?_
 clear nQ
 repeat'((first|(refine A2 (x:=x) hx (by omega) ?_)|refine A1 (sW (by assumption)) ?_|(refine J4 ?_ ?_;(have:=qX (by assumption);omega))|(refine B8 ?_ ?_;kernel_rfl) |refine S2 ?_|(refine T6 ?_ ?_<;>intro h<;>try exact V1 h)|intro el nN nP|intro el nN|exact T4|refine T5 ?_ ?_|intro ex)<;>try conv=>whnf)
 all_goals (refine A0 rfl (congrArg AV.b (Bool.eq_iff_iff.2 ?_));simp only[decide_eq_true_iff,Bool.not_eq_true',decide_eq_false_iff_not,true_iff,false_iff,Bool.false_eq_true,Bool.not_false,Bool.not_true];unfold GY)
 all_goals first
  |(rw[if_pos (by assumption:level=0),(by assumption:x.opt=false)];simp only[true_and];omega)
  |(rw[if_pos (by assumption:level=0),(by assumption:x.opt=true)];simp;done)
  |(rw[if_neg (by assumption:¬level=0)];omega)
  |(clear h0;trace_state)
end Go.Proofs.YtjkbhaaobhgkdabGreatDoor
