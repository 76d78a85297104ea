/- Chapter 17: plain facts on measures and their levels. Chapter 17: drawn expressions are right, and have kinds. Chapter 17: what right expressions need are picks of all columns. -/
import Derived.Test.YtiphlhoclaogjaaGreatDoorQF3
import Derived.Test.YtiphlhoclaogjaaGreatDoorQF5
import Derived.Test.YtiphlhoclaogjaaGreatDoorQCf1
import Derived.Test.YtiphlhoclaogjaaGreatDoorQC3
import Derived.Test.YtiphlhoclaogjaaGreatDoorQB13
import Derived.Test.YtiphlhoclaogjaaGreatDoorQTa2
set_option linter.unusedVariables false
set_option linter.unnecessarySimpa false
set_option linter.unusedSimpArgs false
set_option maxHeartbeats 64000000
namespace Go.Proofs.YtiphlhoclaogjaaGreatDoor
open Go Go.Av
attribute [local irreducible] C7 B1 D1 C8 DQ D0 C6 St.le A3 B8
set_option maxRecDepth 100000
theorem ll{s:A4}(hr:C5 s=0){c:Int}{x:D6}(h0:1≤c)(hc:s.cols[c.toNat]?=some x)(hk:x.kind=3):A8 s c=x.widths.length:=by
 have nf:=D4 hc
 unfold A8 F2
 rw[if_pos hr,if_neg (by omega),C0 hc,N0,if_neg (by omega)]
theorem KZ{s:A4}(hr:C5 s=0){c:Int}(h:P6 s c 3=true):1≤c:=by
 obtain⟨h0,h1,x,hx,hk⟩:=Aq h
 by_cases hz:c=0
 ·obtain⟨_,_,_,_,h5⟩:=E9 hr
  subst hz
  have:s.cols.head?=some x:=by rw[←hx];cases s.cols<;>rfl
  rw[this]at h5
  simp only[Option.map_some,Option.some.injEq]at h5
  omega
 ·omega
theorem jQ(ws:List Int)(w:Int):0≤FQ ws w∧FQ ws w≤ws.length:=by
 unfold FQ
 have:=KF (fun x=>decide (x=w)) ws 0
 split<;>omega
theorem cK{s:A4}{p:Pk}(h:I4 s p=0):0≤p.col∧p.col<s.cols.length:=by
 unfold I4 j3 F2 at h
 by_cases hc:p.col<1∨(s.cols.length:Int)≤p.col
 ·rw[if_pos hc]at h
  split at h
  ·rw[if_pos (show (-1:Int)<0 by omega)]at h
   omega
  ·exact absurd h (by assumption)
 ·omega
theorem lm:X7 zC:=⟨rfl,rfl,rfl,rfl,rfl,rfl⟩
structure XprOk(s:A4)(names:List (List UInt8))(e:G2)(d:Nat):Prop where
 rig:z6 s e=true
 tot:P2 (Yt e)+1≤2 ^ (d+1)
 dep:P9 (Yt e)≤d+1
 nam:∀g:List UInt8→Bool,(∀nm∈names,g nm=true)→lZ g e=true
 kin:∀bs:List Wx,(∀nm∈names,li bs nm=(1,0))→(UK bs e).2=0∧(PG e.op→(UK bs e).1=1)
theorem XB{s:A4}(hd:C3 s)(l:List UInt8)(a:Nat):P6 s ((S6 l a s 3).1:Nat) 3=true:=by
 obtain⟨_,h1,h2⟩:=An (l:=l) (a:=a) hd.two.2
 unfold P6
 rw[decide_eq_true_iff]
 exact⟨by omega,by omega,h2⟩
theorem jR{l:List Pk}{i:Nat}(h:0<U9 l i):∃q∈l,q.col=(i:Int)∧q.lev=U9 l i:=by
 induction l with
 |nil=>simp[jI]at h
 |cons p r ih =>
  have e:U9 (p::r) i=max (U9 [p] i) (U9 r i):=Wu [p] r i
  rw[e,Wv]at h ⊢
  by_cases hc:p.col=(i:Int)
  ·rw[if_pos hc]at h ⊢
   by_cases h2:U9 r i<p.lev
   ·exact⟨p,by simp,hc,by omega⟩
   ·obtain⟨q,h3,h4,h5⟩:=ih (by omega)
    exact⟨q,by simp[h3],h4,by omega⟩
  ·rw[if_neg hc]at h ⊢
   obtain⟨q,h3,h4,h5⟩:=ih (by omega)
   exact⟨q,by simp[h3],h4,by omega⟩
theorem C3.fin{s:A4}(hd:C3 s){c:Int}(h1:1≤c)(h2:c<s.cols.length):0≤A8 s c∧A8 s c≤4∧A8 s c=F2 s c:=by
 obtain⟨n,h3,h4,_⟩:=hd.chain (i:=c.toNat) (by omega) (List.getElem?_eq_getElem (show c.toNat<s.cols.length by omega))
 rw[show ((c.toNat:Nat):Int)=c by omega]at h3
 exact⟨by omega,by omega,by unfold A8;rw[if_pos hd.ok]⟩
theorem ML(s:A4)(c l:Int)(h:0≤l):I1 s c l≤l:=by
 unfold I1
 split
 ·omega
 ·have key:∀k:Nat,Q6 s (B4 s c) k≤k:=by
   intro k
   induction k with
   |zero=>unfold Q6;omega
   |succ k ih=>unfold Q6;split<;>omega
  have:=key l.toNat
  omega
abbrev UU(s:A4)(q:Pk):Prop:=1≤q.col∧q.lev≤A8 s q.col
theorem XC{s:A4}(hd:C3 s){c:Int}(h:P6 s c 3=true):UU s (Cs s c):=by
 have h1:=KZ hd.ok h
 have h2:=hd.fin h1 (Aq h).2.1
 exact⟨h1,ML s c _ (by omega)⟩
theorem jS{s:A4}(hd:C3 s){d:Pk}(h:I4 s d=0):UU s (Bk s d):=by
 have hp:=cK h
 unfold I4 j3 at h
 rw[if_pos hd.ok]at h
 split at h
 ·cases h
 ·rename_i h1
  split at h
  ·cases h
  ·rename_i h2
   have hc:1≤d.col:=by
    unfold F2 at h1
    by_cases hc:d.col<1∨(s.cols.length:Int)≤d.col
    ·rw[if_pos hc]at h1;omega
    ·omega
   have hf:=(hd.fin hc hp.2).2.2
   have:=ML s d.col d.lev (by omega)
   exact⟨hc,by dsimp only[Bk];omega⟩
theorem jT{s:A4}(hd:C3 s){e:G2}(hg:DT s e):∀q∈FR s e,UU s q:=by
 intro q hq
 unfold FR at hq
 rcases List.mem_append.1 hq with hq|hq
 rcases List.mem_append.1 hq with hq|hq
 ·obtain⟨d,h1,rfl⟩:=List.mem_map.1 hq
  exact jS hd (hg.dim d h1)
 ·unfold AZ at hq
  split at hq
  ·split at hq
   ·simp only[List.mem_singleton]at hq
    subst hq
    rcases hg.col (by simp only[BU];omega)with h|h
    ·omega
    ·exact XC hd h
   ·cases hq
  ·split at hq
   ·simp only[List.mem_singleton]at hq
    subst hq
    rename_i h1 h2
    rcases hg.col (by simp only[BU];omega)with h|h
    ·omega
    ·have hp:=KZ hd.ok h
     obtain⟨q1,q2,x,hx,hk⟩:=Aq h
     have hb:=jQ (B4 s e.col).widths e.num
     have hf:=ll hd.ok hp hx hk
     rw[←C0 hx]at hf
     have:=ML s e.col (FQ (B4 s e.col).widths e.num) hb.1
     exact⟨hp,by dsimp only;omega⟩
   ·cases hq
 ·obtain⟨c,h1,rfl⟩:=List.mem_map.1 hq
  exact XC hd (hg.trm c h1)
theorem UV{s:A4}(hd:C3 s){c:B0}:∀q∈L3 s c,UU s q:=by
 intro q hq
 obtain⟨h1,h2,h3,h4,h5⟩:=Te hq
 obtain⟨hr,_,_,oz⟩:=m6 h1
 have qo:=CB c oz
 have hc:1≤q.col:=by
  refine Classical.byContradiction fun hn=>?_
  have hz:q.col.toNat=0:=by omega
  rw[hz]at h4
  have:=Nd (s:=s) (i:=0) (B:=0) (Int.le_refl _) (X5 c) fun a ha he=>by
   obtain⟨r1,r2⟩:=qo a ha
   obtain⟨x,_,c1,_⟩:=n9 hr r1 r2
   omega
  omega
 have hf:=hd.fin hc h3
 refine⟨hc,?_⟩
 rw[h4]
 refine Nd hf.1 _ fun a ha he=>?_
 obtain⟨r1,r2⟩:=qo a ha
 have:=(Fm hr r1 r2).1
 rw[he,show ((q.col.toNat:Nat):Int)=q.col by omega]at this
 omega
theorem jU{s:A4}(hd:C3 s)(e:G2):z6 s e=true→∀q∈w8 s e,(1≤q.col∧q.col<s.cols.length)∧1≤q.lev∧q.lev≤A8 s q.col:=by
 refine KR (p:=fun e=>z6 s e=true→∀q∈w8 s e,(1≤q.col∧q.col<s.cols.length)∧1≤q.lev∧q.lev≤A8 s q.col) (fun e ih hg q hq=>?_) e
 have hg:=Qh hg
 have ox:=UM q hq
 rw[KT]at hq
 obtain⟨h1,h2,h3,h4⟩:=AR hq
 rw[h3]at h4
 obtain⟨p,hp,wn,qI⟩:=jR h4
 have nu:UU s p:=by
  rcases List.mem_append.1 hp with hp|hp
  rcases List.mem_append.1 hp with hp|hp
  rcases List.mem_append.1 hp with hp|hp
  ·exact jT hd hg p hp
  ·exact UV hd p hp
  ·exact UV hd p hp
  ·obtain⟨k,hk,qh⟩:=List.mem_flatMap.1 hp
   have:=ih k hk (hg.kid k hk).2 p qh
   exact⟨this.1.1,this.2.2⟩
 have xQ:p.col=q.col:=by omega
 rw[←h3]at qI h4
 have h5:=nu.1
 have h6:=nu.2
 rw[xQ,qI]at h6
 exact⟨⟨by omega,ox.2⟩,by omega,h6⟩
theorem XD{s:A4}(hd:C3 s){q:Pk}(h1:1≤q.col)(h2:q.col<s.cols.length)(h3:0≤q.lev)(h4:q.lev≤A8 s q.col):j3 s q=0:=by
 have hf:=hd.fin h1 h2
 unfold j3
 rw[if_neg (by omega),if_neg (by omega)]
theorem fT{s:A4}(hd:C3 s){l:List Pk}(hl:∀q∈l,j3 s q=0)(hp:List.Pairwise (fun p q:Pk=>p.col<q.col) l):J7 s l=0:=by
 unfold J7
 rw[if_pos hd.ok]
 refine v6 fun i x hx=>?_
 unfold Cd
 rw[if_pos (hl x (List.mem_of_getElem? hx)),Nat.zero_add]
 refine if_neg fun hh=>?_
 have nf:=D4 hx
 have h1:l[i-1]?=some (l[i-1]'(by omega)):=List.getElem?_eq_getElem (by omega)
 have h2:=List.pairwise_iff_getElem.1 hp (i-1) i (by omega) nf (by omega)
 rw[D2 h1]at hh
 have h3:l[i]'nf=x:=by rw[List.getElem?_eq_getElem nf]at hx;exact Option.some.inj hx
 rw[h3]at h2
 omega
theorem Aa(s:A4):∀{k i:Nat},i<k→(DU s k)[i]?=some ⟨(i:Int)+1,A8 s ((i:Int)+1)⟩
 |0,i,h=>by omega
 |k+1,i,h=>by
  have hl:=Bo s k
  rw[DU]
  by_cases hi:i<k
  ·rw[List.getElem?_append_left (by omega)];exact Aa s hi
  ·obtain rfl:i=k:=by omega
   rw[List.getElem?_append_right (by omega),hl];simp
theorem Qm{s:A4}(hd:C3 s):J7 s (K9 s)=0:=by
 have sc:=hd.lens
 have hl:=Bo s (s.cols.length-1)
 refine fT hd (fun q hq=>?_) (List.pairwise_iff_getElem.2 fun i j hi hj sb=>?_)
 ·obtain⟨i,hi,he⟩:=List.getElem_of_mem hq
  have oW:i<s.cols.length-1:=by unfold K9 at hi;omega
  have h1:=Aa s oW
  unfold K9 at he hi
  rw[List.getElem?_eq_getElem hi,he]at h1
  cases h1
  have:=hd.fin (c:=(i:Int)+1) (by omega) (by omega)
  exact XD hd (by dsimp only;omega) (by dsimp only;omega) (by dsimp only;omega) (Int.le_refl _)
 ·unfold K9 at hi hj ⊢
  have h1:=Aa s (k:=s.cols.length-1) (i:=i) (by omega)
  have h2:=Aa s (k:=s.cols.length-1) (i:=j) (by omega)
  rw[List.getElem?_eq_getElem hi]at h1
  rw[List.getElem?_eq_getElem hj]at h2
  rw[Option.some.inj h1,Option.some.inj h2]
  dsimp only;omega
theorem jV{s:A4}(hd:C3 s){e:G2}(hg:z6 s e=true):z4 (K9 s) (w8 s e)=true:=by
 refine Nj fun q hq=>?_
 obtain⟨⟨h1,h2⟩,h3,h4⟩:=jU hd e hg q hq
 have hg:=Aa s (k:=s.cols.length-1) (i:=(q.col-1).toNat) (by omega)
 rw[show (((q.col-1).toNat:Nat):Int)+1=q.col by omega]at hg
 exact⟨_,List.mem_of_getElem? hg,rfl,h4⟩
theorem Ar(l:List Pk)(col lev:Int)(hl:l.length≤1000):A3 Tryz.prog 118 [.sl 2 (l.map B6),.i col,.i lev] (.sl 2 ((e9 l col lev).map B6)):=by
 refine C1 Tryz.func118 59 fun nd E h0=>?_
 clear nd
 unfold e9
 repeat'((first|refine S2 ?_|(refine T6 ?_ ?_<;>intro h<;>try exact V1 h)|intro el nX nY|intro el nX|exact T4|refine T5 ?_ ?_|intro ex)<;>try conv=>whnf)
 refine B2 (ι:=Nat×Bool×List Pk) (fun x=>⟨[(0,.sl 2 (l.map B6)),(1,.i col),(2,.i lev),(7,.row 0 0 x.2.2.length),(8,.b x.2.1),(9,.i x.1)],1,[(0,some (.row Nf 2 0 (x.2.2.map B6)))]⟩)
  (fun x=>x.1≤l.length∧x.2.2.length≤2*x.1∧N4 col lev l (decide (lev≤0)) []=N4 col lev (l.drop x.1) x.2.1 x.2.2) (fun x=>l.length-x.1) (0,decide (lev≤0),[]) ⟨Nat.zero_le _,Nat.zero_le _,rfl⟩
  (C2 (K7 (d:=7) (e:=Nf) (sz:=2) rfl) (B3 h0 rfl ⟨rfl,rfl,rfl,rfl,rfl,rfl,trivial⟩ ⟨⟨0,rfl⟩,trivial⟩ rfl rfl rfl)) (fun x hI=>?_)
 obtain⟨k,dn,out⟩:=x
 obtain⟨hk,ho,hI⟩:=hI
 dsimp only at hk ho hI ⊢
 repeat'((first|refine S2 ?_|(refine T6 ?_ ?_<;>intro h<;>try exact V1 h)|intro el nX nY|intro el nX|exact T4|refine T5 ?_ ?_|intro ex)<;>try conv=>whnf)
 all_goals first
  |exact⟨(k+1,true,out++[⟨col,lev⟩]++[el]),⟨by dsimp only;omega,by dsimp only;simp only[List.length_append,List.length_cons,List.length_nil];omega,by rw[hI,H1 nX,N4,if_pos ⟨by omega,by assumption⟩]⟩,by dsimp only;omega,B3 h0 rfl ⟨rfl,rfl,rfl,congrArg (fun z:Nat=>some (AV.row 0 0 z)) (by simp only[List.length_append];rfl),rfl,rfl,trivial⟩ ⟨⟨_,congrArg (D3.row Nf 2 _) (by simp only[List.map_append];rfl)⟩,trivial⟩ rfl rfl rfl⟩
  |exact⟨(k+1,dn,out++[el]),⟨by dsimp only;omega,by dsimp only;simp only[List.length_append,List.length_cons,List.length_nil];omega,by rw[hI,H1 nX,N4,if_neg (fun hh=>by first|(have h9:=hh.1;omega)|(have h9:=hh.2;simp_all;done)),if_neg (by omega)]⟩,by dsimp only;omega,B3 h0 rfl ⟨rfl,rfl,rfl,congrArg (fun z:Nat=>some (AV.row 0 0 z)) (by simp only[List.length_append];rfl),rfl,rfl,trivial⟩ ⟨⟨_,congrArg (D3.row Nf 2 _) (by simp only[List.map_append];rfl)⟩,trivial⟩ rfl rfl rfl⟩
  |exact⟨(k+1,true,out++[⟨el.col,max el.lev lev⟩]),⟨by dsimp only;omega,by dsimp only;simp only[List.length_append,List.length_cons,List.length_nil];omega,by rw[hI,H1 nX,N4,if_neg (fun hh=>by first|(have h9:=hh.1;omega)|(have h9:=hh.2;simp_all;done)),if_pos (by omega)]⟩,by dsimp only;omega,B3 h0 rfl ⟨rfl,rfl,rfl,congrArg (fun z:Nat=>some (AV.row 0 0 z)) (by simp only[List.length_append];rfl),rfl,rfl,trivial⟩ ⟨⟨_,congrArg (D3.row Nf 2 _) (by simp only[List.map_append];rfl)⟩,trivial⟩ rfl rfl rfl⟩
  |exact A0 rfl (congrArg (AV.sl 2) (by rw[hI,Z0 (by assumption),N4,if_pos (by assumption)]))
  |exact A0 rfl (congrArg (AV.sl 2) (by rw[hI,Z0 (by assumption),N4,if_neg (fun hh=>by simp_all)];rw[List.map_append];rfl))
def Cz(f g:Int→Int)(l:List Int)(i k:Nat):Prop:=(∀i':Nat,i'<i→∀k':Nat,k'<i'→f0 f g (l.getD i' 0) (l.getD k' 0)=true)∧∀k':Nat,k'<k→f0 f g (l.getD i 0) (l.getD k' 0)=true
theorem Cz.zero(f g:Int→Int)(l:List Int):Cz f g l 0 0:=⟨fun i' h=>absurd h (Nat.not_lt_zero _),fun k' h=>absurd h (Nat.not_lt_zero _)⟩
theorem Cz.step{f g:Int→Int}{l:List Int}{i k:Nat}{x y:Int}(h:Cz f g l i k)(hx:l[i]?=some x)(hy:l[k]?=some y)(hp:f0 f g x y=true):Cz f g l i (k+1):=by
 refine⟨h.1,fun k' hk=>?_⟩
 by_cases e:k'=k
 ·subst e;rw[D2 hx,D2 hy];exact hp
 ·exact h.2 k' (by omega)
theorem Cz.next{f g:Int→Int}{l:List Int}{i k:Nat}(h:Cz f g l i k)(hk:¬(k:Int)<i):Cz f g l (i+1) 0:=by
 refine⟨fun i' hi k' oT=>?_,fun k' h=>absurd h (Nat.not_lt_zero _)⟩
 by_cases e:i'=i
 ·subst e;exact h.2 k' (by omega)
 ·exact h.1 i' (by omega) k' oT
theorem Cz.hit{f g:Int→Int}{l:List Int}{i k:Nat}{x y:Int}(hx:l[i]?=some x)(hy:l[k]?=some y)(hk:(k:Int)<i)(hp:f0 f g x y=false):divB f g l=false:=by
 cases hd:divB f g l with
 |false=>rfl
 |true =>
  unfold divB at hd
  have:=List.all_eq_true.1 (List.all_eq_true.1 hd i (by rw[List.mem_range];exact D4 hx)) k (by rw[List.mem_range];omega)
  rw[D2 hx,D2 hy,hp]at this
  cases this
theorem Cz.done{f g:Int→Int}{l:List Int}{i:Nat}(h:Cz f g l i 0)(hi:¬(i:Int)<l.length):divB f g l=true:=by
 unfold divB
 simp only[List.all_eq_true,List.mem_range]
 intro i' h1 k' h2
 exact h.1 i' (by omega) k' h2
theorem UW{f g:Int→Int}{x y:Int}(h1:¬f x=f y)(h2:g x=g y):f0 f g x y=false:=by simp[f0,h1,h2]
theorem UX{f g:Int→Int}{x y:Int}(h1:f x=f y):f0 f g x y=true:=by simp[f0,h1]
theorem UY{f g:Int→Int}{x y:Int}(h2:¬g x=g y):f0 f g x y=true:=by simp[f0,h2]
theorem C3.coa{s:A4}(h:C3 s){i:Nat}{c:D6}{n:Nat}(hi:0<i)(hc:s.cols[i]?=some c)(hn:N0 s c=n){lv:Nat}(qd:lv≤n)(v:Int):F9 s i lv v=P8 s c lv v:=by
 have nf:=D4 hc
 have nt:B4 s i=c:=C0 (by simpa using hc)
 have wH:F2 s i=n:=by unfold F2;rw[if_neg (by omega),nt];exact hn
 have vR:A8 s i=n:=by unfold A8;rw[if_pos h.ok];exact wH
 unfold F9
 rw[vR,if_neg (by omega),nt]
theorem C3.divB{s:A4}(h:C3 s){i:Nat}{c:D6}{n:Nat}(hi:0<i)(hc:s.cols[i]?=some c)(hb:TZ s c n){o L:Nat}(ho:o≤L)(hL:L≤n):divB (F9 s i L) (F9 s i o) (Dy s c)=decide (K6 s c o=K6 s c L):=by
 have e1:F9 s i L=P8 s c L:=funext fun v=>h.coa hi hc hb.fin hL v
 have e2:F9 s i o=P8 s c o:=funext fun v=>h.coa hi hc hb.fin (by omega) v
 rw[e1,e2]
 have:=hb.divs o L ho hL
 rw[←TY]at this
 by_cases hd:K6 s c o=K6 s c L
 ·rw[decide_eq_true hd];exact this.2 hd
 ·rw[decide_eq_false hd]
  cases hx:Go.Proofs.YtiphlhoclaogjaaGreatDoor.divB (P8 s c L) (P8 s c o) (Dy s c)with
  |false=>rfl
  |true=>exact absurd (this.1 hx) hd
theorem fU{s:A4}{c:D6}{nm:List UInt8}(h:R0 c nm){o L:Nat}(ho:o<L)(hL:L≤c.widths.length)(h0:o≠0):Ci c.low c.high (A9 c L) (A9 c o)=decide (K6 s c o=K6 s c L):=by
 obtain⟨hw,hW,m,hm,e⟩:=k9 h (a:=L) (b:=o) (by omega) (by omega) hL
 have ht:=eV (low:=c.low) (high:=c.high) hw.1 hm
 have hc:=(Ow hw.1 hm h.high.1).2
 rw[←e]at ht hc
 rw[←hc]at ht
 rw[v7 h (by omega) hL,v7 h (by omega) (by omega)]
 by_cases hd:c.high / A9 c o-c.low / A9 c o=c.high / A9 c L-c.low / A9 c L
 ·rw[ht.2 hd,decide_eq_true (by omega)]
 ·rw[decide_eq_false (by omega)]
  cases hx:Ci c.low c.high (A9 c L) (A9 c o)with
  |false=>rfl
  |true=>exact absurd (ht.1 hx) hd
theorem cL{s:A4}{c:D6}{nm:List UInt8}(h:R0 c nm){L:Nat}(h0:0<L)(hL:L≤c.widths.length):(!c.opt && decide ((c.low / A9 c L+1)*A9 c L>c.high))=decide (K6 s c 0=K6 s c L):=by
 obtain⟨hw,_,_⟩:=k9 h (a:=L) (b:=L) (by omega) (Nat.le_refl _) hL
 rw[v7 h (by omega) hL,Fn h]
 have qW:=JX hw.1 h.high.1
 have key:(c.low / A9 c L+1)*A9 c L>c.high↔c.high / A9 c L=c.low / A9 c L:=by
  have h1:=Int.mul_ediv_add_emod c.high (A9 c L)
  have h2:=Int.emod_nonneg c.high (b:=A9 c L) (by omega)
  have h3:=Int.emod_lt_of_pos c.high (b:=A9 c L) (by omega)
  rw[Int.add_mul,Int.one_mul,Int.mul_comm]
  constructor
  ·intro h
   rcases Int.lt_or_le (c.low / A9 c L) (c.high / A9 c L)with h4|h4
   ·have:=Int.mul_le_mul_of_nonneg_left (show c.low / A9 c L+1≤c.high / A9 c L by omega) (show 0≤A9 c L by omega)
    rw[Int.mul_add,Int.mul_one]at this
    omega
   ·omega
  ·intro h;rw[←h];omega
 cases c.opt with
 |true=>simp;omega
 |false =>
  simp only[Bool.not_false,Bool.true_and,key,Bool.false_eq_true,if_false]
  congr 1
  apply propext
  omega
theorem fV{c:D6}{nm:List UInt8}(h:R0 c nm){w:Int}(hw:1≤w∧w≤20):-40≤(c.low / w+1)*w∧(c.low / w+1)*w≤40∧-10≤c.low / w∧c.low / w≤10:=by
 have h1:=Int.mul_ediv_add_emod c.low w
 have h2:=Int.emod_nonneg c.low (b:=w) (by omega)
 have h3:=Int.emod_lt_of_pos c.low (b:=w) (by omega)
 have hl:=h.low
 have h4:=V3 c.low hw.1
 have h5:-4≤c.low / w:=by
  have:=Int.ediv_le_ediv (a:=-4) (b:=c.low) (c:=w) (by omega) hl.1
  have h6:-4≤(-4:Int) / w:=by
   rw[Int.le_ediv_iff_mul_le (by omega)];omega
  omega
 have h6:c.low / w≤2:=by
  have:=Int.ediv_le_ediv (a:=c.low) (b:=2) (c:=w) (by omega) hl.2
  have h7:(2:Int) / w≤2:=Int.ediv_le_self w (by omega)
  omega
 rw[Int.add_mul,Int.one_mul,Int.mul_comm]
 omega
def BV(f w:Int):Nat→Int
 |0=>f
 |n+1=>BV f w n+w
theorem jW{lo hi w W:Int}(h1:(lo / w+1)*w≤hi)(h2:((lo / w+1)*w).tmod W≠0):Ci lo hi w W=false:=by
 have h3:¬hi<(lo / w+1)*w:=by omega
 simp[Ci,h3,h2]
theorem jX{lo hi w W:Int}(h1:¬(lo / w+1)*w≤hi):Ci lo hi w W=true:=by
 have h3:hi<(lo / w+1)*w:=by omega
 simp[Ci,h3]
theorem jY{lo hi w W:Int}(h0:(lo / w+1)*w≤hi∧((lo / w+1)*w).tmod W=0)(h1:(lo / w+1)*w+w≤hi)(h2:((lo / w+1)*w+w).tmod W≠0):Ci lo hi w W=false:=by
 have h3:¬hi<(lo / w+1)*w:=by omega
 have h4:¬hi<(lo / w+1)*w+w:=by omega
 simp[Ci,h3,h4,h2]
theorem jZ{lo hi w W:Int}(h0:(lo / w+1)*w≤hi∧((lo / w+1)*w).tmod W=0)(h1:¬(lo / w+1)*w+w≤hi):Ci lo hi w W=true:=by
 have h4:hi<(lo / w+1)*w+w:=by omega
 simp[Ci,h4,h0.2]
theorem ja{lo hi w W:Int}(h0:(lo / w+1)*w≤hi∧((lo / w+1)*w).tmod W=0)(h1:(lo / w+1)*w+w≤hi∧((lo / w+1)*w+w).tmod W=0):Ci lo hi w W=true:=by
 simp[Ci,h0.2,h1.2]
theorem RH(s:A4)(i o L:Nat){c:D6}{n:Nat}(hd:C3 s)(hi:0<i)(hc:s.cols[i]?=some c)(hb:TZ s c n)(ho:o≤L)(hL:L≤n):A3 Tryz.prog 173 [sA s,.i i,.i o,.i L] (.b (decide (K6 s c o=K6 s c L))):=by
 have nf:=D4 hc
 have hn:=hd.lens
 rw[←hd.divB hi hc hb ho hL]
 by_cases htriv:L=0∨L≤o
 ·have e:o=L:=by omega
  subst e
  rw[hd.divB hi hc hb (Nat.le_refl _) hL,decide_eq_true rfl]
  refine C1 Tryz.func173 121 fun nd E h0=>?_
  clear nd
  repeat'((first|(refine A2 (x:=c) hc (by omega) ?_) |refine S2 ?_|(refine T6 ?_ ?_<;>intro h<;>try exact V1 h)|intro el nX nY|intro el nX|exact T4|refine T5 ?_ ?_|intro ex)<;>try conv=>whnf)
  all_goals exact A0 rfl rfl
 by_cases hk:c.kind=2
 ·obtain⟨pF,e1,pH,oM⟩:=hd.lvs hc hk
  have vx:=Cj s i
  have qd:A3 Tryz.prog 138 [sA s,.i i] (.sl 1 ((Dy s c).map wA)):=by
   refine(De s i (by omega) (by simpa using hc) pF).congr (congrArg (AV.sl 1) ?_)
   unfold Dy
   rw[if_pos hk,←e1,List.map_map]
   rfl
  have tA:(Dy s c).length≤10:=by
   unfold Dy;rw[if_pos hk,←e1,List.length_map];exact oM
  generalize Dy s c=al at *
  refine C1 Tryz.func173 121 fun nd E h0=>?_
  clear nd
  repeat'((first|(refine A2 (x:=c) hc (by omega) ?_)|refine A1 qd ?_ |refine S2 ?_|(refine T6 ?_ ?_<;>intro h<;>try exact V1 h)|intro el nX nY|intro el nX|exact T4|refine T5 ?_ ?_|intro ex)<;>try conv=>whnf)
  refine B2 (ι:=Nat) (fun k=>⟨[(1,.i i),(2,.i o),(3,.i L),(4,.ref 0 0),(10,.sl 1 (al.map wA)),(11,.i k)],2,[(0,some (.box (sL s))),(1,some (.box (Z6 c)))]⟩) (fun k=>k≤al.length∧Cz (F9 s i L) (F9 s i o) al k 0) (fun k=>al.length-k) 0 ⟨Nat.zero_le _,Cz.zero _ _ _⟩ (A6 h0) (fun k hI=>?_)
  obtain⟨qA,hI⟩:=hI
  repeat'((first|refine S2 ?_|(refine T6 ?_ ?_<;>intro h<;>try exact V1 h)|intro el nX nY|intro el nX|exact T4|refine T5 ?_ ?_|intro ex)<;>try conv=>whnf)
  ·refine B2 (ι:=Nat) (fun j=>⟨[(1,.i i),(2,.i o),(3,.i L),(4,.ref 0 0),(10,.sl 1 (al.map wA)),(11,.i k),(12,.i j)],2,[(0,some (.box (sL s))),(1,some (.box (Z6 c)))]⟩) (fun j=>j≤k∧Cz (F9 s i L) (F9 s i o) al k j) (fun j=>k-j) 0 ⟨Nat.zero_le _,hI⟩ (A6 h0) (fun j hJ=>?_)
   obtain⟨vZ,hJ⟩:=hJ
   repeat'((first|refine A1 (vx _ _) ?_ |refine S2 ?_|(refine T6 ?_ ?_<;>intro h<;>try exact V1 h)|intro el nX nY|intro el nX|exact T4|refine T5 ?_ ?_|intro ex)<;>try conv=>whnf)
   all_goals first
    |exact A0 rfl (congrArg AV.b (Cz.hit (i:=k) (k:=j) (by assumption) (by assumption) (by assumption) (UW (by assumption) (by assumption))).symm)
    |exact⟨j+1,⟨by omega,hJ.step (by assumption) (by assumption) (UY (by assumption))⟩,by omega,A6 h0⟩
    |exact⟨j+1,⟨by omega,hJ.step (by assumption) (by assumption) (UX (Decidable.of_not_not (by assumption)))⟩,by omega,A6 h0⟩
    |exact⟨k+1,⟨by omega,hJ.next (by assumption)⟩,by omega,A6 h0⟩
  all_goals first
   |exact A0 rfl (congrArg AV.b (hI.done (by assumption)).symm)
 ·obtain⟨nm,hm⟩:∃nm,R0 c nm:=by
   rcases hd.col hc with ⟨h,_⟩|⟨_,rfl|rfl⟩|⟨_,h⟩
   ·omega
   ·exact absurd rfl hk
   ·exact absurd rfl hk
   ·exact h
  have yv:n=c.widths.length:=by have h:=hb.fin;unfold N0 at h;rw[if_neg hk]at h;omega
  have qi:=hm.kind
  rw[hd.divB hi hc hb ho hL]
  clear hb
  subst yv
  obtain⟨hw,_,_⟩:=k9 hm (a:=L) (b:=L) (by omega) (Nat.le_refl _) hL
  have hwL:=BK c L (by omega) (by omega)
  have rj:=hm.low
  have qp:=hm.high
  have pR:=Nm c.low (A9 c L) hw.1 (by omega)
  have uR:=fV hm hw
  by_cases ho0:o=0
  ·subst ho0
   have hz:=cL (s:=s) hm (L:=L) (by omega) hL
   rw[show ((0:Nat):Int)=0 from rfl,←hz]
   clear hz
   generalize A9 c L=w at *
   refine C1 Tryz.func173 121 fun nd E h0=>?_
   clear nd
   repeat'((first|(refine A2 (x:=c) hc (by omega) ?_)|refine A1 hwL ?_|refine A1 pR ?_ |refine S2 ?_|(refine T6 ?_ ?_<;>intro h<;>try exact V1 h)|intro el nX nY|intro el nX|exact T4|refine T5 ?_ ?_|intro ex)<;>try conv=>whnf)
   all_goals first
    |exact A0 rfl (congrArg AV.b (by simp[*]))
  ·have hz:=fU (s:=s) hm (o:=o) (L:=L) (by omega) hL ho0
   obtain⟨_,hW,_⟩:=k9 hm (a:=L) (b:=o) (by omega) (by omega) hL
   have hwo:=BK c o (by omega) (by omega)
   rw[←hz]
   clear hz
   generalize A9 c L=w at *
   generalize A9 c o=W at *
   refine C1 Tryz.func173 121 fun nd E h0=>?_
   clear nd
   repeat'((first|(refine A2 (x:=c) hc (by omega) ?_)|refine A1 hwL ?_|refine A1 pR ?_ |refine S2 ?_|(refine T6 ?_ ?_<;>intro h<;>try exact V1 h)|intro el nX nY|intro el nX|exact T4|refine T5 ?_ ?_|intro ex)<;>try conv=>whnf)
   refine B2 (ι:=Nat) (fun j=>⟨[(2,.i o),(9,.ref 1 0),(13,.i w),(14,.i (BV ((c.low / w+1)*w) w j)),(15,.i j)],2,[(0,some (.box (sL s))),(1,some (.box (Z6 c)))]⟩)
    (fun j=>j≤2∧∀q,q<j→BV ((c.low / w+1)*w) w q≤c.high∧(BV ((c.low / w+1)*w) w q).tmod W=0) (fun j=>2-j) 0 ⟨by omega,fun q hq=>absurd hq (Nat.not_lt_zero _)⟩
    (A6 h0) (fun j hJ=>?_)
   obtain⟨hj,hJ⟩:=hJ
   obtain rfl|rfl|rfl:j=0∨j=1∨j=2:=by omega
   ·have rB:-40≤BV ((c.low / w+1)*w) w 0∧BV ((c.low / w+1)*w) w 0≤40:=by simp only[BV];omega
    repeat'((first|refine A1 hwo ?_ |refine S2 ?_|(refine T6 ?_ ?_<;>intro h<;>try exact V1 h)|intro el nX nY|intro el nX|exact T4|refine T5 ?_ ?_|intro ex)<;>try conv=>whnf)
    all_goals first
     |exact A0 rfl (congrArg AV.b (jW (by assumption) (by assumption)).symm)
     |exact A0 rfl (congrArg AV.b (jX (by assumption)).symm)
     |exact⟨1,⟨by omega,fun q hq=>by
        obtain rfl:q=0:=by omega
        exact⟨by assumption,Decidable.of_not_not (by assumption)⟩⟩,by omega,A6 h0⟩
   ·have tU:=hJ 0 (by omega)
    simp only[BV]at tU
    have up:-40≤BV ((c.low / w+1)*w) w 1∧BV ((c.low / w+1)*w) w 1≤60:=by simp only[BV];omega
    repeat'((first|refine A1 hwo ?_ |refine S2 ?_|(refine T6 ?_ ?_<;>intro h<;>try exact V1 h)|intro el nX nY|intro el nX|exact T4|refine T5 ?_ ?_|intro ex)<;>try conv=>whnf)
    all_goals first
     |exact A0 rfl (congrArg AV.b (jY tU (by assumption) (by assumption)).symm)
     |exact A0 rfl (congrArg AV.b (jZ tU (by assumption)).symm)
     |exact⟨2,⟨by omega,fun q hq=>by
        obtain rfl|rfl:q=0∨q=1:=by omega
        ·exact tU
        ·exact⟨by assumption,Decidable.of_not_not (by assumption)⟩⟩,by omega,A6 h0⟩
   ·have tU:=hJ 0 (by omega)
    have hJ1:=hJ 1 (by omega)
    simp only[BV]at tU hJ1
    repeat'((first|refine S2 ?_|(refine T6 ?_ ?_<;>intro h<;>try exact V1 h)|intro el nX nY|intro el nX|exact T4|refine T5 ?_ ?_|intro ex)<;>try conv=>whnf)
    all_goals first
     |exact A0 rfl (congrArg AV.b (ja tU hJ1).symm)
theorem Vp(s:A4)(column level:Int)(hd:C3 s):A3 Tryz.prog 119 [sA s,.i column,.i level] (.i (I1 s column level)):=by
 have oB:=X6 s column
 have ox:=d8 level 0 (A8 s column)
 by_cases hb:0≤level∧level≤A8 s column
 ·obtain⟨hr,h1,h2,h4⟩:=EX (s:=s) (column:=column) (level:=level) hb.1 hb.2
  obtain⟨i,rfl⟩:=Int.eq_ofNat_of_zero_le (show 0≤column by omega)
  obtain⟨L,rfl⟩:=Int.eq_ofNat_of_zero_le (show 0≤level by omega)
  obtain⟨c,hc⟩:∃c,s.cols[i]?=some c:=⟨_,List.getElem?_eq_getElem (by omega)⟩
  obtain⟨n,hB⟩:=hd.blk (i:=i) (by omega) hc
  have nt:B4 s i=c:=C0 (by simpa using hc)
  have hLn:L≤n:=by
   have hf:=hB.fin
   have:F2 s i=N0 s c:=by unfold F2;rw[if_neg (by omega),nt]
   omega
  have e:I1 s i L=Q6 s c L:=by
   unfold I1;rw[if_neg (by omega),nt];rfl
  rw[e]
  rw[decide_eq_true hb]at ox
  refine C1 Tryz.func119 23 fun nd E h0=>?_
  clear nd
  repeat'((first|refine A1 oB ?_|refine A1 ox ?_ |refine S2 ?_|(refine T6 ?_ ?_<;>intro h<;>try exact V1 h)|intro el nX nY|intro el nX|exact T4|refine T5 ?_ ?_|intro ex)<;>try conv=>whnf)
  refine B2 (ι:=Nat) (fun k=>⟨[(1,.i i),(2,.i L),(3,.ref 0 0),(7,.i k)],1,[(0,some (.box (sL s)))]⟩) (fun k=>k≤L∧∀o:Nat,o<k→K6 s c o≠K6 s c L) (fun k=>L-k) 0 ⟨Nat.zero_le _,fun o ho=>absurd ho (Nat.not_lt_zero _)⟩
   (A6 h0) (fun k hI=>?_)
  obtain⟨hk,hI⟩:=hI
  have hdv:=RH s i k L hd (by omega) hc hB hk hLn
  have hL4:=hB.le
  repeat'((first|refine A1 hdv ?_ |refine S2 ?_|(refine T6 ?_ ?_<;>intro h<;>try exact V1 h)|intro el nX nY|intro el nX|exact T4|refine T5 ?_ ?_|intro ex)<;>try conv=>whnf)
  all_goals first
   |exact A0 rfl (congrArg AV.i (Ta hB hLn hI (by assumption)))
   |(have hkL:k≠L:=by
      intro e
      subst e
      exact absurd rfl (by assumption)
     exact⟨k+1,⟨by omega,fun o ho=>by
      by_cases eo:o=k
      ·subst eo;assumption
      ·exact hI o (by omega)⟩,by omega,A6 h0⟩)
 ·have e:I1 s column level=-1:=by unfold I1;rw[if_pos (by omega)]
  rw[e]
  rw[decide_eq_false hb]at ox
  refine C1 Tryz.func119 23 fun nd E h0=>?_
  clear nd
  repeat'((first|refine A1 oB ?_|refine A1 ox ?_ |refine S2 ?_|(refine T6 ?_ ?_<;>intro h<;>try exact V1 h)|intro el nX nY|intro el nX|exact T4|refine T5 ?_ ?_|intro ex)<;>try conv=>whnf)
  all_goals exact A0 rfl rfl
end Go.Proofs.YtiphlhoclaogjaaGreatDoor
