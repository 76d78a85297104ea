/- Chapter 17: the reference's needs. Chapter 17: the reference's needs of an expression. -/
import Derived.Test.YtiphlhoclaogjaaGreatDoorJF6
import Derived.Test.YtiphlhoclaogjaaGreatDoorJF2
import Derived.Test.YtiphlhoclaogjaaGreatDoorJCe7
import Derived.Test.YtiphlhoclaogjaaGreatDoorJCr1
import Derived.Test.YtiphlhoclaogjaaGreatDoorJB12
set_option linter.unusedVariables false
set_option linter.unnecessarySimpa false
set_option linter.unusedSimpArgs false
set_option maxHeartbeats 64000000
namespace Go.Proofs.YtiphlhoclaogjaaGreatDoor
open Go Go.Av
attribute [local irreducible] C9 B3 C8 D1 DQ D0 C7 St.le A3 B8
set_option maxRecDepth 100000
abbrev V2(s:A4)(L:List Pk):List Pk:=K7 (Z6 L) 0 s.cols.length
theorem ZZ{s:A4}{L:List Pk}{p:Pk}(h1:0≤p.col)(h2:p.col<s.cols.length)(h3:0≤p.lev):u7 (V2 s L) p.col p.lev=V2 s (L++[p]):=by
 rw[V2,RA h1 h2 h3 (bu L),←Uj]
theorem Kd(s:A4)(L:List Pk)(p:Pk)(hn:s.cols.length≤1000)(h1:0≤p.col)(h2:p.col<s.cols.length)(h3:0≤p.lev):A3 Tryz.prog 118 [.sl 2 ((V2 s L).map A8),.i p.col,.i p.lev] (.sl 2 ((V2 s (L++[p])).map A8)):=by
 have h:=Ar (V2 s L) p.col p.lev (by have:=y8 (Z6 L) s.cols.length 0;unfold V2;omega)
 rwa[ZZ h1 h2 h3]at h
theorem jd{s:A4}{c:B7}:∀p∈I3 s c,(0≤p.col∧p.col<s.cols.length)∧0≤p.lev:=fun p hp=>by
 refine⟨Hm p hp,?_⟩
 unfold I3 at hp
 split at hp
 ·have:=Bl hp;omega
 ·cases hp
theorem ld{s:A4}{e:F6}:∀p∈Y5 s e,(0≤p.col∧p.col<s.cols.length)∧0≤p.lev:=fun p hp=>by
 refine⟨Up p hp,?_⟩
 rw[Hl]at hp
 have:=Bl hp;omega
theorem Mx{s:A4}{c l:Int}(h1:0≤l)(h2:l≤B4 s c):0≤H7 s c l:=by
 unfold H7
 rw[if_neg (by omega)];omega
theorem cN{s:A4}(hr:C3 s=0){c:Int}(h:Q7 s c 3=true):0≤(b8 s c).lev:=by
 have hp:=LJ hr h
 obtain⟨h0,h1,x,hx,hk⟩:=AR h
 exact Mx (by rw[cM hr hp hx hk];omega) (Int.le_refl _)
theorem lg{s:A4}(hr:C3 s=0){d:Pk}(h:N5 s d=0):(0≤(W7 s d).col∧(W7 s d).col<s.cols.length)∧0≤(W7 s d).lev:=by
 have hp:=KU h
 unfold N5 CV at h
 rw[if_pos hr]at h
 refine⟨hp,?_⟩
 have hf:B4 s d.col=E6 s d.col:=by unfold B4;rw[if_pos hr]
 split at h
 ·cases h
 ·split at h
  ·cases h
  ·exact Mx (by omega) (by omega)
theorem je{s:A4}(hr:C3 s=0){c w:Int}(h:Q7 s c 3=true):0≤H7 s c (Ao (B6 s c).widths w):=by
 have hp:=LJ hr h
 obtain⟨h0,h1,x,hx,hk⟩:=AR h
 have hb:=jc (B6 s c).widths w
 have hf:=cM hr hp hx hk
 rw[←B9 hx]at hf
 exact Mx hb.1 (by omega)
theorem jf{s:A4}{e:F6}(hr:C3 s=0)(h:CK s e):∀p∈P1 s e,(0≤p.col∧p.col<s.cols.length)∧0≤p.lev:=by
 intro p hp
 unfold P1 at hp
 split at hp
 ·split at hp
  ·rename_i h1 h2
   simp only[List.mem_singleton]at hp
   subst hp
   rcases h.col (by simp only[o0];omega)with h|h
   ·omega
   ·have:=AR h;exact⟨⟨this.1,this.2.1⟩,cN hr h⟩
  ·cases hp
 ·split at hp
  ·rename_i h1 h2
   simp only[List.mem_singleton]at hp
   subst hp
   rcases h.col (by simp only[o0];omega)with h|h
   ·omega
   ·have:=AR h;exact⟨⟨this.1,this.2.1⟩,je hr h⟩
  ·cases hp
theorem Rb(s:A4)(L:List Pk)(c:B7)(hn:s.cols.length≤1000):A3 Tryz.prog 117 [sA s,.sl 2 ((V2 s L).map A8),D5 c] (.sl 2 ((V2 s (L++I3 s c)).map A8)):=by
 have h1:=EX s c
 have ol:=jd (s:=s) (c:=c)
 have rQ:=fun L p=>Kd s L p hn
 have vu:=CY s c
 generalize I3 s c=R at *
 refine B5 Tryz.func117 31 fun nL E h0=>?_
 clear nL
 repeat'((first|refine A0 h1 ?_ |refine S2 ?_|(refine T6 ?_ ?_<;>intro h<;>try exact V1 h)|intro el nJ nK|intro el nJ|exact T4|refine T5 ?_ ?_|intro ex)<;>try conv=>whnf)
 refine B0 (ι:=Nat) (fun k=>⟨[(1,.sl 2 ((V2 s (L++R.take k)).map A8)),(7,.sl 2 (R.map A8)),(8,.i k)],2,[]⟩) (fun k=>k≤R.length) (fun k=>R.length-k) 0 (Nat.zero_le _)
  (A7 h0 rfl ⟨(by rw[List.take_zero,List.append_nil];rfl),rfl,rfl,trivial⟩ trivial rfl rfl rfl) (fun k hk=>?_)
 by_cases nN:k<R.length
 ·obtain⟨p,hp⟩:∃p,R[k]?=some p:=⟨_,List.getElem?_eq_getElem nN⟩
  obtain⟨⟨p1,p2⟩,p3⟩:=ol p (List.mem_of_getElem? hp)
  have hc:=rQ (L++R.take k) p p1 p2 p3
  rw[List.append_assoc,←F1 hp]at hc
  repeat'((first|(refine A2 (x:=p) hp (by omega) ?_)|refine A0 hc ?_|(refine A9 ?_ ?_;kernel_rfl) |refine S2 ?_|(refine T6 ?_ ?_<;>intro h<;>try exact V1 h)|intro el nJ nK|intro el nJ|exact T4|refine T5 ?_ ?_|intro ex)<;>try conv=>whnf)
  all_goals first
   |(exfalso;omega)
   |exact⟨k+1,by omega,by omega,A6 h0⟩
 ·obtain rfl:k=R.length:=by omega
  rw[List.take_length]
  repeat'((first|refine S2 ?_|(refine T6 ?_ ?_<;>intro h<;>try exact V1 h)|intro el nJ nK|intro el nJ|exact T4|refine T5 ?_ ?_|intro ex)<;>try conv=>whnf)
  all_goals first
   |(exfalso;omega)
   |exact A1 rfl rfl
theorem WL(s:A4)(hd:E4 s)(L:List Pk)(c:Int)(h:Q7 s c 3=true):A3 Tryz.prog 120 [sA s,.sl 2 ((V2 s L).map A8),.i c] (.sl 2 ((V2 s (L++[b8 s c])).map A8)):=by
 have hn:=hd.lens
 have hb:=AR h
 have h1:=N0 s c
 have h2:=HM s c (B4 s c) hd
 have h3:=Kd s L (b8 s c) (by omega) hb.1 hb.2.1 (cN hd.ok h)
 refine B5 Tryz.func120 16 fun nL E h0=>?_
 clear nL
 repeat'((first|refine A0 h1 ?_|refine A0 h2 ?_|refine A0 h3 ?_|(refine A9 ?_ ?_;kernel_rfl) |refine S2 ?_|(refine T6 ?_ ?_<;>intro h<;>try exact V1 h)|intro el nJ nK|intro el nJ|exact T4|refine T5 ?_ ?_|intro ex)<;>try conv=>whnf)
 all_goals first
  |exact A1 rfl rfl
theorem Ro(s:A4)(col ny:Int){c:D3}(yz:0≤col)(hc:s.cols[col.toNat]?=some c)(hw:(c.widths.any fun x=>decide (x=ny))=true):A3 Tryz.prog 121 [sA s,.i col,.i ny] (.i (Ao (B6 s col).widths ny)):=by
 rw[B9 hc]
 unfold Ao
 have nj:0≤D9 (fun x=>decide (x=ny)) c.widths 0:=by
  have:=Bf (fun x=>decide (x=ny)) c.widths 0 (by omega)
  rw[hw]at this
  exact of_decide_eq_true this
 rw[if_pos nj]
 refine B5 Tryz.func121 33 fun nL E h0=>?_
 have nM:c.widths.length≤9223372036854775807:=by
  have:=((((nL (sA s) (by simp)).agg (.sl 7 (s.cols.map U6)) (by simp))).elem (U6 c) (List.mem_map.2 ⟨c,List.mem_of_getElem? hc,rfl⟩) (.sl 1 (c.widths.map wA)) (by simp)).sl
  simpa using this
 clear nL
 repeat'((first|(refine A2 (x:=c) hc (by omega) ?_) |refine S2 ?_|(refine T6 ?_ ?_<;>intro h<;>try exact V1 h)|intro el nJ nK|intro el nJ|exact T4|refine T5 ?_ ?_|intro ex)<;>try conv=>whnf)
 refine B0 (ι:=Nat) (fun k=>⟨[(2,.i ny),(7,.ref 1 0),(8,.i k)],2,[(1,some (.box (U6 c)))]⟩) (fun k=>k≤c.widths.length∧D9 (fun x=>decide (x=ny)) c.widths 0=D9 (fun x=>decide (x=ny)) (c.widths.drop k) k) (fun k=>c.widths.length-k) 0 ⟨Nat.zero_le _,rfl⟩
  (A6 h0) (fun k hI=>?_)
 obtain⟨hk,hI⟩:=hI
 repeat'((first|refine S2 ?_|(refine T6 ?_ ?_<;>intro h<;>try exact V1 h)|intro el nJ nK|intro el nJ|exact T4|refine T5 ?_ ?_|intro ex)<;>try conv=>whnf)
 all_goals first
  |exact⟨k+1,⟨by omega,by rw[hI,F7 nJ,D9,if_neg (by rw[decide_eq_true_iff];omega)];rfl⟩,by omega,A7 h0 rfl ⟨rfl,rfl,rfl,trivial⟩ ⟨rfl,trivial⟩ rfl rfl rfl⟩
  |(have e1:D9 (fun x=>decide (x=ny)) c.widths 0=k:=by rw[hI,F7 nJ,D9,if_pos (by rw[decide_eq_true_iff];omega)]
    exact A1 rfl (congrArg AV.i (by rw[e1])))
  |(exfalso
    have e1:D9 (fun x=>decide (x=ny)) c.widths 0=-1:=by rw[hI,show k=c.widths.length by omega,List.drop_length];rfl
    omega)
theorem CK.hist{s:A4}{e:F6}(h:CK s e)(h13:e.op=13):Q7 s e.col 3=true∧((B6 s e.col).widths.any fun x=>decide (x=e.num))=true:=by
 have hp:=h.par
 unfold EI at hp
 rw[if_neg (by omega),if_neg (by omega),if_neg (by omega),if_neg (by omega),if_neg (by omega),if_neg (by omega),if_pos h13]at hp
 simpa only[Bool.and_eq_true]using hp
theorem cO{s:A4}{e:F6}:K7 (Z6 (((I3 s e.cnd++I3 s e.evt)++e.dims.map (W7 s)++P1 s e++e.cols.map (b8 s))++e.kids.flatMap (Y5 s))) 0 s.cols.length=Y5 s e:=by
 rw[Hl]
 refine FS fun i _ _=>?_
 unfold Pw HK
 simp only[XL]
 omega
theorem Rp(s:A4)(pQ:E4 s)(e:F6):A3 Tryz.prog 55 [sA s,AQ e] (.sl 2 ((W8 s e).map A8)):=by
 refine Hj (p:=fun e=>A3 Tryz.prog 55 [sA s,AQ e] (.sl 2 ((W8 s e).map A8))) (fun e ih=>?_) e
 have hr:=pQ.ok
 have sG:=pQ.lens
 have h1:=WF s e
 unfold W8
 by_cases hx:W6 s e=true
 case neg =>
  have hx:W6 s e=false:=by simpa using hx
  rw[hx]at h1 ⊢
  refine B5 Tryz.func55 139 fun nL E h0=>?_
  clear nL
  repeat'((first|refine A0 h1 ?_ |refine S2 ?_|(refine T6 ?_ ?_<;>intro h<;>try exact V1 h)|intro el nJ nK|intro el nJ|exact T4|refine T5 ?_ ?_|intro ex)<;>try conv=>whnf)
  all_goals first
   |exact p8 (sz:=2) rfl rfl
 have hg:CK s e:=RR (by unfold W6 at hx;simp only[Bool.and_eq_true]at hx;exact hx.2)
 rw[hx]at h1 ⊢
 rw[if_pos rfl]
 have hkr:∀k∈e.kids,A3 Tryz.prog 55 [sA s,AQ k] (.sl 2 ((Y5 s k).map A8)):=fun k hk=>by
  have h:=ih k hk
  have nX:W6 s k=true:=by unfold W6;rw[decide_eq_true hr,(hg.kid k hk).2];rfl
  unfold W8 at h
  rwa[if_pos nX]at h
 clear ih
 obtain⟨hld,vy,up⟩:=hg.lens
 have qK:=hg.op
 have qx:=hg.col
 have vG:=hg.hist
 have zj:=hg.trm
 have xv:∀d∈e.dims,(0≤(W7 s d).col∧(W7 s d).col<s.cols.length)∧0≤(W7 s d).lev:=fun d hd=>lg hr (hg.dim d hd)
 have nP:=jf hr hg
 have h2:=z1 (Rb s [] e.cnd (by omega)) (l':=[sA s,.v (.slice none 0 0),D5 e.cnd]) ⟨.refl _,by rw[V2,jK,KA];exact .nil 2,.refl _,trivial⟩
 have h3:=Rb s ([]++I3 s e.cnd) e.evt (by omega)
 rw[List.nil_append]at h2 h3
 have rQ:=fun L p=>Kd s L p (by omega)
 have yA:=fun c l=>HM s c l pQ
 have hex:=fun L c h=>WL s pQ L c h
 rw[←cO]
 show A3 _ _ _ (.sl 2 ((V2 s _).map A8))
 generalize I3 s e.cnd++I3 s e.evt=N1 at *
 rw[DI]at h1 ⊢
 refine B5 Tryz.func55 139 fun nL E h0=>?_
 clear nL
 repeat'((first|refine A0 h1 ?_|refine A0 h2 ?_|refine A0 h3 ?_ |refine S2 ?_|(refine T6 ?_ ?_<;>intro h<;>try exact V1 h)|intro el nJ nK|intro el nJ|exact T4|refine T5 ?_ ?_|intro ex)<;>try conv=>whnf)
 refine B0 (ι:=Nat) (fun k=>⟨[(2,.iptr (sL s)),(3,.iptr (Bp e)),(5,.sl 2 ((V2 s (N1++(e.dims.take k).map (W7 s))).map A8)),(6,.i k)],2,[]⟩) (fun k=>k≤e.dims.length) (fun k=>e.dims.length-k) 0 (Nat.zero_le _)
  (A7 h0 rfl ⟨rfl,rfl,(by rw[List.take_zero,List.map_nil,List.append_nil];rfl),rfl,trivial⟩ trivial rfl rfl rfl) (fun k hk=>?_)
 by_cases nN:k<e.dims.length
 ·obtain⟨d,hd⟩:∃d,e.dims[k]?=some d:=⟨_,List.getElem?_eq_getElem nN⟩
  obtain⟨⟨p1,p2⟩,p3⟩:=xv d (List.mem_of_getElem? hd)
  have hc:=rQ (N1++(e.dims.take k).map (W7 s)) (W7 s d) p1 p2 p3
  rw[List.append_assoc,show (e.dims.take k).map (W7 s)++[W7 s d]=(e.dims.take (k+1)).map (W7 s) by rw[F1 hd,List.map_append];rfl]at hc
  have hl:=yA d.col d.lev
  repeat'((first|(refine A2 (x:=d) hd (by omega) ?_)|refine A0 hl ?_|refine A0 hc ?_|(refine A9 ?_ ?_;kernel_rfl) |refine S2 ?_|(refine T6 ?_ ?_<;>intro h<;>try exact V1 h)|intro el nJ nK|intro el nJ|exact T4|refine T5 ?_ ?_|intro ex)<;>try conv=>whnf)
  all_goals first
   |(exfalso;omega)
   |exact⟨k+1,by omega,by omega,A6 h0⟩
 obtain rfl:k=e.dims.length:=by omega
 rw[List.take_length]
 have xV:(e.op=4∨e.op=5∨e.op=11∨e.op=12∨e.op=14)→Q7 s e.col 3=true∧P1 s e=[b8 s e.col]:=fun h=>by
  rcases qx (by simp only[o0];omega)with h'|h'
  ·omega
  ·exact⟨h',by unfold P1;rw[if_pos (by omega),if_pos (by have:=LJ hr h';omega)]⟩
 have xA:e.op=10→0≤e.col→Q7 s e.col 3=true∧P1 s e=[b8 s e.col]:=fun h h2=>by
  rcases qx (by simp only[o0];omega)with h'|h'
  ·omega
  ·exact⟨h',by unfold P1;rw[if_pos (by omega),if_pos (by have:=LJ hr h';omega)]⟩
 have xO:e.op=10→¬0≤e.col→P1 s e=[]:=fun h h2=>by unfold P1;rw[if_pos (by omega),if_neg (by omega)]
 have xT:e.op=13→P1 s e=[⟨e.col,H7 s e.col (Ao (B6 s e.col).widths e.num)⟩]:=fun h=>by unfold P1;rw[if_neg (by omega),if_pos h]
 have hM5:¬(e.op=4∨e.op=5∨e.op=11∨e.op=12∨e.op=14)→¬e.op=10→¬e.op=13→P1 s e=[]:=fun h1 h2 h3=>by unfold P1;rw[if_neg (by omega),if_neg h3]
 have pX:e.op=13→A3 Tryz.prog 121 [sA s,.i e.col,.i e.num] (.i (Ao (B6 s e.col).widths e.num)):=fun h=>by
  obtain⟨q1,q2⟩:=vG h
  obtain⟨q3,_,c,q4,_⟩:=AR q1
  exact Ro s e.col e.num q3 q4 (by rw[←B9 q4];exact q2)
 have nv:=yA e.col (Ao (B6 s e.col).widths e.num)
 generalize hA:N1++e.dims.map (W7 s)=A at *
 have xj:e.op=13→A3 Tryz.prog 118 [.sl 2 ((V2 s A).map A8),.i e.col,.i (H7 s e.col (Ao (B6 s e.col).widths e.num))] (.sl 2 ((V2 s (A++P1 s e)).map A8)):=fun h=>by
  have h4:=xT h
  obtain⟨⟨q1,q2⟩,q3⟩:=nP ⟨e.col,H7 s e.col (Ao (B6 s e.col).widths e.num)⟩ (by rw[h4];simp)
  rw[h4]
  exact rQ A ⟨e.col,H7 s e.col (Ao (B6 s e.col).widths e.num)⟩ q1 q2 q3
 have he1:(e.op=4∨e.op=5∨e.op=11∨e.op=12∨e.op=14)→A3 Tryz.prog 120 [sA s,.sl 2 ((V2 s A).map A8),.i e.col] (.sl 2 ((V2 s (A++P1 s e)).map A8)):=fun h=>by
  obtain⟨q1,q2⟩:=xV h
  rw[q2];exact hex A e.col q1
 have he2:e.op=10→0≤e.col→A3 Tryz.prog 120 [sA s,.sl 2 ((V2 s A).map A8),.i e.col] (.sl 2 ((V2 s (A++P1 s e)).map A8)):=fun h h2=>by
  obtain⟨q1,q2⟩:=xA h h2
  rw[q2];exact hex A e.col q1
 have hz3:e.op=10→¬0≤e.col→V2 s A=V2 s (A++P1 s e):=fun h h2=>by rw[xO h h2,List.append_nil]
 have hz5:¬(e.op=4∨e.op=5∨e.op=11∨e.op=12∨e.op=14)→¬e.op=10→¬e.op=13→V2 s A=V2 s (A++P1 s e):=fun h1 h2 h3=>by rw[hM5 h1 h2 h3,List.append_nil]
 clear xV xA xO xT hM5 qx vG xv nP
 generalize A++P1 s e=B at *
 repeat'((first|(refine A0 (he1 (by omega)) ?_)|(refine A0 (he2 (by assumption) (by assumption)) ?_)|(refine A0 (pX (by assumption)) ?_)|refine A0 nv ?_|(refine A0 (xj (by assumption)) ?_)|(refine A9 ?_ ?_;kernel_rfl) |refine S2 ?_|(refine T6 ?_ ?_<;>intro h<;>try exact V1 h)|intro el nJ nK|intro el nJ|exact T4|refine T5 ?_ ?_|intro ex)<;>try conv=>whnf)
 all_goals first
  |(exfalso;omega)
  |skip
 all_goals
  try rw[hz3 (by assumption) (by assumption)]
  try rw[hz5 (by omega) (by assumption) (by assumption)]
 all_goals
  clear he1 he2 pX xj hz3 hz5 nv h1 h2 h3
  refine B0 (ι:=Nat) (fun k=>⟨[(2,.iptr (sL s)),(3,.iptr (Bp e)),(5,.sl 2 ((V2 s (B++(e.cols.take k).map (b8 s))).map A8)),(7,.i k)],2,[]⟩) (fun k=>k≤e.cols.length) (fun k=>e.cols.length-k) 0 (Nat.zero_le _)
   (A7 h0 rfl ⟨rfl,rfl,(by rw[List.take_zero,List.map_nil,List.append_nil];rfl),rfl,trivial⟩ trivial rfl rfl rfl) (fun k hk=>?_)
  by_cases qT:k<e.cols.length
  ·obtain⟨c,hc⟩:∃c,e.cols[k]?=some c:=⟨_,List.getElem?_eq_getElem qT⟩
   have qf:=hex (B++(e.cols.take k).map (b8 s)) c (zj c (List.mem_of_getElem? hc))
   rw[List.append_assoc,show (e.cols.take k).map (b8 s)++[b8 s c]=(e.cols.take (k+1)).map (b8 s) by rw[F1 hc,List.map_append];rfl]at qf
   repeat'((first|(refine A2 (x:=c) hc (by omega) ?_)|refine A0 qf ?_|(refine A9 ?_ ?_;kernel_rfl) |refine S2 ?_|(refine T6 ?_ ?_<;>intro h<;>try exact V1 h)|intro el nJ nK|intro el nJ|exact T4|refine T5 ?_ ?_|intro ex)<;>try conv=>whnf)
   all_goals first
    |(exfalso;omega)
    |exact⟨k+1,by omega,by omega,A6 h0⟩
  obtain rfl:k=e.cols.length:=by omega
  rw[List.take_length]
  generalize B++e.cols.map (b8 s)=D at *
  repeat'((first|refine S2 ?_|(refine T6 ?_ ?_<;>intro h<;>try exact V1 h)|intro el nJ nK|intro el nJ|exact T4|refine T5 ?_ ?_|intro ex)<;>try conv=>whnf)
  all_goals first
   |(exfalso;omega)
   |skip
  refine B0 (ι:=Nat) (fun k=>⟨[(2,.iptr (sL s)),(3,.iptr (Bp e)),(5,.sl 2 ((V2 s (D++(e.kids.take k).flatMap (Y5 s))).map A8)),(8,.i k)],2,[]⟩) (fun k=>k≤e.kids.length) (fun k=>e.kids.length-k) 0 (Nat.zero_le _)
   (A7 h0 rfl ⟨rfl,rfl,(by rw[List.take_zero,List.flatMap_nil,List.append_nil];rfl),rfl,trivial⟩ trivial rfl rfl rfl) (fun k hk=>?_)
  by_cases vr:k<e.kids.length
  ·obtain⟨x,hx⟩:∃x,e.kids[k]?=some x:=⟨_,List.getElem?_eq_getElem vr⟩
   have hq:=hkr x (List.mem_of_getElem? hx)
   have hfx:(e.kids.take (k+1)).flatMap (Y5 s)=(e.kids.take k).flatMap (Y5 s)++Y5 s x:=by rw[F1 hx,List.flatMap_append];simp
   have hnk:=ld (s:=s) (e:=x)
   have vu:=XO (s:=s) (e:=x)
   generalize (e.kids.take k).flatMap (Y5 s)=F at *
   generalize Y5 s x=R at *
   repeat'((first|(refine A2 (x:=x) hx (by omega) ?_)|refine A0 hq ?_|(refine A9 ?_ ?_;kernel_rfl) |refine S2 ?_|(refine T6 ?_ ?_<;>intro h<;>try exact V1 h)|intro el nJ nK|intro el nJ|exact T4|refine T5 ?_ ?_|intro ex)<;>try conv=>whnf)
   all_goals first
    |(exfalso;omega)
    |skip
   refine B0 (ι:=Nat) (fun j=>⟨[(2,.iptr (sL s)),(3,.iptr (Bp e)),(5,.sl 2 ((V2 s (D++(F++R.take j))).map A8)),(8,.i k),(9,.sl 2 (R.map A8)),(10,.i j)],2,[]⟩) (fun j=>j≤R.length) (fun j=>R.length-j) 0 (Nat.zero_le _)
    (A7 h0 rfl ⟨rfl,rfl,(by rw[List.take_zero,List.append_nil];rfl),rfl,rfl,rfl,trivial⟩ trivial rfl rfl rfl) (fun j hj=>?_)
   by_cases hlt4:j<R.length
   ·obtain⟨p,hp⟩:∃p,R[j]?=some p:=⟨_,List.getElem?_eq_getElem hlt4⟩
    obtain⟨⟨p1,p2⟩,p3⟩:=hnk p (List.mem_of_getElem? hp)
    have qf:=rQ (D++(F++R.take j)) p p1 p2 p3
    rw[List.append_assoc,List.append_assoc,←F1 hp]at qf
    repeat'((first|(refine A2 (x:=p) hp (by omega) ?_)|refine A0 qf ?_|(refine A9 ?_ ?_;kernel_rfl) |refine S2 ?_|(refine T6 ?_ ?_<;>intro h<;>try exact V1 h)|intro el nJ nK|intro el nJ|exact T4|refine T5 ?_ ?_|intro ex)<;>try conv=>whnf)
    all_goals first
     |(exfalso;omega)
     |exact⟨j+1,by omega,by omega,A6 h0⟩
   ·obtain rfl:j=R.length:=by omega
    rw[List.take_length,←hfx]
    repeat'((first|refine S2 ?_|(refine T6 ?_ ?_<;>intro h<;>try exact V1 h)|intro el nJ nK|intro el nJ|exact T4|refine T5 ?_ ?_|intro ex)<;>try conv=>whnf)
    all_goals first
     |(exfalso;omega)
     |exact⟨k+1,by omega,by omega,A6 h0⟩
  obtain rfl:k=e.kids.length:=by omega
  rw[List.take_length]
  repeat'((first|refine S2 ?_|(refine T6 ?_ ?_<;>intro h<;>try exact V1 h)|intro el nJ nK|intro el nJ|exact T4|refine T5 ?_ ?_|intro ex)<;>try conv=>whnf)
  all_goals first
   |(exfalso;omega)
   |exact A1 rfl rfl
end Go.Proofs.YtiphlhoclaogjaaGreatDoor
