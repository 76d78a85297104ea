/- Chapter 17: the reference's needs. Chapter 17: the reference's needs of an expression. -/
import Derived.Test.YtiphlhoclaogjaaGreatDoorRF6
import Derived.Test.YtiphlhoclaogjaaGreatDoorRF2
import Derived.Test.YtiphlhoclaogjaaGreatDoorRCe7
import Derived.Test.YtiphlhoclaogjaaGreatDoorRCr1
import Derived.Test.YtiphlhoclaogjaaGreatDoorRB12
set_option linter.unusedVariables false
set_option linter.unnecessarySimpa false
set_option linter.unusedSimpArgs false
set_option maxHeartbeats 64000000
namespace Go.Proofs.YtiphlhoclaogjaaGreatDoor
open Go Go.Av
attribute [local irreducible] C9 B3 C7 D1 DQ D0 C6 St.le A3 B7
set_option maxRecDepth 100000
abbrev U9(s:A4)(L:List Pk):List Pk:=K5 (Z0 L) 0 s.cols.length
theorem Yi{s:A4}{L:List Pk}{p:Pk}(h1:0≤p.col)(h2:p.col<s.cols.length)(h3:0≤p.lev):o3 (U9 s L) p.col p.lev=U9 s (L++[p]):=by
 rw[U9,QD h1 h2 h3 (aq L),←Tq]
theorem Ji(s:A4)(L:List Pk)(p:Pk)(hn:s.cols.length≤1000)(h1:0≤p.col)(h2:p.col<s.cols.length)(h3:0≤p.lev):A3 Tryz.prog 118 [.sl 2 ((U9 s L).map A8),.i p.col,.i p.lev] (.sl 2 ((U9 s (L++[p])).map A8)):=by
 have h:=z6 (U9 s L) p.col p.lev (by have:=r8 (Z0 L) s.cols.length 0;unfold U9;omega)
 rwa[Yi h1 h2 h3]at h
theorem iU{s:A4}{c:B6}:∀p∈I1 s c,(0≤p.col∧p.col<s.cols.length)∧0≤p.lev:=fun p hp=>by
 refine⟨Gu p hp,?_⟩
 unfold I1 at hp
 split at hp
 ·have:=Aq hp;omega
 ·cases hp
theorem kV{s:A4}{e:F6}:∀p∈Y3 s e,(0≤p.col∧p.col<s.cols.length)∧0≤p.lev:=fun p hp=>by
 refine⟨Tw p hp,?_⟩
 rw[Gt]at hp
 have:=Aq hp;omega
theorem Lz{s:A4}{c l:Int}(h1:0≤l)(h2:l≤B4 s c):0≤H8 s c l:=by
 unfold H8
 rw[if_neg (by omega)];omega
theorem bM{s:A4}(hr:C3 s=0){c:Int}(h:Q5 s c 3=true):0≤(b5 s c).lev:=by
 have hp:=KN hr h
 obtain⟨h0,h1,x,hx,hk⟩:=v4 h
 exact Lz (by rw[bL hr hp hx hk];omega) (Int.le_refl _)
theorem kW{s:A4}(hr:C3 s=0){d:Pk}(h:N3 s d=0):(0≤(W3 s d).col∧(W3 s d).col<s.cols.length)∧0≤(W3 s d).lev:=by
 have hp:=Ja h
 unfold N3 BZ at h
 rw[if_pos hr]at h
 refine⟨hp,?_⟩
 have hf:B4 s d.col=E5 s d.col:=by unfold B4;rw[if_pos hr]
 split at h
 ·cases h
 ·split at h
  ·cases h
  ·exact Lz (by omega) (by omega)
theorem iV{s:A4}(hr:C3 s=0){c w:Int}(h:Q5 s c 3=true):0≤H8 s c (z3 (B8 s c).widths w):=by
 have hp:=KN hr h
 obtain⟨h0,h1,x,hx,hk⟩:=v4 h
 have hb:=iT (B8 s c).widths w
 have hf:=bL hr hp hx hk
 rw[←C1 hx]at hf
 exact Lz hb.1 (by omega)
theorem iW{s:A4}{e:F6}(hr:C3 s=0)(h:BO s e):∀p∈O8 s e,(0≤p.col∧p.col<s.cols.length)∧0≤p.lev:=by
 intro p hp
 unfold O8 at hp
 split at hp
 ·split at hp
  ·rename_i h1 h2
   simp only[List.mem_singleton]at hp
   subst hp
   rcases h.col (by simp only[j6];omega)with h|h
   ·omega
   ·have:=v4 h;exact⟨⟨this.1,this.2.1⟩,bM hr h⟩
  ·cases hp
 ·split at hp
  ·rename_i h1 h2
   simp only[List.mem_singleton]at hp
   subst hp
   rcases h.col (by simp only[j6];omega)with h|h
   ·omega
   ·have:=v4 h;exact⟨⟨this.1,this.2.1⟩,iV hr h⟩
  ·cases hp
theorem Qf(s:A4)(L:List Pk)(c:B6)(hn:s.cols.length≤1000):A3 Tryz.prog 117 [sA s,.sl 2 ((U9 s L).map A8),D5 c] (.sl 2 ((U9 s (L++I1 s c)).map A8)):=by
 have h1:=Dg s c
 have np:=iU (s:=s) (c:=c)
 have qO:=fun L p=>Ji s L p hn
 have uw:=Bc s c
 generalize I1 s c=R at *
 refine B5 Tryz.func117 31 fun mK E h0=>?_
 clear mK
 repeat'((first|refine A0 h1 ?_ |refine S2 ?_|(refine T6 ?_ ?_<;>intro h<;>try exact V1 h)|intro el mI mJ|intro el mI|exact T4|refine T5 ?_ ?_|intro ex)<;>try conv=>whnf)
 refine A9 (ι:=Nat) (fun k=>⟨[(1,.sl 2 ((U9 s (L++R.take k)).map A8)),(7,.sl 2 (R.map A8)),(8,.i k)],2,[]⟩) (fun k=>k≤R.length) (fun k=>R.length-k) 0 (Nat.zero_le _)
  (A7 h0 rfl ⟨(by rw[List.take_zero,List.append_nil];rfl),rfl,rfl,trivial⟩ trivial rfl rfl rfl) (fun k hk=>?_)
 by_cases mM:k<R.length
 ·obtain⟨p,hp⟩:∃p,R[k]?=some p:=⟨_,List.getElem?_eq_getElem mM⟩
  obtain⟨⟨p1,p2⟩,p3⟩:=np p (List.mem_of_getElem? hp)
  have hc:=qO (L++R.take k) p p1 p2 p3
  rw[List.append_assoc,←E7 hp]at hc
  repeat'((first|(refine A2 (x:=p) hp (by omega) ?_)|refine A0 hc ?_|(refine B0 ?_ ?_;kernel_rfl) |refine S2 ?_|(refine T6 ?_ ?_<;>intro h<;>try exact V1 h)|intro el mI mJ|intro el mI|exact T4|refine T5 ?_ ?_|intro ex)<;>try conv=>whnf)
  all_goals first
   |(exfalso;omega)
   |exact⟨k+1,by omega,by omega,A6 h0⟩
 ·obtain rfl:k=R.length:=by omega
  rw[List.take_length]
  repeat'((first|refine S2 ?_|(refine T6 ?_ ?_<;>intro h<;>try exact V1 h)|intro el mI mJ|intro el mI|exact T4|refine T5 ?_ ?_|intro ex)<;>try conv=>whnf)
  all_goals first
   |(exfalso;omega)
   |exact A1 rfl rfl
theorem VQ(s:A4)(hd:D9 s)(L:List Pk)(c:Int)(h:Q5 s c 3=true):A3 Tryz.prog 120 [sA s,.sl 2 ((U9 s L).map A8),.i c] (.sl 2 ((U9 s (L++[b5 s c])).map A8)):=by
 have hn:=hd.lens
 have hb:=v4 h
 have h1:=L5 s c
 have h2:=GS s c (B4 s c) hd
 have h3:=Ji s L (b5 s c) (by omega) hb.1 hb.2.1 (bM hd.ok h)
 refine B5 Tryz.func120 16 fun mK E h0=>?_
 clear mK
 repeat'((first|refine A0 h1 ?_|refine A0 h2 ?_|refine A0 h3 ?_|(refine B0 ?_ ?_;kernel_rfl) |refine S2 ?_|(refine T6 ?_ ?_<;>intro h<;>try exact V1 h)|intro el mI mJ|intro el mI|exact T4|refine T5 ?_ ?_|intro ex)<;>try conv=>whnf)
 all_goals first
  |exact A1 rfl rfl
theorem Qs(s:A4)(col mv:Int){c:D4}(xw:0≤col)(hc:s.cols[col.toNat]?=some c)(hw:(c.widths.any fun x=>decide (x=mv))=true):A3 Tryz.prog 121 [sA s,.i col,.i mv] (.i (z3 (B8 s col).widths mv)):=by
 rw[C1 hc]
 unfold z3
 have mg:0≤E8 (fun x=>decide (x=mv)) c.widths 0:=by
  have:=Ak (fun x=>decide (x=mv)) c.widths 0 (by omega)
  rw[hw]at this
  exact of_decide_eq_true this
 rw[if_pos mg]
 refine B5 Tryz.func121 33 fun mK E h0=>?_
 have mL:c.widths.length≤9223372036854775807:=by
  have:=((((mK (sA s) (by simp)).agg (.sl 7 (s.cols.map U6)) (by simp))).elem (U6 c) (List.mem_map.2 ⟨c,List.mem_of_getElem? hc,rfl⟩) (.sl 1 (c.widths.map wA)) (by simp)).sl
  simpa using this
 clear mK
 repeat'((first|(refine A2 (x:=c) hc (by omega) ?_) |refine S2 ?_|(refine T6 ?_ ?_<;>intro h<;>try exact V1 h)|intro el mI mJ|intro el mI|exact T4|refine T5 ?_ ?_|intro ex)<;>try conv=>whnf)
 refine A9 (ι:=Nat) (fun k=>⟨[(2,.i mv),(7,.ref 1 0),(8,.i k)],2,[(1,some (.box (U6 c)))]⟩) (fun k=>k≤c.widths.length∧E8 (fun x=>decide (x=mv)) c.widths 0=E8 (fun x=>decide (x=mv)) (c.widths.drop k) k) (fun k=>c.widths.length-k) 0 ⟨Nat.zero_le _,rfl⟩
  (A6 h0) (fun k hI=>?_)
 obtain⟨hk,hI⟩:=hI
 repeat'((first|refine S2 ?_|(refine T6 ?_ ?_<;>intro h<;>try exact V1 h)|intro el mI mJ|intro el mI|exact T4|refine T5 ?_ ?_|intro ex)<;>try conv=>whnf)
 all_goals first
  |exact⟨k+1,⟨by omega,by rw[hI,G1 mI,E8,if_neg (by rw[decide_eq_true_iff];omega)];rfl⟩,by omega,A6 h0⟩
  |(have e1:E8 (fun x=>decide (x=mv)) c.widths 0=k:=by rw[hI,G1 mI,E8,if_pos (by rw[decide_eq_true_iff];omega)]
    exact A1 rfl (congrArg AV.i (by rw[e1])))
  |(exfalso
    have e1:E8 (fun x=>decide (x=mv)) c.widths 0=-1:=by rw[hI,show k=c.widths.length by omega,List.drop_length];rfl
    omega)
theorem BO.hist{s:A4}{e:F6}(h:BO s e)(h13:e.op=13):Q5 s e.col 3=true∧((B8 s e.col).widths.any fun x=>decide (x=e.num))=true:=by
 have hp:=h.par
 unfold DR at hp
 rw[if_neg (by omega),if_neg (by omega),if_neg (by omega),if_neg (by omega),if_neg (by omega),if_neg (by omega),if_pos h13]at hp
 simpa only[Bool.and_eq_true]using hp
theorem bN{s:A4}{e:F6}:K5 (Z0 (((I1 s e.cnd++I1 s e.evt)++e.dims.map (W3 s)++O8 s e++e.cols.map (b5 s))++e.kids.flatMap (Y3 s))) 0 s.cols.length=Y3 s e:=by
 rw[Gt]
 refine EW fun i _ _=>?_
 unfold Ow GQ
 simp only[WT]
 omega
theorem Qt(s:A4)(oN:D9 s)(e:F6):A3 Tryz.prog 55 [sA s,u9 e] (.sl 2 ((W4 s e).map A8)):=by
 refine Gr (p:=fun e=>A3 Tryz.prog 55 [sA s,u9 e] (.sl 2 ((W4 s e).map A8))) (fun e ih=>?_) e
 have hr:=oN.ok
 have qV:=oN.lens
 have h1:=VK s e
 unfold W4
 by_cases hx:W2 s e=true
 case neg =>
  have hx:W2 s e=false:=by simpa using hx
  rw[hx]at h1 ⊢
  refine B5 Tryz.func55 139 fun mK E h0=>?_
  clear mK
  repeat'((first|refine A0 h1 ?_ |refine S2 ?_|(refine T6 ?_ ?_<;>intro h<;>try exact V1 h)|intro el mI mJ|intro el mI|exact T4|refine T5 ?_ ?_|intro ex)<;>try conv=>whnf)
  all_goals first
   |exact l5 (sz:=2) rfl rfl
 have hg:BO s e:=QV (by unfold W2 at hx;simp only[Bool.and_eq_true]at hx;exact hx.2)
 rw[hx]at h1 ⊢
 rw[if_pos rfl]
 have hkr:∀k∈e.kids,A3 Tryz.prog 55 [sA s,u9 k] (.sl 2 ((Y3 s k).map A8)):=fun k hk=>by
  have h:=ih k hk
  have mW:W2 s k=true:=by unfold W2;rw[decide_eq_true hr,(hg.kid k hk).2];rfl
  unfold W4 at h
  rwa[if_pos mW]at h
 clear ih
 obtain⟨hld,vF,tQ⟩:=hg.lens
 have pJ:=hg.op
 have qA:=hg.col
 have uG:=hg.hist
 have yd:=hg.trm
 have wQ:∀d∈e.dims,(0≤(W3 s d).col∧(W3 s d).col<s.cols.length)∧0≤(W3 s d).lev:=fun d hd=>kW hr (hg.dim d hd)
 have mO:=iW hr hg
 have h2:=s5 (Qf s [] e.cnd (by omega)) (l':=[sA s,.v (.slice none 0 0),D5 e.cnd]) ⟨.refl _,by rw[U9,iB,JJ];exact .nil 2,.refl _,trivial⟩
 have h3:=Qf s ([]++I1 s e.cnd) e.evt (by omega)
 rw[List.nil_append]at h2 h3
 have qO:=fun L p=>Ji s L p (by omega)
 have vj:=fun c l=>GS s c l oN
 have hex:=fun L c h=>VQ s oN L c h
 rw[←bN]
 show A3 _ _ _ (.sl 2 ((U9 s _).map A8))
 generalize I1 s e.cnd++I1 s e.evt=N1 at *
 rw[CN]at h1 ⊢
 refine B5 Tryz.func55 139 fun mK E h0=>?_
 clear mK
 repeat'((first|refine A0 h1 ?_|refine A0 h2 ?_|refine A0 h3 ?_ |refine S2 ?_|(refine T6 ?_ ?_<;>intro h<;>try exact V1 h)|intro el mI mJ|intro el mI|exact T4|refine T5 ?_ ?_|intro ex)<;>try conv=>whnf)
 refine A9 (ι:=Nat) (fun k=>⟨[(2,.iptr (sL s)),(3,.iptr (Au e)),(5,.sl 2 ((U9 s (N1++(e.dims.take k).map (W3 s))).map A8)),(6,.i k)],2,[]⟩) (fun k=>k≤e.dims.length) (fun k=>e.dims.length-k) 0 (Nat.zero_le _)
  (A7 h0 rfl ⟨rfl,rfl,(by rw[List.take_zero,List.map_nil,List.append_nil];rfl),rfl,trivial⟩ trivial rfl rfl rfl) (fun k hk=>?_)
 by_cases mM:k<e.dims.length
 ·obtain⟨d,hd⟩:∃d,e.dims[k]?=some d:=⟨_,List.getElem?_eq_getElem mM⟩
  obtain⟨⟨p1,p2⟩,p3⟩:=wQ d (List.mem_of_getElem? hd)
  have hc:=qO (N1++(e.dims.take k).map (W3 s)) (W3 s d) p1 p2 p3
  rw[List.append_assoc,show (e.dims.take k).map (W3 s)++[W3 s d]=(e.dims.take (k+1)).map (W3 s) by rw[E7 hd,List.map_append];rfl]at hc
  have hl:=vj d.col d.lev
  repeat'((first|(refine A2 (x:=d) hd (by omega) ?_)|refine A0 hl ?_|refine A0 hc ?_|(refine B0 ?_ ?_;kernel_rfl) |refine S2 ?_|(refine T6 ?_ ?_<;>intro h<;>try exact V1 h)|intro el mI mJ|intro el mI|exact T4|refine T5 ?_ ?_|intro ex)<;>try conv=>whnf)
  all_goals first
   |(exfalso;omega)
   |exact⟨k+1,by omega,by omega,A6 h0⟩
 obtain rfl:k=e.dims.length:=by omega
 rw[List.take_length]
 have xP:(e.op=4∨e.op=5∨e.op=11∨e.op=12∨e.op=14)→Q5 s e.col 3=true∧O8 s e=[b5 s e.col]:=fun h=>by
  rcases qA (by simp only[j6];omega)with h'|h'
  ·omega
  ·exact⟨h',by unfold O8;rw[if_pos (by omega),if_pos (by have:=KN hr h';omega)]⟩
 have wg:e.op=10→0≤e.col→Q5 s e.col 3=true∧O8 s e=[b5 s e.col]:=fun h h2=>by
  rcases qA (by simp only[j6];omega)with h'|h'
  ·omega
  ·exact⟨h',by unfold O8;rw[if_pos (by omega),if_pos (by have:=KN hr h';omega)]⟩
 have wy:e.op=10→¬0≤e.col→O8 s e=[]:=fun h h2=>by unfold O8;rw[if_pos (by omega),if_neg (by omega)]
 have xN:e.op=13→O8 s e=[⟨e.col,H8 s e.col (z3 (B8 s e.col).widths e.num)⟩]:=fun h=>by unfold O8;rw[if_neg (by omega),if_pos h]
 have hM5:¬(e.op=4∨e.op=5∨e.op=11∨e.op=12∨e.op=14)→¬e.op=10→¬e.op=13→O8 s e=[]:=fun h1 h2 h3=>by unfold O8;rw[if_neg (by omega),if_neg h3]
 have oV:e.op=13→A3 Tryz.prog 121 [sA s,.i e.col,.i e.num] (.i (z3 (B8 s e.col).widths e.num)):=fun h=>by
  obtain⟨q1,q2⟩:=uG h
  obtain⟨q3,_,c,q4,_⟩:=v4 q1
  exact Qs s e.col e.num q3 q4 (by rw[←C1 q4];exact q2)
 have mt:=vj e.col (z3 (B8 s e.col).widths e.num)
 generalize hA:N1++e.dims.map (W3 s)=A at *
 have wx:e.op=13→A3 Tryz.prog 118 [.sl 2 ((U9 s A).map A8),.i e.col,.i (H8 s e.col (z3 (B8 s e.col).widths e.num))] (.sl 2 ((U9 s (A++O8 s e)).map A8)):=fun h=>by
  have h4:=xN h
  obtain⟨⟨q1,q2⟩,q3⟩:=mO ⟨e.col,H8 s e.col (z3 (B8 s e.col).widths e.num)⟩ (by rw[h4];simp)
  rw[h4]
  exact qO A ⟨e.col,H8 s e.col (z3 (B8 s e.col).widths e.num)⟩ q1 q2 q3
 have zy:(e.op=4∨e.op=5∨e.op=11∨e.op=12∨e.op=14)→A3 Tryz.prog 120 [sA s,.sl 2 ((U9 s A).map A8),.i e.col] (.sl 2 ((U9 s (A++O8 s e)).map A8)):=fun h=>by
  obtain⟨q1,q2⟩:=xP h
  rw[q2];exact hex A e.col q1
 have he2:e.op=10→0≤e.col→A3 Tryz.prog 120 [sA s,.sl 2 ((U9 s A).map A8),.i e.col] (.sl 2 ((U9 s (A++O8 s e)).map A8)):=fun h h2=>by
  obtain⟨q1,q2⟩:=wg h h2
  rw[q2];exact hex A e.col q1
 have zm:e.op=10→¬0≤e.col→U9 s A=U9 s (A++O8 s e):=fun h h2=>by rw[wy h h2,List.append_nil]
 have hz5:¬(e.op=4∨e.op=5∨e.op=11∨e.op=12∨e.op=14)→¬e.op=10→¬e.op=13→U9 s A=U9 s (A++O8 s e):=fun h1 h2 h3=>by rw[hM5 h1 h2 h3,List.append_nil]
 clear xP wg wy xN hM5 qA uG wQ mO
 generalize A++O8 s e=B at *
 repeat'((first|(refine A0 (zy (by omega)) ?_)|(refine A0 (he2 (by assumption) (by assumption)) ?_)|(refine A0 (oV (by assumption)) ?_)|refine A0 mt ?_|(refine A0 (wx (by assumption)) ?_)|(refine B0 ?_ ?_;kernel_rfl) |refine S2 ?_|(refine T6 ?_ ?_<;>intro h<;>try exact V1 h)|intro el mI mJ|intro el mI|exact T4|refine T5 ?_ ?_|intro ex)<;>try conv=>whnf)
 all_goals first
  |(exfalso;omega)
  |skip
 all_goals
  try rw[zm (by assumption) (by assumption)]
  try rw[hz5 (by omega) (by assumption) (by assumption)]
 all_goals
  clear zy he2 oV wx zm hz5 mt h1 h2 h3
  refine A9 (ι:=Nat) (fun k=>⟨[(2,.iptr (sL s)),(3,.iptr (Au e)),(5,.sl 2 ((U9 s (B++(e.cols.take k).map (b5 s))).map A8)),(7,.i k)],2,[]⟩) (fun k=>k≤e.cols.length) (fun k=>e.cols.length-k) 0 (Nat.zero_le _)
   (A7 h0 rfl ⟨rfl,rfl,(by rw[List.take_zero,List.map_nil,List.append_nil];rfl),rfl,trivial⟩ trivial rfl rfl rfl) (fun k hk=>?_)
  by_cases pP:k<e.cols.length
  ·obtain⟨c,hc⟩:∃c,e.cols[k]?=some c:=⟨_,List.getElem?_eq_getElem pP⟩
   have ph:=hex (B++(e.cols.take k).map (b5 s)) c (yd c (List.mem_of_getElem? hc))
   rw[List.append_assoc,show (e.cols.take k).map (b5 s)++[b5 s c]=(e.cols.take (k+1)).map (b5 s) by rw[E7 hc,List.map_append];rfl]at ph
   repeat'((first|(refine A2 (x:=c) hc (by omega) ?_)|refine A0 ph ?_|(refine B0 ?_ ?_;kernel_rfl) |refine S2 ?_|(refine T6 ?_ ?_<;>intro h<;>try exact V1 h)|intro el mI mJ|intro el mI|exact T4|refine T5 ?_ ?_|intro ex)<;>try conv=>whnf)
   all_goals first
    |(exfalso;omega)
    |exact⟨k+1,by omega,by omega,A6 h0⟩
  obtain rfl:k=e.cols.length:=by omega
  rw[List.take_length]
  generalize B++e.cols.map (b5 s)=D at *
  repeat'((first|refine S2 ?_|(refine T6 ?_ ?_<;>intro h<;>try exact V1 h)|intro el mI mJ|intro el mI|exact T4|refine T5 ?_ ?_|intro ex)<;>try conv=>whnf)
  all_goals first
   |(exfalso;omega)
   |skip
  refine A9 (ι:=Nat) (fun k=>⟨[(2,.iptr (sL s)),(3,.iptr (Au e)),(5,.sl 2 ((U9 s (D++(e.kids.take k).flatMap (Y3 s))).map A8)),(8,.i k)],2,[]⟩) (fun k=>k≤e.kids.length) (fun k=>e.kids.length-k) 0 (Nat.zero_le _)
   (A7 h0 rfl ⟨rfl,rfl,(by rw[List.take_zero,List.flatMap_nil,List.append_nil];rfl),rfl,trivial⟩ trivial rfl rfl rfl) (fun k hk=>?_)
  by_cases vI:k<e.kids.length
  ·obtain⟨x,hx⟩:∃x,e.kids[k]?=some x:=⟨_,List.getElem?_eq_getElem vI⟩
   have hq:=hkr x (List.mem_of_getElem? hx)
   have hfx:(e.kids.take (k+1)).flatMap (Y3 s)=(e.kids.take k).flatMap (Y3 s)++Y3 s x:=by rw[E7 hx,List.flatMap_append];simp
   have hnk:=kV (s:=s) (e:=x)
   have uw:=WW (s:=s) (e:=x)
   generalize (e.kids.take k).flatMap (Y3 s)=F at *
   generalize Y3 s x=R at *
   repeat'((first|(refine A2 (x:=x) hx (by omega) ?_)|refine A0 hq ?_|(refine B0 ?_ ?_;kernel_rfl) |refine S2 ?_|(refine T6 ?_ ?_<;>intro h<;>try exact V1 h)|intro el mI mJ|intro el mI|exact T4|refine T5 ?_ ?_|intro ex)<;>try conv=>whnf)
   all_goals first
    |(exfalso;omega)
    |skip
   refine A9 (ι:=Nat) (fun j=>⟨[(2,.iptr (sL s)),(3,.iptr (Au e)),(5,.sl 2 ((U9 s (D++(F++R.take j))).map A8)),(8,.i k),(9,.sl 2 (R.map A8)),(10,.i j)],2,[]⟩) (fun j=>j≤R.length) (fun j=>R.length-j) 0 (Nat.zero_le _)
    (A7 h0 rfl ⟨rfl,rfl,(by rw[List.take_zero,List.append_nil];rfl),rfl,rfl,rfl,trivial⟩ trivial rfl rfl rfl) (fun j hj=>?_)
   by_cases hlt4:j<R.length
   ·obtain⟨p,hp⟩:∃p,R[j]?=some p:=⟨_,List.getElem?_eq_getElem hlt4⟩
    obtain⟨⟨p1,p2⟩,p3⟩:=hnk p (List.mem_of_getElem? hp)
    have ph:=qO (D++(F++R.take j)) p p1 p2 p3
    rw[List.append_assoc,List.append_assoc,←E7 hp]at ph
    repeat'((first|(refine A2 (x:=p) hp (by omega) ?_)|refine A0 ph ?_|(refine B0 ?_ ?_;kernel_rfl) |refine S2 ?_|(refine T6 ?_ ?_<;>intro h<;>try exact V1 h)|intro el mI mJ|intro el mI|exact T4|refine T5 ?_ ?_|intro ex)<;>try conv=>whnf)
    all_goals first
     |(exfalso;omega)
     |exact⟨j+1,by omega,by omega,A6 h0⟩
   ·obtain rfl:j=R.length:=by omega
    rw[List.take_length,←hfx]
    repeat'((first|refine S2 ?_|(refine T6 ?_ ?_<;>intro h<;>try exact V1 h)|intro el mI mJ|intro el mI|exact T4|refine T5 ?_ ?_|intro ex)<;>try conv=>whnf)
    all_goals first
     |(exfalso;omega)
     |exact⟨k+1,by omega,by omega,A6 h0⟩
  obtain rfl:k=e.kids.length:=by omega
  rw[List.take_length]
  repeat'((first|refine S2 ?_|(refine T6 ?_ ?_<;>intro h<;>try exact V1 h)|intro el mI mJ|intro el mI|exact T4|refine T5 ?_ ?_|intro ex)<;>try conv=>whnf)
  all_goals first
   |(exfalso;omega)
   |exact A1 rfl rfl
end Go.Proofs.YtiphlhoclaogjaaGreatDoor
