/- Chapter 5: the reference's counts of a condition. -/
import Derived.Test.YtkcekccdcpmekaaGreatDoorQC1
set_option linter.unusedVariables false
set_option linter.unnecessarySimpa false
set_option linter.unusedSimpArgs false
set_option maxHeartbeats 64000000
namespace Go.Proofs.YtkcekccdcpmekaaGreatDoor
open Go Go.Av
attribute [local irreducible] E8 B5 E5 E1 DQ E7 E9 St.le A4 A9
set_option maxRecDepth 100000
mutual
def DK:A1→Int→Int
 |.mk _ _ _ _ _ ks,most=>Bz ks most 1
def Bz:List A1→Int→Int→Int
 |[],_,n=>n
 |x::r,most,n=>if n<most then Bz r most (n+DK x (most-n))else n
end
theorem LJ(c:A1)(m:Int):DK c m=Bz c.kids m 1:=by cases c;rfl
theorem aH(c:A1):∀m:Int,1≤DK c m∧DK c m≤max 1 m:=by
 refine T8 (p:=fun c=>∀m:Int,1≤DK c m∧DK c m≤max 1 m) (fun c ih m=>?_) c
 have key:∀(l:List A1),(∀k∈l,k∈c.kids)→∀n:Int,1≤n→n≤max 1 m→1≤Bz l m n∧Bz l m n≤max 1 m:=by
  intro l
  induction l with
  |nil=>intro _ n h1 h2;exact⟨h1,h2⟩
  |cons x r pV =>
   intro hl n h1 h2
   unfold Bz
   split
   ·have:=ih x (hl x (by simp)) (m-n)
    exact pV (fun k hk=>hl k (by simp[hk])) _ (by omega) (by omega)
   ·exact⟨h1,h2⟩
 rw[LJ]
 exact key c.kids (fun k hk=>hk) 1 (by omega) (by omega)
theorem aI(c:A1):∀m:Int,1≤m→DK c m=min (J0 c:Int) m:=by
 refine T8 (p:=fun c=>∀m:Int,1≤m→DK c m=min (J0 c:Int) m) (fun c ih m hm=>?_) c
 have key:∀(l:List A1),(∀k∈l,k∈c.kids)→∀n:Int,n≤m→Bz l m n=min (n+Z9 l) m:=by
  intro l
  induction l with
  |nil=>intro _ n h;unfold Bz Z9;omega
  |cons x r pV =>
   intro hl n hn
   unfold Bz Z9
   by_cases h:n<m
   ·have h1:=ih x (hl x (by simp)) (m-n) (by omega)
    rw[if_pos h,h1,pV (fun k hk=>hl k (by simp[hk])) _ (by omega)]
    omega
   ·rw[if_neg h]
    omega
 rw[LJ,BK,key c.kids (fun k hk=>hk) 1 hm]
 omega
theorem RF(c:A1):∀(m:Int),-100000≤m→m≤100000→A4 Tryz.prog 114 [G9 c,.i m] (.i (DK c m)):=by
 refine T8 (p:=fun c=>∀(m:Int),-100000≤m→m≤100000→A4 Tryz.prog 114 [G9 c,.i m] (.i (DK c m))) (fun c ih m hm1 tj=>?_) c
 rw[T7,LJ]
 refine D0 Tryz.func114 31 fun ki E h0=>?_
 have kf:c.kids.length≤9223372036854775807:=by
  have:=((ki _ (List.mem_cons_self ..)).agg (.sl 6 (c.kids.map I9)) (by simp)).sl
  simpa using this
 clear ki
 repeat'((first|refine S2 ?_|(refine T6 ?_ ?_<;>intro h<;>try exact V1 h)|intro el ke kg|intro el ke|exact T4|refine T5 ?_ ?_|intro ex)<;>try conv=>whnf)
 refine D5 (ι:=Nat×Int) (fun x=>⟨[(1,.i m),(2,.ref 0 0),(5,.i x.2),(6,.i x.1)],1,[(0,some (.box (CJ c)))]⟩) (fun x=>x.1≤c.kids.length∧(1≤x.2∧x.2≤max 1 m)∧Bz c.kids m 1=Bz (c.kids.drop x.1) m x.2) (fun x=>c.kids.length-x.1) (0,1) ⟨Nat.zero_le _,by dsimp only;omega,rfl⟩
  (B2 h0) (fun x hI=>?_)
 obtain⟨k,n⟩:=x
 obtain⟨hk,hn,hI⟩:=hI
 dsimp only at hk hn hI ⊢
 have vx:=fun el=>aH el (m-n)
 repeat'((first|(refine A0 (ih _ (List.mem_of_getElem? (by assumption)) _ (by omega) (by omega)) ?_)|(refine E0 ?_ ?_;(have:=vx el;omega)) |refine S2 ?_|(refine T6 ?_ ?_<;>intro h<;>try exact V1 h)|intro el ke kg|intro el ke|exact T4|refine T5 ?_ ?_|intro ex)<;>try conv=>whnf)
 all_goals first
  |exact A3 rfl (congrArg AV.i (by rw[hI,Bh (by assumption)];rfl))
  |(obtain⟨x,hx⟩:∃x,c.kids[k]?=some x:=⟨_,List.getElem?_eq_getElem (by omega)⟩
    exact A3 rfl (congrArg AV.i (by rw[hI,O6 hx,Bz,if_neg (by assumption)])))
  |exact⟨(k+1,n+DK el (m-n)),⟨by dsimp only;omega,(by have:=vx el;dsimp only;omega),by rw[hI,O6 ke,Bz,if_pos (by assumption)]⟩,by dsimp only;omega,B2 h0⟩
theorem TJ(c:A1):Q2 c≤100000→A4 Tryz.prog 115 [G9 c] (.i (Q2 c)):=by
 refine T8 (p:=fun c=>Q2 c≤100000→A4 Tryz.prog 115 [G9 c] (.i (Q2 c))) (fun c ih hd=>?_) c
 have mw:=Nc c.kids 0
 rw[Dw]at hd
 rw[T7,Dw]
 refine D0 Tryz.func115 22 fun ki E h0=>?_
 have kf:c.kids.length≤9223372036854775807:=by
  have:=((ki _ (List.mem_cons_self ..)).agg (.sl 6 (c.kids.map I9)) (by simp)).sl
  simpa using this
 clear ki
 repeat'((first|refine S2 ?_|(refine T6 ?_ ?_<;>intro h<;>try exact V1 h)|intro el ke kg|intro el ke|exact T4|refine T5 ?_ ?_|intro ex)<;>try conv=>whnf)
 refine D5 (ι:=Nat×Nat) (fun x=>⟨[(1,.ref 0 0),(3,.i x.2),(4,.i x.1)],1,[(0,some (.box (CJ c)))]⟩) (fun x=>x.1≤c.kids.length∧x.2≤W0 c.kids 0∧W0 c.kids 0=W0 (c.kids.drop x.1) x.2) (fun x=>c.kids.length-x.1) (0,0) ⟨Nat.zero_le _,Nat.zero_le _,rfl⟩
  (B2 h0) (fun x hI=>?_)
 obtain⟨k,n⟩:=x
 obtain⟨hk,hn,hI⟩:=hI
 dsimp only at hk hn hI ⊢
 have pJ:∀el,c.kids[k]?=some el→Q2 el≤W0 c.kids 0:=fun el ke=>mw.2 el (List.mem_of_getElem? ke)
 repeat'((first|(refine A0 (ih _ (List.mem_of_getElem? (by assumption)) (by have:=pJ el ke;omega)) ?_) |refine S2 ?_|(refine T6 ?_ ?_<;>intro h<;>try exact V1 h)|intro el ke kg|intro el ke|exact T4|refine T5 ?_ ?_|intro ex)<;>try conv=>whnf)
 all_goals first
  |exact A3 rfl (congrArg AV.i (by rw[hI,Bh (by assumption)];unfold W0;omega))
  |exact⟨(k+1,max n (Q2 el)),⟨by dsimp only;omega,(by have:=pJ el ke;dsimp only;omega),by rw[hI,O6 ke,W0]⟩,by dsimp only;omega,B0 h0 rfl ⟨rfl,congrArg (fun z:Int=>some (AV.i z)) (by dsimp only;omega),rfl,trivial⟩ ⟨rfl,trivial⟩ rfl rfl rfl⟩
abbrev u5(s:A5)(col kind:Int):Bool:=decide (0≤col∧col<s.cols.length∧(C7 s col).kind=kind)
theorem UJ(s:A5)(col kind:Int):A4 Tryz.prog 153 [sA s,.i col,.i kind] (.b (u5 s col kind)):=by
 refine D0 Tryz.func153 26 fun ki E h0=>?_
 clear ki
 repeat'((first|refine S2 ?_|(refine T6 ?_ ?_<;>intro h<;>try exact V1 h)|intro el ke kg|intro el ke|exact T4|refine T5 ?_ ?_|intro ex)<;>try conv=>whnf)
 all_goals first
  |exact A3 rfl (congrArg AV.b (by unfold u5;rw[decide_eq_false (by omega)]))
  |exact A3 rfl (congrArg AV.b (by unfold u5;rw[D4 ke,decide_eq_decide];omega))
inductive R6 where
 |mk (op num:Int) (name:List UInt8) (col:Int) (cols:List Int) (dims:List Pk) (cnd evt:A1) (kids:List R6)
def R6.op:R6→Int|.mk o _ _ _ _ _ _ _ _=>o
def R6.num:R6→Int|.mk _ n _ _ _ _ _ _ _=>n
def R6.name:R6→List UInt8|.mk _ _ nm _ _ _ _ _ _=>nm
def R6.col:R6→Int|.mk _ _ _ c _ _ _ _ _=>c
def R6.cols:R6→List Int|.mk _ _ _ _ cs _ _ _ _=>cs
def R6.dims:R6→List Pk|.mk _ _ _ _ _ ds _ _ _=>ds
def R6.cnd:R6→A1|.mk _ _ _ _ _ _ c _ _=>c
def R6.evt:R6→A1|.mk _ _ _ _ _ _ _ v _=>v
def R6.kids:R6→List R6|.mk _ _ _ _ _ _ _ _ ks=>ks
mutual
def jx:R6→List AV
 |.mk o n nm c cs ds cd ev ks=>[.i o,.i n,.str nm,.i c,.sl 1 (cs.map wA),.sl 2 (ds.map N7),.i cd.op,.i cd.col,.i cd.code,.i cd.lo,.i cd.hi,.sl 6 (cd.kids.map C3),.i ev.op,.i ev.col,.i ev.code,.i ev.lo,.i ev.hi,.sl 6 (ev.kids.map C3),.sl 19 (cZ ks)]
def cZ:List R6→List (List AV)
 |[]=>[]
 |x::r=>jx x::cZ r
end
mutual
def Vp:R6→A1
 |.mk _ _ _ _ _ _ _ _ ks=>.mk 0 0 0 0 0 (Xl ks)
def Xl:List R6→List A1
 |[]=>[]
 |x::r=>Vp x::Xl r
end
structure jk where
 name:List UInt8
 out:Bool
 x:R6
abbrev a6(c:A1):Prop:=c.op=0∧c.col=0∧c.code=0∧c.lo=0∧c.hi=0∧c.kids.length=0
abbrev jX(op:Int):Prop:=op=1∨op=13
abbrev gu(op:Int):Prop:=op=2
abbrev Vq(op:Int):Prop:=4≤op∧op≤5∨10≤op∧op≤14
abbrev gv(op:Int):Prop:=op=11
abbrev gw(op:Int):Prop:=op=10
abbrev Vr(op:Int):Prop:=3≤op∧op≤5∨10≤op∧op≤14
abbrev Vs(op:Int):Prop:=op=12
abbrev HX(op:Int):Prop:=6≤op∧op≤9
abbrev gx(e:R6):Prop:=(jX e.op∨e.num=0)∧(gu e.op∨e.name.length=0)∧(Vq e.op∨e.col=0)∧(gv e.op∨e.cols.length=0)∧(gw e.op∨e.dims.length=0)∧(Vr e.op∨a6 e.cnd)∧(Vs e.op∨a6 e.evt)∧(HX e.op∨e.kids.length=0)
def Ar(s:A5)(l:List Pk)(i:Nat)(d:Pk):Int:=if c8 s d≠0 then c8 s d else if (C7 s d.col).kind≠2 then 7 else if ((l.take i).any fun x=>decide (x.col=d.col))=true then 10 else 0
def AB(s:A5)(l:List Pk):Int:=if l.length<1∨3<l.length then 1 else J1 (Ar s l) 0 l
def As(s:A5)(m:Int)(l:List Int)(i:Nat)(c:Int):Int:=if u5 s c 3=false then 7 else if c=m∨((l.take i).any fun x=>decide (x=c))=true then 10 else 0
def Aa(s:A5)(m:Int)(l:List Int):Int:=if l.length<1∨3<l.length then 1 else J1 (As s m l) 0 l
def aJ(s:A5)(e:R6):Bool :=
 if e.op=1 then decide (-1099511627776≤e.num∧e.num≤1099511627776)else if e.op=2 then D8 e.name
 else if e.op=4∨e.op=5∨e.op=14 then u5 s e.col 3
 else if e.op=10 then decide (AB s e.dims=0) && (decide (e.col=-1) || u5 s e.col 3)
 else if e.op=11 then u5 s e.col 3 && decide (Aa s e.col e.cols=0)
 else if e.op=12 then u5 s e.col 3 && decide (0≤(C7 s e.col).low)
 else if e.op=13 then u5 s e.col 3 && (C7 s e.col).widths.any fun x=>decide (x=e.num)
 else true
def jy(s:A5)(e:R6):Bool:=decide (1≤e.op∧e.op≤14) && decide (gx e) && aJ s e && (decide (¬Vr e.op) || decide (G6 s e.cnd=0)) && (decide (¬Vs e.op) || decide (G6 s e.evt=0)) && (decide (¬HX e.op) || decide (e.kids.length=2))
abbrev Vt(op:Int):Prop:=1≤op∧op≤9
mutual
def Vu(s:A5):R6→Bool
 |.mk o n nm c cs ds cd ev ks=>jy s (.mk o n nm c cs ds cd ev ks) && !(gy s ks)
def gy(s:A5):List R6→Bool
 |[]=>false
 |x::r=>(!decide (Vt x.op) || !Vu s x) || gy s r
end
def jz(s:A5)(e:R6):Bool:=decide (C8 s=0) && Vu s e
mutual
def gz(g:List UInt8→Bool):R6→Bool
 |.mk o n nm c cs ds cd ev ks=>!(decide (o=2) && !g nm) && !(hG g ks)
def hG(g:List UInt8→Bool):List R6→Bool
 |[]=>false
 |x::r=>(!gz g x) || hG g r
end
theorem aK{s:A5}{p:Pk}(h:c8 s p=0):∃c,0≤p.col∧s.cols[p.col.toNat]?=some c:=by
 unfold c8 Gv U6 at h
 by_cases hc:p.col<1∨(s.cols.length:Int)≤p.col
 ·rw[if_pos hc]at h
  split at h
  ·rw[if_pos (show (-1:Int)<0 by omega)]at h
   omega
  ·exact absurd h (by assumption)
 ·exact⟨_,by omega,List.getElem?_eq_getElem (by omega)⟩
theorem Vv(l:List Int)(v:Int):A4 Tryz.prog 110 [.sl 1 (l.map wA),.i v] (.i (K6 (fun x=>decide (x=v)) l 0)):=by
 refine D0 Tryz.func110 19 fun ki E h0=>?_
 have kf:l.length≤9223372036854775807:=by
  have:=(ki (.sl 1 (l.map wA)) (by simp)).sl
  simpa using this
 clear ki
 repeat'((first|refine S2 ?_|(refine T6 ?_ ?_<;>intro h<;>try exact V1 h)|intro el ke kg|intro el ke|exact T4|refine T5 ?_ ?_|intro ex)<;>try conv=>whnf)
 refine D5 (ι:=Nat) (fun k=>⟨[(0,.sl 1 (l.map wA)),(1,.i v),(7,.i l.length),(8,.i k)],0,[]⟩) (fun k=>k≤l.length∧K6 (fun x=>decide (x=v)) l 0=K6 (fun x=>decide (x=v)) (l.drop k) k) (fun k=>l.length-k) 0 ⟨Nat.zero_le _,rfl⟩
  (B2 h0) (fun k hI=>?_)
 obtain⟨hk,hI⟩:=hI
 repeat'((first|(refine I6 ?_ ?_;kernel_rfl) |refine S2 ?_|(refine T6 ?_ ?_<;>intro h<;>try exact V1 h)|intro el ke kg|intro el ke|exact T4|refine T5 ?_ ?_|intro ex)<;>try conv=>whnf)
 all_goals first
  |exact⟨k+1,⟨by omega,by rw[hI,O6 ke,K6,if_neg (by rw[decide_eq_true_iff];omega)];rfl⟩,by omega,B2 h0⟩
  |exact A3 rfl (congrArg AV.i (by rw[hI,O6 ke,K6,if_pos (by rw[decide_eq_true_iff];omega)]))
  |exact A3 rfl (congrArg AV.i (by rw[hI,show k=l.length by omega,List.drop_length];rfl))
theorem PP(l:List Int)(v:Int):A4 Tryz.prog 68 [.sl 1 (l.map wA),.i v] (.b (l.any fun x=>decide (x=v))):=by
 have h:=Vv l v
 refine D0 Tryz.func68 9 fun ki E h0=>?_
 clear ki
 repeat'((first|refine A0 h ?_ |refine S2 ?_|(refine T6 ?_ ?_<;>intro h<;>try exact V1 h)|intro el ke kg|intro el ke|exact T4|refine T5 ?_ ?_|intro ex)<;>try conv=>whnf)
 all_goals first
  |exact A3 rfl (congrArg AV.b (Ds _ l 0 (by omega)))
theorem PQ(l:List Int)(k:Nat)(v:Int):A4 Tryz.prog 68 [.sl 1 ((l.map wA).take k),.i v] (.b ((l.take k).any fun x=>decide (x=v))):=by
 have h:=PP (l.take k) v
 rw[List.map_take]at h
 exact h
instance:K1 Tryz.prog 76 false 1:=.of (by kernel_rfl) (by kernel_rfl)
structure E3 where
 name:List UInt8
 kind:Int
 flt:A1
 dims:List Pk
 mea:Int
 trms:List Int
 evt:A1
abbrev C0(q:E3):List AV:=[.str q.name,.i q.kind,.i q.flt.op,.i q.flt.col,.i q.flt.code,.i q.flt.lo,.i q.flt.hi,.sl 6 (q.flt.kids.map C3),.sl 2 (q.dims.map N7),.i q.mea,.sl 1 (q.trms.map wA),.i q.evt.op,.i q.evt.col,.i q.evt.code,.i q.evt.lo,.i q.evt.hi,.sl 6 (q.evt.kids.map C3)]
abbrev O9(q:E3):AV:=.agg (C0 q)
structure G0 where
 prj:List UInt8
 src:List UInt8
 coh:A1
 part:Int
 of:Int
 seed:Int
 qs:List E3
abbrev FZ(d:G0):List AV:=[.str d.prj,.str d.src,.i d.coh.op,.i d.coh.col,.i d.coh.code,.i d.coh.lo,.i d.coh.hi,.sl 6 (d.coh.kids.map C3),.i d.part,.i d.of,.i d.seed,.sl 17 (d.qs.map C0)]
abbrev R3(d:G0):AV:=.agg (FZ d)
def W1(s:A5)(c:Int):Int:=if 0≤c∧c<s.cols.length then (C7 s c).kind else 0
theorem JB(s:A5)(c k:Int)(hk:k≠0):u5 s c k=decide (W1 s c=k):=by
 unfold u5 W1
 rw[decide_eq_decide]
 split<;>omega
def JC(s:A5)(q:E3):Int:=if ¬AB s q.dims=0 then AB s q.dims else if ¬q.mea=-1∧¬W1 s q.mea=3 then 7 else if 0<q.trms.length∨¬a6 q.evt then 11 else 0
def Ho(s:A5)(q:E3):Int:=if ¬W1 s q.mea=3 then 7 else if ¬Aa s q.mea q.trms=0 then Aa s q.mea q.trms else if 0<q.dims.length∨¬a6 q.evt then 11 else 0
def JD(s:A5)(q:E3):Int:=if ¬W1 s q.mea=3 then 7 else if (C7 s q.mea).low<0 then 2 else if ¬G6 s q.evt=0 then G6 s q.evt else if 0<q.dims.length∨0<q.trms.length then 11 else 0
def u6(s:A5)(q:E3):Int:=if ¬C8 s=0 then C8 s else if D8 q.name=false then 3 else if q.kind<1∨3<q.kind then 4 else if ¬G6 s q.flt=0 then G6 s q.flt else if q.kind=1 then JC s q else if q.kind=2 then Ho s q else JD s q
def Dh(s:A5)(l:List E3)(i:Nat)(q:E3):Int:=if ¬u6 s q=0 then u6 s q else if ((l.take i).any fun x=>decide (x.name=q.name))=true then 10 else 0
def j8(s:A5)(d:G0):Int:=if ¬C8 s=0 then C8 s else if D8 d.prj=false∨D8 d.src=false then 3 else if ¬G6 s d.coh=0 then G6 s d.coh else if d.of<1∨1000<d.of∨d.part<1∨d.of<d.part∨d.seed<0∨1099511627776<d.seed then 2 else if d.qs.length=0∨8<d.qs.length then 1 else J1 (Dh s d.qs) 0 d.qs
theorem DL{s:A5}{c:A1}(h:L0 s c=0):(1≤c.op∧c.op≤7)∧(c.kids.length:Int)=X5 c.op∧(c.op=2∨c.op=3∨c.op=4→0≤c.col∧c.col<s.cols.length)∧(c.op=2→(C7 s c.col).kind=2∧0≤c.code∧c.code<(E2 s (C7 s c.col)).2.length)∧(c.op=3→(C7 s c.col).kind=3∧c.lo≤c.hi∧-1000000≤c.lo∧c.hi≤1000000)∧(c.op=4→(C7 s c.col).kind=3∧(C7 s c.col).opt=true):=by
 unfold L0 at h
 by_cases h1:c.op<1∨7<c.op
 ·rw[if_pos h1]at h;cases h
 rw[if_neg h1]at h
 split at h
 ·cases h
 rename_i h2
 by_cases h3:c.op≠2∧c.op≠3∧c.op≠4
 ·exact⟨by omega,by omega,fun _=>by omega,fun _=>by omega,fun _=>by omega,fun _=>by omega⟩
 rw[if_neg h3]at h
 by_cases h4:c.col<0∨(s.cols.length:Int)≤c.col
 ·rw[if_pos h4]at h;cases h
 rw[if_neg h4]at h
 by_cases h5:c.op=2
 ·rw[if_pos h5]at h
  split at h
  ·cases h
  split at h
  ·cases h
  exact⟨by omega,by omega,fun _=>by omega,fun _=>by omega,fun _=>by omega,fun _=>by omega⟩
 rw[if_neg h5]at h
 by_cases h6:c.op=3
 ·rw[if_pos h6]at h
  split at h
  ·cases h
  split at h
  ·cases h
  exact⟨by omega,by omega,fun _=>by omega,fun _=>by omega,fun _=>by omega,fun _=>by omega⟩
 rw[if_neg h6]at h
 split at h
 ·cases h
 rename_i h7
 refine⟨by omega,by omega,fun _=>by omega,fun _=>by omega,fun _=>by omega,fun _=>⟨?_,?_⟩⟩
 ·exact Decidable.of_not_not fun hh=>h7 (.inl hh)
 ·cases ho:(C7 s c.col).opt
  ·exact absurd (.inr ho) h7
  ·rfl
theorem RG{s:A5}:∀{l:List A1},q9 s l=0→∀k∈l,j7 s k=0
 |[],_,k,hk=>by cases hk
 |x::r,h,k,hk=>by
  unfold q9 at h
  by_cases hx:j7 s x=0
  ·rw[if_pos hx]at h
   rcases List.mem_cons.1 hk with rfl|hk
   ·exact hx
   ·exact RG h k hk
  ·rw[if_neg hx]at h;exact absurd h hx
theorem Ew{s:A5}{c:A1}(h:j7 s c=0):L0 s c=0∧∀k∈c.kids,j7 s k=0:=by
 rw[FI]at h
 by_cases h1:L0 s c=0
 ·rw[if_pos h1]at h
  exact⟨h1,RG h⟩
 ·rw[if_neg h1]at h;exact absurd h h1
theorem CA{s:A5}{c:A1}(h:G6 s c=0):C8 s=0∧J0 c≤40∧Q2 c≤10∧j7 s c=0:=by
 unfold G6 at h
 by_cases h1:C8 s=0
 ·rw[if_pos h1]at h
  split at h
  ·cases h
  split at h
  ·cases h
  exact⟨h1,by omega,by omega,h⟩
 ·rw[if_neg h1]at h;exact absurd h h1
def jY(op:Int)(vs:List Int)(one:Int):Int:=if op=1 then 1 else if op=5 then min (vs.getD 0 0) (vs.getD 1 0)else if op=6 then max (vs.getD 0 0) (vs.getD 1 0)else if op=7 then -(vs.getD 0 0)else one
mutual
def kA(g:A1→Int):A1→Int
 |.mk o c k l h ks=>jY o (iB g ks) (g (.mk o c k l h ks))
def iB(g:A1→Int):List A1→List Int
 |[]=>[]
 |x::r=>kA g x::iB g r
end
end Go.Proofs.YtkcekccdcpmekaaGreatDoor
