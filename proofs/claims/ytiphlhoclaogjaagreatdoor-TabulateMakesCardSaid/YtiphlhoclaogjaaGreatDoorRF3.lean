/- Chapter 17: what expressions need, and their kinds, in plain terms. Chapter 17: what an expression needs, without its kids. Chapter 17: picks are merged; what a right expression needs. -/
import Derived.Test.YtiphlhoclaogjaaGreatDoorRF1
import Derived.Test.YtiphlhoclaogjaaGreatDoorRC3
import Derived.Test.YtiphlhoclaogjaaGreatDoorRC1
import Derived.Test.YtiphlhoclaogjaaGreatDoorRRg0
import Derived.Test.YtiphlhoclaogjaaGreatDoorRTa5
import Derived.Test.YtiphlhoclaogjaaGreatDoorRCd1
import Derived.Test.YtiphlhoclaogjaaGreatDoorRCm2
import Derived.Test.YtiphlhoclaogjaaGreatDoorRD2
set_option linter.unusedVariables false
set_option linter.unnecessarySimpa false
set_option linter.unusedSimpArgs false
set_option maxHeartbeats 64000000
namespace Go.Proofs.YtiphlhoclaogjaaGreatDoor
open Go Go.Av
attribute [local irreducible] C9 B3 C7 D1 DQ D0 C6 St.le A3 B7
set_option maxRecDepth 100000
def Z0(l:List Pk)(i:Nat):Int:=l.foldl (fun (m:Int) (p:Pk)=>if p.col=(i:Int)then max m p.lev else m) 0
theorem iB:Z0 []=fun _=>0:=rfl
theorem Tq(l:List Pk)(p:Pk):Z0 (l++[p])=upd (Z0 l) p.col p.lev:=by
 funext i
 unfold Z0 upd
 rw[List.foldl_append]
 rfl
theorem Tr(i:Nat):∀(l:List Pk) (m:Int),0≤m→l.foldl (fun (m:Int) (p:Pk)=>if p.col=(i:Int)then max m p.lev else m) m=max m (Z0 l i):=by
 intro l
 induction l with
 |nil=>intro m h;unfold Z0;simp only[List.foldl_nil];omega
 |cons p r ih =>
  intro m h
  unfold Z0
  rw[List.foldl_cons,List.foldl_cons]
  split
  ·rw[ih _ (by omega),ih _ (by omega)];omega
  ·rw[ih _ h,ih 0 (Int.le_refl _)];omega
theorem aq(l:List Pk)(i:Nat):0≤Z0 l i:=by
 have:=Tr i l 0 (Int.le_refl _)
 have h:Z0 l i=l.foldl (fun (m:Int) (p:Pk)=>if p.col=(i:Int)then max m p.lev else m) 0:=rfl
 omega
theorem WT(a b:List Pk)(i:Nat):Z0 (a++b) i=max (Z0 a i) (Z0 b i):=by
 have h:Z0 (a++b) i=b.foldl (fun (m:Int) (p:Pk)=>if p.col=(i:Int)then max m p.lev else m) (Z0 a i):=by
  unfold Z0;rw[List.foldl_append]
 rw[h,Tr i b _ (aq a i)]
theorem iC(p:Pk)(i:Nat):Z0 [p] i=if p.col=(i:Int)then max 0 p.lev else 0:=rfl
def z2(l:List Pk):Int:=l.foldl (fun (m:Int) (p:Pk)=>max m p.col) 0
theorem YQ(l:List Pk)(p:Pk):z2 (l++[p])=max (z2 l) p.col:=by unfold z2;rw[List.foldl_append];rfl
theorem YR:∀(l:List Pk) (m:Int),m≤l.foldl (fun (m:Int) (p:Pk)=>max m p.col) m∧∀p∈l,p.col≤l.foldl (fun (m:Int) (p:Pk)=>max m p.col) m:=by
 intro l
 induction l with
 |nil=>intro m;exact⟨Int.le_refl _,fun p h=>by cases h⟩
 |cons p r ih =>
  intro m
  rw[List.foldl_cons]
  obtain⟨h1,h2⟩:=ih (max m p.col)
  refine⟨by omega,fun q hq=>?_⟩
  rcases List.mem_cons.1 hq with rfl|hq
  ·omega
  ·exact h2 q hq
theorem Ts{l:List Pk}:0≤z2 l∧∀p∈l,p.col≤z2 l:=YR l 0
theorem Lt{n:Int}(hn:0<n):∀{l:List Pk},(∀p∈l,p.col<n)→z2 l<n:=by
 have key:∀(l:List Pk) (m:Int),m<n→(∀p∈l,p.col<n)→l.foldl (fun (m:Int) (p:Pk)=>max m p.col) m<n:=by
  intro l
  induction l with
  |nil=>intro m h _;exact h
  |cons p r ih =>
   intro m h hl
   rw[List.foldl_cons]
   exact ih _ (by have:=hl p (by simp);omega) fun q hq=>hl q (by simp[hq])
 exact fun {l} h=>key l 0 hn h
theorem dm{l:List Pk}{i:Nat}(h:∀p∈l,p.col≠(i:Int)):Z0 l i=0:=by
 induction l with
 |nil=>rfl
 |cons p r ih =>
  have e:Z0 (p::r) i=max (Z0 [p] i) (Z0 r i):=WT [p] r i
  rw[e,iC,if_neg (h p (by simp)),ih fun q hq=>h q (by simp[hq])];rfl
theorem Tt(lv:Nat→Int):∀(n m lo:Nat),n≤m→(∀i,lo+n≤i→lv i=0)→K5 lv lo m=K5 lv lo n
 |0,m,lo,_,h=>by
  induction m generalizing lo with
  |zero=>rfl
  |succ m ih =>
   rw[f7,if_neg (by rw[h lo (by omega)];omega),ih (lo+1) (by omega) fun i hi=>h i (by omega)]
   rfl
 |n+1,0,lo,hn,_=>by omega
 |n+1,m+1,lo,hn,h=>by
  rw[f7,f7,Tt lv n m (lo+1) (by omega) fun i hi=>h i (by omega)]
def YS(l:List Pk):List Pk:=K5 (Z0 l) 0 (z2 l+1).toNat
theorem kN{l:List Pk}{n:Nat}(hn:0<n)(h:∀p∈l,0≤p.col∧p.col<n):YS l=K5 (Z0 l) 0 n:=by
 have h1:=Lt (n:=n) (l:=l) (by omega) fun p hp=>(h p hp).2
 have h2:=Ts (l:=l)
 unfold YS
 rw[Tt (Z0 l) (z2 l+1).toNat n 0 (by omega) fun i hi=>dm fun p hp=>by have:=h2.2 p hp;omega]
abbrev b5(s:A4)(c:Int):Pk:=⟨c,H8 s c (B4 s c)⟩
abbrev W3(s:A4)(d:Pk):Pk:=⟨d.col,H8 s d.col d.lev⟩
def z3(ws:List Int)(mv:Int):Int:=if 0≤E8 (fun x=>decide (x=mv)) ws 0 then ws.length-E8 (fun x=>decide (x=mv)) ws 0 else 0
def O8(s:A4)(e:F6):List Pk :=
 if e.op=4∨e.op=5∨e.op=10∨e.op=11∨e.op=12∨e.op=14 then (if 0<e.col then [b5 s e.col]else [])
 else if e.op=13 then [⟨e.col,H8 s e.col (z3 (B8 s e.col).widths e.num)⟩]else []
def GQ(s:A4)(e:F6):List Pk:=e.dims.map (W3 s)++O8 s e++e.cols.map (b5 s)
mutual
def Y3(s:A4):F6→List Pk
 |.mk o n nm c cs ds cd ev ks=>K5 (Z0 (GQ s (.mk o n nm c cs ds cd ev ks)++I1 s cd++I1 s ev++YT s ks)) 0 s.cols.length
def YT(s:A4):List F6→List Pk
 |[]=>[]
 |x::r=>Y3 s x++YT s r
end
theorem WU(s:A4):∀l,YT s l=l.flatMap (Y3 s)
 |[]=>rfl
 |x::r=>by rw[YT,WU s r];rfl
abbrev Ow(s:A4)(e:F6):List Pk:=GQ s e++I1 s e.cnd++I1 s e.evt++e.kids.flatMap (Y3 s)
theorem Gt(s:A4)(e:F6):Y3 s e=K5 (Z0 (Ow s e)) 0 s.cols.length:=by
 cases e
 rw[Y3,WU];rfl
def W4(s:A4)(e:F6):List Pk:=if W2 s e=true then Y3 s e else []
structure WV where
 name:List UInt8
 kind:Int
def fI(nm:List UInt8):List WV→Int×Int→Int×Int
 |[],z=>z
 |b::r,z=>fI nm r (if b.name=nm then (b.kind,0)else z)
def kO(before:List WV)(nm:List UInt8):Int×Int:=fI nm before (0,24)
def lu(before:List WV)(e:F6)(numbers:Bool):Int×Int :=
 if e.op=2 then kO before e.name else if numbers=false then (0,16)else if Ou e.op then (1,0)else (e.op-8,0)
mutual
def Tu(before:List WV):F6→Int×Int
 |.mk o n nm c cs ds cd ev ks=>if (YU before ks true).1=0 then lu before (.mk o n nm c cs ds cd ev ks) (YU before ks true).2 else (0,(YU before ks true).1)
def YU(before:List WV):List F6→Bool→Int×Bool
 |[],b=>(0,b)
 |x::r,b=>if (Tu before x).2=0 then YU before r (b && decide ((Tu before x).1=1))else ((Tu before x).2,b)
end
theorem ar(s:A4)(sH:List Pk)(c:Int)(hl:sH.length≤100000):B7 Tryz.prog 212 2 [(0,some (.box [.row 1 0 sH.length])),(1,some (.row 81 2 0 (sH.map A8)))] [.i c,.ref 0 0,.iptr (sL s)] 2 [(0,some (.box [.row 1 0 (sH.length+1)])),(1,some (.row 81 2 0 ((sH++[b5 s c]).map A8)))] (.tup []):=by
 have h1:=Ch s c
 have h2:=NM s c (B4 s c)
 refine Y6 Tryz.func212 15 fun E h0=>?_
 repeat'((first|refine A0 h1 ?_|refine A0 h2 ?_|(refine E6 0 ?_;refine F3 (id:=0) ⟨[],2,[(0,some (.box [.row 1 0 (sH.length+1)])),(1,some (.row 81 2 0 ((sH++[b5 s c]).map A8)))]⟩ ?_ ?_) |refine S2 ?_|(refine T6 ?_ ?_<;>intro h<;>try exact V1 h)|intro el mI mJ|intro el mI|exact T4|refine T5 ?_ ?_|intro ex)<;>try conv=>whnf)
 all_goals first
  |exact A7 h0 rfl trivial ⟨rfl,⟨_,congrArg (C4.row 81 2 _) (by rw[List.map_append];rfl)⟩,trivial⟩ rfl rfl rfl
  |(delta C6;exact .inl ⟨[],[],rfl,trivial,rfl,rfl,A6 h0,rfl⟩)
theorem Tv(s:A4)(col mv:Int){c:D4}(xw:0≤col)(hc:s.cols[col.toNat]?=some c):A3 Tryz.prog 214 [sA s,.i col,.i mv] (.i (z3 (B8 s col).widths mv)):=by
 rw[C1 hc]
 unfold z3
 refine B5 Tryz.func214 31 fun mK E h0=>?_
 have mL:c.widths.length≤9223372036854775807:=by
  have:=((((mK (sA s) (by simp)).agg (.sl 7 (s.cols.map U6)) (by simp))).elem (U6 c) (List.mem_map.2 ⟨c,List.mem_of_getElem? hc,rfl⟩) (.sl 1 (c.widths.map wA)) (by simp)).sl
  simpa using this
 clear mK
 repeat'((first|(refine A2 (x:=c) hc (by omega) ?_) |refine S2 ?_|(refine T6 ?_ ?_<;>intro h<;>try exact V1 h)|intro el mI mJ|intro el mI|exact T4|refine T5 ?_ ?_|intro ex)<;>try conv=>whnf)
 refine A9 (ι:=Nat) (fun k=>⟨[(2,.i mv),(7,.sl 1 (c.widths.map wA)),(16,.sl 1 (c.widths.map wA)),(17,.i c.widths.length),(18,.i k)],1,[]⟩) (fun k=>k≤c.widths.length∧E8 (fun x=>decide (x=mv)) c.widths 0=E8 (fun x=>decide (x=mv)) (c.widths.drop k) k) (fun k=>c.widths.length-k) 0 ⟨Nat.zero_le _,rfl⟩
  (A6 h0) (fun k hI=>?_)
 obtain⟨hk,hI⟩:=hI
 repeat'((first|refine S2 ?_|(refine T6 ?_ ?_<;>intro h<;>try exact V1 h)|intro el mI mJ|intro el mI|exact T4|refine T5 ?_ ?_|intro ex)<;>try conv=>whnf)
 all_goals first
  |exact⟨k+1,⟨by omega,by rw[hI,G1 mI,E8,if_neg (by rw[decide_eq_true_iff];omega)];rfl⟩,by omega,A6 h0⟩
  |(have e1:E8 (fun x=>decide (x=mv)) c.widths 0=k:=by rw[hI,G1 mI,E8,if_pos (by rw[decide_eq_true_iff];omega)]
    exact A1 rfl (congrArg AV.i (by rw[e1,if_pos (by omega)])))
  |(have e1:E8 (fun x=>decide (x=mv)) c.widths 0=-1:=by rw[hI,show k=c.widths.length by omega,List.drop_length];rfl
    exact A1 rfl (congrArg AV.i (by rw[e1,if_neg (by omega)])))
theorem au(s:A4)(hr:C3 s=0)(e:F6)(hg:BO s e):A3 Tryz.prog 163 [sA s,u9 e] (.sl 2 ((GQ s e).map A8)):=by
 obtain⟨qj,uk,_⟩:=hg.lens
 have qA:=hg.col
 have pJ:=hg.op
 have vj:=fun c l=>NM s c l
 have pa:∀h:e.op=13,A3 Tryz.prog 214 [sA s,.i e.col,.i e.num] (.i (z3 (B8 s e.col).widths e.num)):=fun h=>by
  rcases qA (by simp only[j6];omega)with h'|h'
  ·omega
  ·obtain⟨xw,_,c,hc,_⟩:=v4 h'
   exact Tv s e.col e.num xw hc
 have how:=ar s
 rw[CN]
 refine B5 Tryz.func163 78 fun mK E h0=>?_
 clear mK
 repeat'((first|(refine I4 0 ?_;refine DH ?_;(conv=>whnf);refine LV rfl rfl ?_) |refine S2 ?_|(refine T6 ?_ ?_<;>intro h<;>try exact V1 h)|intro el mI mJ|intro el mI|exact T4|refine T5 ?_ ?_|intro ex)<;>try conv=>whnf)
 refine A9 (ι:=Nat) (fun k=>⟨[(2,.iptr (sL s)),(3,.ref 1 0),(5,.ref 2 0),(6,.fo 212 [.ref 2 0,.iptr (sL s)]),(13,.sl 2 (e.dims.map A8)),(14,.i e.dims.length),(15,.i k)],4,[(1,some (.box (Au e))),(2,some (.box [.row 3 0 ((e.dims.take k).map (W3 s)).length])),(3,some (.row 81 2 0 (((e.dims.take k).map (W3 s)).map A8)))]⟩) (fun k=>k≤e.dims.length) (fun k=>e.dims.length-k) 0 (Nat.zero_le _)
  (B9 (w6 2 0 (e:=81) (sz:=2) rfl rfl) (A7 h0 rfl ⟨rfl,rfl,rfl,rfl,rfl,rfl,rfl,trivial⟩ ⟨rfl,rfl,⟨0,rfl⟩,trivial⟩ rfl rfl rfl)) (fun k hk=>?_)
 have mT:((e.dims.take k).map (W3 s)).length≤3:=by rw[List.length_map,List.length_take];omega
 by_cases mM:k<e.dims.length
 ·obtain⟨d,hd⟩:∃d,e.dims[k]?=some d:=⟨_,List.getElem?_eq_getElem mM⟩
  have mq:(e.dims.take (k+1)).map (W3 s)=(e.dims.take k).map (W3 s)++[W3 s d]:=by rw[E7 hd,List.map_append];rfl
  have oH:=vj d.col d.lev
  generalize (e.dims.take k).map (W3 s)=A at mT mq ⊢
  repeat'((first|(refine A2 (x:=d) hd (by omega) ?_)|refine A0 oH ?_|(refine E6 6 ?_;refine R2 (id:=6) (σ':=⟨[(2,.iptr (sL s)),(3,.ref 1 0),(5,.ref 2 0),(6,.fo 212 [.ref 2 0,.iptr (sL s)]),(8,.iptr (A8 d)),(13,.sl 2 (e.dims.map A8)),(14,.i e.dims.length),(15,.i k)],4,[(1,some (.box (Au e))),(2,some (.box [.row 3 0 A.length])),(3,some (.row 81 2 0 (A.map A8)))]⟩) (A6 h0) ?_;refine F3 (id:=6) ⟨[(2,.iptr (sL s)),(3,.ref 1 0),(5,.ref 2 0),(6,.fo 212 [.ref 2 0,.iptr (sL s)]),(13,.sl 2 (e.dims.map A8)),(14,.i e.dims.length),(15,.i k)],4,[(1,some (.box (Au e))),(2,some (.box [.row 3 0 (A.length+1)])),(3,some (.row 81 2 0 ((A++[W3 s d]).map A8)))]⟩ ?_ ?_) |refine S2 ?_|(refine T6 ?_ ?_<;>intro h<;>try exact V1 h)|intro el mI mJ|intro el mI|exact T4|refine T5 ?_ ?_|intro ex)<;>try conv=>whnf)
  all_goals first
   |exact A7 h0 rfl ⟨rfl,rfl,rfl,rfl,rfl,rfl,rfl,trivial⟩ ⟨rfl,rfl,⟨_,congrArg (C4.row 81 2 _) (by rw[List.map_append];rfl)⟩,trivial⟩ rfl rfl rfl
   |(refine⟨k+1,by omega,by omega,?_⟩;rw[mq];exact A7 h0 rfl ⟨rfl,rfl,rfl,rfl,rfl,rfl,rfl,trivial⟩ ⟨rfl,congrArg (fun z=>C4.box [.row 3 0 z]) (by rw[List.length_append];rfl),⟨_,rfl⟩,trivial⟩ rfl rfl rfl)
 ·obtain rfl:k=e.dims.length:=by omega
  rw[List.take_length]
  have pL:(O8 s e).length≤1:=by
   unfold O8
   split
   ·split<;>simp
   ·split<;>simp
  have uO:∀A,A=e.dims.map (W3 s)→GQ s e=A++O8 s e++e.cols.map (b5 s):=fun A h=>by rw[h];rfl
  have xP:(e.op=4∨e.op=5∨e.op=10∨e.op=11∨e.op=12∨e.op=14)→0<e.col→O8 s e=[b5 s e.col]:=fun h1 h2=>by unfold O8;rw[if_pos h1,if_pos h2]
  have wg:(e.op=4∨e.op=5∨e.op=10∨e.op=11∨e.op=12∨e.op=14)→¬0<e.col→O8 s e=[]:=fun h1 h2=>by unfold O8;rw[if_pos h1,if_neg h2]
  have wy:e.op=13→O8 s e=[⟨e.col,H8 s e.col (z3 (B8 s e.col).widths e.num)⟩]:=fun h1=>by unfold O8;rw[if_neg (by omega),if_pos h1]
  have xN:¬(e.op=4∨e.op=5∨e.op=10∨e.op=11∨e.op=12∨e.op=14)→¬e.op=13→O8 s e=[]:=fun h1 h2=>by unfold O8;rw[if_neg h1,if_neg h2]
  have mT:(e.dims.map (W3 s)).length≤3:=by rw[List.length_map];exact qj
  generalize hA:e.dims.map (W3 s)=A at mT ⊢
  rw[uO A hA.symm]
  clear mT uO
  have hAl:A.length≤3:=by rw[←hA,List.length_map];exact qj
  generalize O8 s e=M at *
  have c1:=how A e.col (by omega)
  have c2:=vj e.col (z3 (B8 s e.col).widths e.num)
  repeat'((first|refine⟨Vm [2,3] [0,0] c1 rfl rfl rfl rfl rfl rfl ⟨rfl,rfl,trivial⟩ rfl rfl rfl rfl rfl ?_⟩|(refine A0 (pa (by assumption)) ?_)|refine A0 c2 ?_|(refine E6 18 ?_;refine R2 (id:=18) (σ':=⟨[(2,.iptr (sL s)),(3,.iptr (Au e)),(5,.ref 2 0),(6,.fo 212 [.ref 2 0,.iptr (sL s)])],4,[(2,some (.box [.row 3 0 A.length])),(3,some (.row 81 2 0 (A.map A8)))]⟩) (A6 h0) ?_;refine F3 (id:=18) ⟨[(2,.iptr (sL s)),(3,.iptr (Au e)),(5,.ref 2 0),(6,.fo 212 [.ref 2 0,.iptr (sL s)])],4,[(2,some (.box [.row 3 0 (A.length+1)])),(3,some (.row 81 2 0 ((A++[(⟨e.col,H8 s e.col (z3 (B8 s e.col).widths e.num)⟩:Pk)]).map A8)))]⟩ ?_ ?_) |refine S2 ?_|(refine T6 ?_ ?_<;>intro h<;>try exact V1 h)|intro el mI mJ|intro el mI|exact T4|refine T5 ?_ ?_|intro ex)<;>try conv=>whnf)
  all_goals first
   |exact A7 h0 rfl ⟨rfl,rfl,rfl,rfl,trivial⟩ ⟨rfl,⟨_,congrArg (C4.row 81 2 _) (by rw[List.map_append];rfl)⟩,trivial⟩ rfl rfl rfl
   |skip
  all_goals
   first
    |(have hM:=xP (by omega) (by assumption))
    |(have hM:=wg (by omega) (by assumption))
    |(have hM:=wy (by assumption))
    |(have hM:=xN (by omega) (by assumption))
   clear xP wg wy xN
   refine A9 (ι:=Nat) (fun k=>⟨[(5,.ref 2 0),(6,.fo 212 [.ref 2 0,.iptr (sL s)]),(67,.sl 1 (e.cols.map wA)),(68,.i e.cols.length),(69,.i k)],4,[(2,some (.box [.row 3 0 (A++M++(e.cols.take k).map (b5 s)).length])),(3,some (.row 81 2 0 ((A++M++(e.cols.take k).map (b5 s)).map A8)))]⟩) (fun k=>k≤e.cols.length) (fun k=>e.cols.length-k) 0 (Nat.zero_le _)
    (A7 h0 rfl ⟨rfl,rfl,rfl,rfl,rfl,trivial⟩ ⟨congrArg (fun z=>C4.box [.row 3 0 z]) (by rw[hM];simp),⟨_,congrArg (C4.row 81 2 _) (by rw[hM];simp)⟩,trivial⟩ rfl rfl rfl) (fun k hk=>?_)
   have hBl:(A++M++(e.cols.take k).map (b5 s)).length≤7:=by rw[List.length_append,List.length_append,List.length_map,List.length_take];omega
   by_cases mM:k<e.cols.length
   ·obtain⟨c,hc⟩:∃c,e.cols[k]?=some c:=⟨_,List.getElem?_eq_getElem mM⟩
    have mq:A++M++(e.cols.take (k+1)).map (b5 s)=A++M++(e.cols.take k).map (b5 s)++[b5 s c]:=by rw[E7 hc,List.map_append,List.append_assoc (A++M)];rfl
    generalize A++M++(e.cols.take k).map (b5 s)=B at hBl mq ⊢
    have c3:=how B c (by omega)
    repeat'((first|(refine A2 (x:=c) hc (by omega) ?_)|refine⟨Vm [2,3] [0,0] c3 rfl rfl rfl rfl rfl rfl ⟨rfl,rfl,trivial⟩ rfl rfl rfl rfl rfl ?_⟩ |refine S2 ?_|(refine T6 ?_ ?_<;>intro h<;>try exact V1 h)|intro el mI mJ|intro el mI|exact T4|refine T5 ?_ ?_|intro ex)<;>try conv=>whnf)
    all_goals first
     |(exfalso;omega)
     |(refine⟨k+1,by omega,by omega,?_⟩;rw[mq];exact A7 h0 rfl ⟨rfl,rfl,rfl,rfl,rfl,trivial⟩ ⟨congrArg (fun z=>C4.box [.row 3 0 z]) (by rw[List.length_append];rfl),⟨_,rfl⟩,trivial⟩ rfl rfl rfl)
   ·obtain rfl:k=e.cols.length:=by omega
    rw[List.take_length]
    repeat'((first|refine S2 ?_|(refine T6 ?_ ?_<;>intro h<;>try exact V1 h)|intro el mI mJ|intro el mI|exact T4|refine T5 ?_ ?_|intro ex)<;>try conv=>whnf)
    all_goals first
     |(exfalso;omega)
     |exact A1 rfl rfl
abbrev Jb(p:List Pk):List AV:=[.sl 2 (p.map A8)]
structure Fu(m:List (Key×AV))(lv:Nat→Int):Prop where
 keys:t4 (.int .i64) m
 get:∀c:Nat,w9 m (.i .i64 c) (g8 (.int .i64 0))=.i (lv c)
theorem aw:Fu [] fun _=>0:=⟨fun p hp=>(by cases hp),fun c=>rfl⟩
theorem Fu.step{m:List (Key×AV)}{lv:Nat→Int}(h:Fu m lv){p:Pk}(hp:0≤p.col):Fu (d0 m (.i .i64 p.col) (.i (max (lv p.col.toNat) p.lev))) (upd lv p.col p.lev):=by
 refine⟨JF (by rfl) h.keys,fun c=>?_⟩
 unfold w9 upd
 rw[Py]
 by_cases e:p.col=(c:Int)
 ·rw[if_pos (by rw[e]),if_pos e,e,Int.toNat_natCast]
 ·rw[if_neg (fun hh=>e (by injection hh)),if_neg e]
  exact h.get c
theorem Fu.geti{m:List (Key×AV)}{lv:Nat→Int}(h:Fu m lv){c:Int}(hc:0≤c):w9 m (.i .i64 c) (g8 (.int .i64 0))=.i (lv c.toNat):=by
 have:=h.get c.toNat
 rwa[show ((c.toNat:Nat):Int)=c by omega]at this
theorem az{α:Type}{ls:List (List α)}{j k:Nat}{l:List α}{x:α}(hl:ls[j]?=some l)(hx:l[k]?=some x):(ls.take j).flatten++l.take (k+1)=(ls.take j).flatten++l.take k++[x]:=by
 rw[E7 hx,List.append_assoc]
theorem bB{α:Type}{ls:List (List α)}{j:Nat}{l:List α}(hl:ls[j]?=some l):(ls.take (j+1)).flatten=(ls.take j).flatten++l:=by
 rw[E7 hl,List.flatten_append];simp
theorem YV(ls:List (List Pk))(hp:∀l∈ls,l.length≤100000∧∀p∈l,0≤p.col∧p.col<1000):A3 Tryz.prog 164 [.sl 1 (ls.map Jb)] (.sl 2 ((YS ls.flatten).map A8)):=by
 have nV:∀p∈ls.flatten,0≤p.col∧p.col<1000:=fun p hm=>by
  obtain⟨l,h1,h2⟩:=List.mem_flatten.1 hm
  exact(hp l h1).2 p h2
 have hla:=Lt (n:=1000) (l:=ls.flatten) (by omega) fun p hm=>(nV p hm).2
 have tG:=(Ts (l:=ls.flatten)).1
 unfold YS
 refine B5 Tryz.func164 59 fun mK E h0=>?_
 have mL:ls.length≤9223372036854775807:=by
  have:=(mK (.sl 1 (ls.map Jb)) (by simp)).sl
  simpa using this
 clear mK
 repeat'((first|refine S2 ?_|(refine T6 ?_ ?_<;>intro h<;>try exact V1 h)|intro el mI mJ|intro el mI|exact T4|refine T5 ?_ ?_|intro ex)<;>try conv=>whnf)
 refine A9 (ι:=Nat×List (Key×AV)) (fun x=>⟨[(3,.mp 0),(4,.i (z2 (ls.take x.1).flatten)),(12,.sl 1 (ls.map Jb)),(13,.i ls.length),(14,.i x.1)],1,[(0,some (.map x.2))]⟩) (fun x=>x.1≤ls.length∧Fu x.2 (Z0 (ls.take x.1).flatten)) (fun x=>ls.length-x.1) (0,[]) ⟨Nat.zero_le _,aw⟩
  (A6 h0) (fun x hI=>?_)
 obtain⟨j,m⟩:=x
 obtain⟨hj,hm⟩:=hI
 dsimp only at hj hm ⊢
 by_cases mM:j<ls.length
 ·obtain⟨l,hl⟩:∃l,ls[j]?=some l:=⟨_,List.getElem?_eq_getElem mM⟩
  obtain⟨rN,xd⟩:=hp l (List.mem_of_getElem? hl)
  have hfn:=bB hl
  have htf:=fun (k:Nat) (p:Pk) (h:l[k]?=some p)=>az (k:=k) hl h
  have rr:z2 (ls.take j).flatten<1000:=Lt (by omega) fun p h=>by
   refine(nV p ?_).2
   obtain⟨l',h1,h2⟩:=List.mem_flatten.1 h
   exact List.mem_flatten.2 ⟨l',List.mem_of_mem_take h1,h2⟩
  generalize (ls.take j).flatten=D at *
  repeat'((first|(refine A2 (x:=l) hl (by omega) ?_) |refine S2 ?_|(refine T6 ?_ ?_<;>intro h<;>try exact V1 h)|intro el mI mJ|intro el mI|exact T4|refine T5 ?_ ?_|intro ex)<;>try conv=>whnf)
  all_goals first
   |(exfalso;omega)
   |skip
  refine A9 (ι:=Nat×List (Key×AV)) (fun x=>⟨[(3,.mp 0),(4,.i (z2 (D++l.take x.1))),(12,.sl 1 (ls.map Jb)),(13,.i ls.length),(14,.i j),(18,.sl 2 (l.map A8)),(19,.i l.length),(20,.i x.1)],1,[(0,some (.map x.2))]⟩) (fun x=>x.1≤l.length∧Fu x.2 (Z0 (D++l.take x.1))) (fun x=>l.length-x.1) (0,m) ⟨Nat.zero_le _,by dsimp only;rw[List.take_zero,List.append_nil];exact hm⟩
   (A7 h0 rfl ⟨rfl,(by rw[List.take_zero,List.append_nil];rfl),rfl,rfl,rfl,rfl,rfl,rfl,trivial⟩ ⟨rfl,trivial⟩ rfl rfl rfl) (fun x hI=>?_)
  obtain⟨k,m2⟩:=x
  obtain⟨hk,qt⟩:=hI
  dsimp only at hk qt ⊢
  by_cases mT:k<l.length
  ·obtain⟨p,oY⟩:∃p,l[k]?=some p:=⟨_,List.getElem?_eq_getElem mT⟩
   have vB:=xd p (List.mem_of_getElem? oY)
   have nC:=qt.step vB.1
   have pK:=qt.geti vB.1
   have uE:=qt.keys
   have mq:=htf k p oY
   have mt:z2 (D++l.take (k+1))=max (z2 (D++l.take k)) p.col:=by rw[mq,YQ]
   have oc:Z0 (D++l.take (k+1))=upd (Z0 (D++l.take k)) p.col p.lev:=by rw[mq,Tq]
   rw[←oc]at nC
   generalize Z0 (D++l.take k) p.col.toNat=v at *
   generalize z2 (D++l.take k)=q at *
   repeat'((first|(refine A2 (x:=p) oY (by omega) ?_)|(refine I6 ?_ ?_;exact uE)|refine RB pK ?_|(refine E6 8 ?_;refine R2 (id:=8) (σ':=⟨[(3,.mp 0),(4,.i q),(8,.iptr (A8 p)),(12,.sl 1 (ls.map Jb)),(13,.i ls.length),(14,.i j),(18,.sl 2 (l.map A8)),(19,.i l.length),(20,.i k)],1,[(0,some (.map m2))]⟩) (A6 h0) ?_;refine F3 (id:=8) ⟨[(3,.mp 0),(4,.i (max q p.col)),(12,.sl 1 (ls.map Jb)),(13,.i ls.length),(14,.i j),(18,.sl 2 (l.map A8)),(19,.i l.length),(20,.i k)],1,[(0,some (.map (d0 m2 (.i .i64 p.col) (.i (max v p.lev)))))]⟩ ?_ ?_) |refine S2 ?_|(refine T6 ?_ ?_<;>intro h<;>try exact V1 h)|intro el mI mJ|intro el mI|exact T4|refine T5 ?_ ?_|intro ex)<;>try conv=>whnf)
   all_goals first
    |exact A6 h0
    |exact⟨(k+1,d0 m2 (.i .i64 p.col) (.i (max v p.lev))),⟨by dsimp only;omega,nC⟩,by dsimp only;omega,A7 h0 rfl ⟨rfl,(congrArg (fun z:Int=>some (AV.i z)) mt.symm),rfl,rfl,rfl,rfl,rfl,rfl,trivial⟩ ⟨rfl,trivial⟩ rfl rfl rfl⟩
    |(exfalso;omega)
  ·obtain rfl:k=l.length:=by omega
   rw[List.take_length,←hfn]at *
   repeat'((first|refine S2 ?_|(refine T6 ?_ ?_<;>intro h<;>try exact V1 h)|intro el mI mJ|intro el mI|exact T4|refine T5 ?_ ?_|intro ex)<;>try conv=>whnf)
   all_goals first
    |(exfalso;omega)
    |exact⟨(j+1,m2),⟨by dsimp only;omega,qt⟩,by dsimp only;omega,A6 h0⟩
 ·obtain rfl:j=ls.length:=by omega
  rw[List.take_length]at hm ⊢
  generalize z2 ls.flatten=q at *
  generalize Z0 ls.flatten=lv at *
  repeat'((first|refine S2 ?_|(refine T6 ?_ ?_<;>intro h<;>try exact V1 h)|intro el mI mJ|intro el mI|exact T4|refine T5 ?_ ?_|intro ex)<;>try conv=>whnf)
  all_goals first
   |(exfalso;omega)
   |skip
  obtain⟨q1,qu⟩:∃q1:Nat,q+1=(q1:Int):=⟨(q+1).toNat,by omega⟩
  rw[qu,Int.toNat_natCast]
  refine A9 (ι:=Nat) (fun c=>⟨[(3,.mp 0),(9,.row 1 0 (K5 lv 0 c).length),(41,.i q1),(42,.i c)],2,[(0,some (.map m)),(1,some (.row 81 2 0 ((K5 lv 0 c).map A8)))]⟩) (fun c=>c≤q1) (fun c=>q1-c) 0 (Nat.zero_le _)
   (B9 (H7 (d:=9) (e:=81) (sz:=2) rfl) (A7 h0 rfl ⟨rfl,rfl,(congrArg (fun z:Int=>some (AV.i z)) (by omega)),rfl,trivial⟩ ⟨rfl,⟨0,rfl⟩,trivial⟩ rfl rfl rfl)) (fun c hc=>?_)
  have ob:=r8 lv c 0
  have nk:=JH lv c 0
  rw[Nat.zero_add]at nk
  have pK:=hm.get c
  have uE:=hm.keys
  generalize lv c=v at *
  have nt:c=q1→K5 lv 0 q1=K5 lv 0 c:=fun h=>by rw[h]
  generalize K5 lv 0 c=A at *
  repeat'((first|(refine I6 ?_ ?_;exact uE)|refine RB pK ?_ |refine S2 ?_|(refine T6 ?_ ?_<;>intro h<;>try exact V1 h)|intro el mI mJ|intro el mI|exact T4|refine T5 ?_ ?_|intro ex)<;>try conv=>whnf)
  all_goals first
   |(rw[if_pos (by assumption)]at nk;refine⟨c+1,by omega,by omega,?_⟩;rw[nk];exact A7 h0 rfl ⟨rfl,congrArg (fun z:Nat=>some (AV.row 1 0 z)) (by rw[List.length_append];rfl),rfl,rfl,trivial⟩ ⟨rfl,⟨_,congrArg (C4.row 81 2 _) (by rw[List.map_append];rfl)⟩,trivial⟩ rfl rfl rfl)
   |exact A1 rfl (congrArg (fun z:List Pk=>AV.sl 2 (z.map A8)) (nt (by omega)).symm)
   |(rw[if_neg (by assumption),List.append_nil]at nk;refine⟨c+1,by omega,by omega,?_⟩;rw[nk];exact A6 h0)
theorem bC{s:A4}{e:F6}(hr:C3 s=0)(hg:BO s e):∀p∈GQ s e,0≤p.col∧p.col<s.cols.length:=by
 intro p hp
 obtain⟨_,_,_,h4,h5,_,_,_⟩:=hg.unu
 have nz:=hg.par
 unfold DR at nz
 unfold GQ at hp
 rcases List.mem_append.1 hp with hp|hp
 rcases List.mem_append.1 hp with hp|hp
 ·obtain⟨d,hd,rfl⟩:=List.mem_map.1 hp
  have rU:e.op=10:=by
   rcases h5 with h|h
   ·exact h
   ·rw[List.eq_nil_of_length_eq_zero h]at hd;cases hd
  rw[if_neg (by omega),if_neg (by omega),if_neg (by omega),if_pos rU]at nz
  simp only[Bool.and_eq_true]at nz
  have nw:=of_decide_eq_true nz.1
  unfold Q2 at nw
  split at nw
  ·cases nw
  ·obtain⟨i,hi,he⟩:=List.getElem_of_mem hd
   have:=O9 nw i d (by rw[List.getElem?_eq_getElem hi,he])
   unfold W0 at this
   split at this
   ·exact absurd this (by assumption)
   ·rename_i pN
    have pN:N3 s d=0:=Decidable.of_not_not pN
    unfold N3 BZ E5 at pN
    rw[if_pos hr]at pN
    by_cases hc:d.col<1∨(s.cols.length:Int)≤d.col
    ·rw[if_pos hc,if_pos (show (-1:Int)<0 by omega)]at pN;cases pN
    ·dsimp only[W3];omega
 ·unfold O8 at hp
  split at hp
  ·split at hp
   ·rename_i h1 h2
    simp only[List.mem_singleton]at hp
    subst hp
    rcases hg.col (by simp only[j6];omega)with h|h
    ·omega
    ·have:=v4 h;exact⟨this.1,this.2.1⟩
   ·cases hp
  ·split at hp
   ·rename_i h1 h2
    simp only[List.mem_singleton]at hp
    subst hp
    rcases hg.col (by simp only[j6];omega)with h|h
    ·omega
    ·have:=v4 h;exact⟨this.1,this.2.1⟩
   ·cases hp
 ·obtain⟨c,hc,rfl⟩:=List.mem_map.1 hp
  have uM:e.op=11:=by
   rcases h4 with h|h
   ·exact h
   ·rw[List.eq_nil_of_length_eq_zero h]at hc;cases hc
  rw[if_neg (by omega),if_neg (by omega),if_neg (by omega),if_neg (by omega),if_pos uM]at nz
  simp only[Bool.and_eq_true]at nz
  have nw:=of_decide_eq_true nz.2
  unfold W8 at nw
  split at nw
  ·cases nw
  ·obtain⟨i,hi,he⟩:=List.getElem_of_mem hc
   have:=O9 nw i c (by rw[List.getElem?_eq_getElem hi,he])
   unfold X6 at this
   split at this
   ·cases this
   ·rename_i hb
    have:=v4 (show Q5 s c 3=true by simpa using hb)
    exact⟨this.1,this.2.1⟩
theorem bD{lv:Nat→Int}{n:Nat}:∀p∈K5 lv 0 n,0≤p.col∧p.col<n:=fun p hp=>by
 have:=Aq hp
 omega
theorem Gu{s:A4}{c:B6}:∀p∈I1 s c,0≤p.col∧p.col<s.cols.length:=fun p hp=>by
 unfold I1 at hp
 split at hp
 ·exact bD p hp
 ·cases hp
theorem Tw{s:A4}{e:F6}:∀p∈Y3 s e,0≤p.col∧p.col<s.cols.length:=fun p hp=>by
 rw[Gt]at hp
 exact bD p hp
theorem iD{s:A4}{e:F6}(hr:C3 s=0)(hg:BO s e):∀p∈Ow s e,0≤p.col∧p.col<s.cols.length:=by
 intro p hp
 unfold Ow at hp
 rcases List.mem_append.1 hp with hp|hp
 rcases List.mem_append.1 hp with hp|hp
 rcases List.mem_append.1 hp with hp|hp
 ·exact bC hr hg p hp
 ·exact Gu p hp
 ·exact Gu p hp
 ·obtain⟨k,_,h⟩:=List.mem_flatMap.1 hp
  exact Tw p h
theorem WW{s:A4}{e:F6}:(Y3 s e).length≤s.cols.length:=by rw[Gt];exact r8 _ _ _
abbrev v5(s:A4)(e:F6)(k:Nat):List (List Pk):=[GQ s e,I1 s e.cnd,I1 s e.evt]++(e.kids.take k).map (Y3 s)
theorem VL(s:A4)(hr:C3 s=0)(e:F6):Aw s e=true→A3 Tryz.prog 107 [sA s,u9 e] (.sl 2 ((Y3 s e).map A8)):=by
 refine Gr (p:=fun e=>Aw s e=true→A3 Tryz.prog 107 [sA s,u9 e] (.sl 2 ((Y3 s e).map A8))) (fun e ih hg=>?_) e
 have hg:=QV hg
 obtain⟨_,_,mW⟩:=hg.lens
 have hn:=(D3 hr).2.1
 have mf:s.cols.length≤100000:=by omega
 have h1:=au s hr e hg
 have h2:=GJ s e.cnd
 have h3:=GJ s e.evt
 have nf:=iD hr hg
 have ri:0<s.cols.length:=by
  obtain⟨_,_,_,_,h5⟩:=D3 hr
  cases hc:s.cols with
  |nil=>rw[hc]at h5;cases h5
  |cons a r=>exact Nat.succ_pos _
 have pL:(GQ s e).length≤7:=by
  obtain⟨q1,q2,_⟩:=hg.lens
  unfold GQ
  rw[List.length_append,List.length_append,List.length_map,List.length_map]
  have:(O8 s e).length≤1:=by
   unfold O8
   split
   ·split<;>simp
   ·split<;>simp
  omega
 have hmg:=YV (v5 s e e.kids.length) (fun l hl=>by
  unfold v5 at hl
  rw[List.take_length]at hl
  simp only[List.cons_append,List.nil_append,List.mem_cons]at hl
  rcases hl with rfl|rfl|rfl|hl
  ·exact⟨by omega,fun p hp=>by have:=bC hr hg p hp;omega⟩
  ·exact⟨by have:=Bc s e.cnd;omega,fun p hp=>by have:=Gu p hp;omega⟩
  ·exact⟨by have:=Bc s e.evt;omega,fun p hp=>by have:=Gu p hp;omega⟩
  ·obtain⟨k,_,rfl⟩:=List.mem_map.1 hl
   exact⟨by have:=WW (s:=s) (e:=k);omega,fun p hp=>by have:=Tw p hp;omega⟩)
 have nV:(v5 s e e.kids.length).flatten=Ow s e:=by
  unfold v5 Ow
  rw[List.take_length]
  simp[List.flatMap_def,List.append_assoc]
 rw[nV,kN ri nf,←Gt]at hmg
 generalize Y3 s e=R at *
 rw[CN]at h1 ⊢
 refine B5 Tryz.func107 36 fun mK E h0=>?_
 clear mK
 repeat'((first|(refine E6 1 ?_;refine R2 (id:=1) (σ':=⟨[(2,.iptr (sL s)),(3,.iptr (Au e))],2,[]⟩) (A6 h0) ?_;refine F3 (id:=1) ⟨[(2,.iptr (sL s)),(3,.iptr (Au e)),(5,.row 2 0 3)],3,[(2,some (.row 23 1 0 ((v5 s e 0).map Jb)))]⟩ ?_ ?_)|(refine BI ?_ ?_ ?_;kernel_rfl;kernel_rfl)|refine R1 (T:=193) rfl ?_|refine A0 h1 ?_|refine A0 h2 ?_|refine A0 h3 ?_ |refine S2 ?_|(refine T6 ?_ ?_<;>intro h<;>try exact V1 h)|intro el mI mJ|intro el mI|exact T4|refine T5 ?_ ?_|intro ex)<;>try conv=>whnf)
 all_goals first
  |exact A6 h0
  |skip
 refine A9 (ι:=Nat) (fun k=>⟨[(2,.iptr (sL s)),(5,.row 2 0 (v5 s e k).length),(21,.sl 19 (e.kids.map Bv)),(22,.i e.kids.length),(23,.i k)],3,[(2,some (.row 23 1 0 ((v5 s e k).map Jb)))]⟩) (fun k=>k≤e.kids.length) (fun k=>e.kids.length-k) 0 (Nat.zero_le _)
  (by exact A6 h0) (fun k hk=>?_)
 by_cases mM:k<e.kids.length
 ·obtain⟨x,hx⟩:∃x,e.kids[k]?=some x:=⟨_,List.getElem?_eq_getElem mM⟩
  have hq:=ih x (List.mem_of_getElem? hx) (hg.kid x (List.mem_of_getElem? hx)).2
  have mq:v5 s e (k+1)=v5 s e k++[Y3 s x]:=by
   unfold v5
   rw[E7 hx,List.map_append,List.append_assoc];rfl
  have mT:(v5 s e k).length≤5:=by
   unfold v5
   rw[List.length_append,List.length_map,List.length_take]
   simp only[List.length_cons,List.length_nil];omega
  generalize v5 s e k=A at *
  generalize Y3 s x=B at *
  repeat'((first|(refine A2 (x:=x) hx (by omega) ?_)|refine A0 hq ?_ |refine S2 ?_|(refine T6 ?_ ?_<;>intro h<;>try exact V1 h)|intro el mI mJ|intro el mI|exact T4|refine T5 ?_ ?_|intro ex)<;>try conv=>whnf)
  all_goals first
   |(exfalso;omega)
   |(refine⟨k+1,by omega,by omega,?_⟩;rw[mq];exact A7 h0 rfl ⟨rfl,congrArg (fun z:Nat=>some (AV.row 2 0 z)) (by rw[List.length_append];rfl),rfl,rfl,rfl,trivial⟩ ⟨⟨_,congrArg (C4.row 23 1 _) (by rw[List.map_append];rfl)⟩,trivial⟩ rfl rfl rfl)
 ·obtain rfl:k=e.kids.length:=by omega
  repeat'((first|refine I4 2 ?_|refine A0 hmg ?_ |refine S2 ?_|(refine T6 ?_ ?_<;>intro h<;>try exact V1 h)|intro el mI mJ|intro el mI|exact T4|refine T5 ?_ ?_|intro ex)<;>try conv=>whnf)
  all_goals first
   |(exfalso;omega)
   |exact A1 rfl rfl
end Go.Proofs.YtiphlhoclaogjaaGreatDoor
