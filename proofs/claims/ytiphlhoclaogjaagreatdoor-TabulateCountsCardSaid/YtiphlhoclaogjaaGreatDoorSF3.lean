/- Chapter 17: what expressions need, and their kinds, in plain terms. Chapter 17: what an expression needs, without its kids. Chapter 17: picks are merged; what a right expression needs. -/
import Derived.Test.YtiphlhoclaogjaaGreatDoorSF1
import Derived.Test.YtiphlhoclaogjaaGreatDoorSC3
import Derived.Test.YtiphlhoclaogjaaGreatDoorSC1
import Derived.Test.YtiphlhoclaogjaaGreatDoorSRg0
import Derived.Test.YtiphlhoclaogjaaGreatDoorSTa5
import Derived.Test.YtiphlhoclaogjaaGreatDoorSB8
import Derived.Test.YtiphlhoclaogjaaGreatDoorSCm2
import Derived.Test.YtiphlhoclaogjaaGreatDoorSB14
set_option linter.unusedVariables false
set_option linter.unnecessarySimpa false
set_option linter.unusedSimpArgs false
set_option maxHeartbeats 64000000
namespace Go.Proofs.YtiphlhoclaogjaaGreatDoor
open Go Go.Av
attribute [local irreducible] C7 B2 D3 C9 DQ D0 C8 St.le A3 B9
set_option maxRecDepth 100000
def j7(l:List Pk)(i:Nat):Int:=l.foldl (fun (m:Int) (p:Pk)=>if p.col=(i:Int)then max m p.lev else m) 0
theorem db(l:List Pk)(p:Pk):j7 (l++[p])=upd (j7 l) p.col p.lev:=by
 funext i
 unfold j7 upd
 rw[List.foldl_append]
 rfl
theorem Ts(i:Nat):∀(l:List Pk) (m:Int),0≤m→l.foldl (fun (m:Int) (p:Pk)=>if p.col=(i:Int)then max m p.lev else m) m=max m (j7 l i):=by
 intro l
 induction l with
 |nil=>intro m h;unfold j7;simp only[List.foldl_nil];omega
 |cons p r ih =>
  intro m h
  unfold j7
  rw[List.foldl_cons,List.foldl_cons]
  split
  ·rw[ih _ (by omega),ih _ (by omega)];omega
  ·rw[ih _ h,ih 0 (Int.le_refl _)];omega
theorem jm(l:List Pk)(i:Nat):0≤j7 l i:=by
 have:=Ts i l 0 (Int.le_refl _)
 have h:j7 l i=l.foldl (fun (m:Int) (p:Pk)=>if p.col=(i:Int)then max m p.lev else m) 0:=rfl
 omega
theorem gh(a b:List Pk)(i:Nat):j7 (a++b) i=max (j7 a i) (j7 b i):=by
 have h:j7 (a++b) i=b.foldl (fun (m:Int) (p:Pk)=>if p.col=(i:Int)then max m p.lev else m) (j7 a i):=by
  unfold j7;rw[List.foldl_append]
 rw[h,Ts i b _ (jm a i)]
theorem gj(p:Pk)(i:Nat):j7 [p] i=if p.col=(i:Int)then max 0 p.lev else 0:=rfl
def AQ(l:List Pk):Int:=l.foldl (fun (m:Int) (p:Pk)=>max m p.col) 0
theorem YU(l:List Pk)(p:Pk):AQ (l++[p])=max (AQ l) p.col:=by unfold AQ;rw[List.foldl_append];rfl
theorem YV:∀(l:List Pk) (m:Int),m≤l.foldl (fun (m:Int) (p:Pk)=>max m p.col) m∧∀p∈l,p.col≤l.foldl (fun (m:Int) (p:Pk)=>max m p.col) m:=by
 intro l
 induction l with
 |nil=>intro m;exact⟨Int.le_refl _,fun p h=>by cases h⟩
 |cons p r ih =>
  intro m
  rw[List.foldl_cons]
  obtain⟨h1,h2⟩:=ih (max m p.col)
  refine⟨by omega,fun q hq=>?_⟩
  rcases List.mem_cons.1 hq with rfl|hq
  ·omega
  ·exact h2 q hq
theorem Tt{l:List Pk}:0≤AQ l∧∀p∈l,p.col≤AQ l:=YV l 0
theorem ME{n:Int}(hn:0<n):∀{l:List Pk},(∀p∈l,p.col<n)→AQ l<n:=by
 have key:∀(l:List Pk) (m:Int),m<n→(∀p∈l,p.col<n)→l.foldl (fun (m:Int) (p:Pk)=>max m p.col) m<n:=by
  intro l
  induction l with
  |nil=>intro m h _;exact h
  |cons p r ih =>
   intro m h hl
   rw[List.foldl_cons]
   exact ih _ (by have:=hl p (by simp);omega) fun q hq=>hl q (by simp[hq])
 exact fun {l} h=>key l 0 hn h
theorem dc{l:List Pk}{i:Nat}(h:∀p∈l,p.col≠(i:Int)):j7 l i=0:=by
 induction l with
 |nil=>rfl
 |cons p r ih =>
  have e:j7 (p::r) i=max (j7 [p] i) (j7 r i):=gh [p] r i
  rw[e,gj,if_neg (h p (by simp)),ih fun q hq=>h q (by simp[hq])];rfl
theorem Tu(lv:Nat→Int):∀(n m lo:Nat),n≤m→(∀i,lo+n≤i→lv i=0)→L1 lv lo m=L1 lv lo n
 |0,m,lo,_,h=>by
  induction m generalizing lo with
  |zero=>rfl
  |succ m ih =>
   rw[a8,if_neg (by rw[h lo (by omega)];omega),ih (lo+1) (by omega) fun i hi=>h i (by omega)]
   rfl
 |n+1,0,lo,hn,_=>by omega
 |n+1,m+1,lo,hn,h=>by
  rw[a8,a8,Tu lv n m (lo+1) (by omega) fun i hi=>h i (by omega)]
def YW(l:List Pk):List Pk:=L1 (j7 l) 0 (AQ l+1).toNat
theorem jn{l:List Pk}{n:Nat}(hn:0<n)(h:∀p∈l,0≤p.col∧p.col<n):YW l=L1 (j7 l) 0 n:=by
 have h1:=ME (n:=n) (l:=l) (by omega) fun p hp=>(h p hp).2
 have h2:=Tt (l:=l)
 unfold YW
 rw[Tu (j7 l) (AQ l+1).toNat n 0 (by omega) fun i hi=>dc fun p hp=>by have:=h2.2 p hp;omega]
abbrev Di(s:A4)(c:Int):Pk:=⟨c,K5 s c (B7 s c)⟩
abbrev Dj(s:A4)(d:Pk):Pk:=⟨d.col,K5 s d.col d.lev⟩
def MF(ws:List Int)(nU:Int):Int:=if 0≤F4 (fun x=>decide (x=nU)) ws 0 then ws.length-F4 (fun x=>decide (x=nU)) ws 0 else 0
def Bl(s:A4)(e:G8):List Pk :=
 if e.op=4∨e.op=5∨e.op=10∨e.op=11∨e.op=12∨e.op=14 then (if 0<e.col then [Di s e.col]else [])
 else if e.op=13 then [⟨e.col,K5 s e.col (MF (C0 s e.col).widths e.num)⟩]else []
def Hz(s:A4)(e:G8):List Pk:=e.dims.map (Dj s)++Bl s e++e.cols.map (Di s)
mutual
def Bm(s:A4):G8→List Pk
 |.mk o n nm c cs ds cd ev ks=>L1 (j7 (Hz s (.mk o n nm c cs ds cd ev ks)++K6 s cd++K6 s ev++YY s ks)) 0 s.cols.length
def YY(s:A4):List G8→List Pk
 |[]=>[]
 |x::r=>Bm s x++YY s r
end
theorem WW(s:A4):∀l,YY s l=l.flatMap (Bm s)
 |[]=>rfl
 |x::r=>by rw[YY,WW s r];rfl
abbrev Tv(s:A4)(e:G8):List Pk:=Hz s e++K6 s e.cnd++K6 s e.evt++e.kids.flatMap (Bm s)
theorem PE(s:A4)(e:G8):Bm s e=L1 (j7 (Tv s e)) 0 s.cols.length:=by
 cases e
 rw[Bm,WW];rfl
def Dk(s:A4)(e:G8):List Pk:=if Ji s e=true then Bm s e else []
structure WX where
 name:List UInt8
 kind:Int
def eu(nm:List UInt8):List WX→Int×Int→Int×Int
 |[],z=>z
 |b::r,z=>eu nm r (if b.name=nm then (b.kind,0)else z)
def jo(before:List WX)(nm:List UInt8):Int×Int:=eu nm before (0,24)
def lK(before:List WX)(e:G8)(numbers:Bool):Int×Int :=
 if e.op=2 then jo before e.name else if numbers=false then (0,16)else if PD e.op then (1,0)else (e.op-8,0)
mutual
def Tw(before:List WX):G8→Int×Int
 |.mk o n nm c cs ds cd ev ks=>if (YZ before ks true).1=0 then lK before (.mk o n nm c cs ds cd ev ks) (YZ before ks true).2 else (0,(YZ before ks true).1)
def YZ(before:List WX):List G8→Bool→Int×Bool
 |[],b=>(0,b)
 |x::r,b=>if (Tw before x).2=0 then YZ before r (b && decide ((Tw before x).1=1))else ((Tw before x).2,b)
end
theorem aq(s:A4)(qa:List Pk)(c:Int)(hl:qa.length≤100000):B9 Tryz.prog 212 2 [(0,some (.box [.row 1 0 qa.length])),(1,some (.row 81 2 0 (qa.map B4)))] [.i c,.ref 0 0,.iptr (sL s)] 2 [(0,some (.box [.row 1 0 (qa.length+1)])),(1,some (.row 81 2 0 ((qa++[Di s c]).map B4)))] (.tup []):=by
 have h1:=Cy s c
 have h2:=NX s c (B7 s c)
 refine V9 Tryz.func212 15 fun E h0=>?_
 repeat'((first|refine A1 h1 ?_|refine A1 h2 ?_|(refine F6 0 ?_;refine G9 (id:=0) ⟨[],2,[(0,some (.box [.row 1 0 (qa.length+1)])),(1,some (.row 81 2 0 ((qa++[Di s c]).map B4)))]⟩ ?_ ?_) |refine S2 ?_|(refine T6 ?_ ?_<;>intro h<;>try exact V1 h)|intro el lU lV|intro el lU|exact T4|refine T5 ?_ ?_|intro ex)<;>try conv=>whnf)
 all_goals first
  |exact A9 h0 rfl trivial ⟨rfl,⟨_,congrArg (C6.row 81 2 _) (by rw[List.map_append];rfl)⟩,trivial⟩ rfl rfl rfl
  |(delta C8;exact .inl ⟨[],[],rfl,trivial,rfl,rfl,A6 h0,rfl⟩)
theorem Tx(s:A4)(col nU:Int){c:D4}(xk:0≤col)(hc:s.cols[col.toNat]?=some c):A3 Tryz.prog 214 [sA s,.i col,.i nU] (.i (MF (C0 s col).widths nU)):=by
 rw[C1 hc]
 unfold MF
 refine B6 Tryz.func214 31 fun lW E h0=>?_
 have lX:c.widths.length≤9223372036854775807:=by
  have:=((((lW (sA s) (by simp)).agg (.sl 7 (s.cols.map X0)) (by simp))).elem (X0 c) (List.mem_map.2 ⟨c,List.mem_of_getElem? hc,rfl⟩) (.sl 1 (c.widths.map wA)) (by simp)).sl
  simpa using this
 clear lW
 repeat'((first|(refine A2 (x:=c) hc (by omega) ?_) |refine S2 ?_|(refine T6 ?_ ?_<;>intro h<;>try exact V1 h)|intro el lU lV|intro el lU|exact T4|refine T5 ?_ ?_|intro ex)<;>try conv=>whnf)
 refine B0 (ι:=Nat) (fun k=>⟨[(2,.i nU),(7,.sl 1 (c.widths.map wA)),(16,.sl 1 (c.widths.map wA)),(17,.i c.widths.length),(18,.i k)],1,[]⟩) (fun k=>k≤c.widths.length∧F4 (fun x=>decide (x=nU)) c.widths 0=F4 (fun x=>decide (x=nU)) (c.widths.drop k) k) (fun k=>c.widths.length-k) 0 ⟨Nat.zero_le _,rfl⟩
  (A6 h0) (fun k hI=>?_)
 obtain⟨hk,hI⟩:=hI
 repeat'((first|refine S2 ?_|(refine T6 ?_ ?_<;>intro h<;>try exact V1 h)|intro el lU lV|intro el lU|exact T4|refine T5 ?_ ?_|intro ex)<;>try conv=>whnf)
 all_goals first
  |exact⟨k+1,⟨by omega,by rw[hI,G3 lU,F4,if_neg (by rw[decide_eq_true_iff];omega)];rfl⟩,by omega,A6 h0⟩
  |(have e1:F4 (fun x=>decide (x=nU)) c.widths 0=k:=by rw[hI,G3 lU,F4,if_pos (by rw[decide_eq_true_iff];omega)]
    exact A0 rfl (congrArg AV.i (by rw[e1,if_pos (by omega)])))
  |(have e1:F4 (fun x=>decide (x=nU)) c.widths 0=-1:=by rw[hI,show k=c.widths.length by omega,List.drop_length];rfl
    exact A0 rfl (congrArg AV.i (by rw[e1,if_neg (by omega)])))
theorem ar(s:A4)(hr:C3 s=0)(e:G8)(hg:Jl s e):A3 Tryz.prog 163 [sA s,DJ e] (.sl 2 ((Hz s e).map B4)):=by
 obtain⟨tB,tR,_⟩:=hg.lens
 have rA:=hg.col
 have oU:=hg.op
 have yz:=fun c l=>NX s c l
 have oO:∀h:e.op=13,A3 Tryz.prog 214 [sA s,.i e.col,.i e.num] (.i (MF (C0 s e.col).widths e.num)):=fun h=>by
  rcases rA (by simp only[Dx];omega)with h'|h'
  ·omega
  ·obtain⟨xk,_,c,hc,_⟩:=KY h'
   exact Tx s e.col e.num xk hc
 have how:=aq s
 rw[Gy]
 refine B6 Tryz.func163 78 fun lW E h0=>?_
 clear lW
 repeat'((first|(refine J1 0 ?_;refine DX ?_;(conv=>whnf);refine Lf rfl rfl ?_) |refine S2 ?_|(refine T6 ?_ ?_<;>intro h<;>try exact V1 h)|intro el lU lV|intro el lU|exact T4|refine T5 ?_ ?_|intro ex)<;>try conv=>whnf)
 refine B0 (ι:=Nat) (fun k=>⟨[(2,.iptr (sL s)),(3,.ref 1 0),(5,.ref 2 0),(6,.fo 212 [.ref 2 0,.iptr (sL s)]),(13,.sl 2 (e.dims.map B4)),(14,.i e.dims.length),(15,.i k)],4,[(1,some (.box (Hv e))),(2,some (.box [.row 3 0 ((e.dims.take k).map (Dj s)).length])),(3,some (.row 81 2 0 (((e.dims.take k).map (Dj s)).map B4)))]⟩) (fun k=>k≤e.dims.length) (fun k=>e.dims.length-k) 0 (Nat.zero_le _)
  (B5 (BM 2 0 (e:=81) (sz:=2) rfl rfl) (A9 h0 rfl ⟨rfl,rfl,rfl,rfl,rfl,rfl,rfl,trivial⟩ ⟨rfl,rfl,⟨0,rfl⟩,trivial⟩ rfl rfl rfl)) (fun k hk=>?_)
 have lk:((e.dims.take k).map (Dj s)).length≤3:=by rw[List.length_map,List.length_take];omega
 by_cases lY:k<e.dims.length
 ·obtain⟨d,hd⟩:∃d,e.dims[k]?=some d:=⟨_,List.getElem?_eq_getElem lY⟩
  have mE:(e.dims.take (k+1)).map (Dj s)=(e.dims.take k).map (Dj s)++[Dj s d]:=by rw[H6 hd,List.map_append];rfl
  have nL:=yz d.col d.lev
  generalize (e.dims.take k).map (Dj s)=A at lk mE ⊢
  repeat'((first|(refine A2 (x:=d) hd (by omega) ?_)|refine A1 nL ?_|(refine F6 6 ?_;refine O0 (id:=6) (σ':=⟨[(2,.iptr (sL s)),(3,.ref 1 0),(5,.ref 2 0),(6,.fo 212 [.ref 2 0,.iptr (sL s)]),(8,.iptr (B4 d)),(13,.sl 2 (e.dims.map B4)),(14,.i e.dims.length),(15,.i k)],4,[(1,some (.box (Hv e))),(2,some (.box [.row 3 0 A.length])),(3,some (.row 81 2 0 (A.map B4)))]⟩) (A6 h0) ?_;refine G9 (id:=6) ⟨[(2,.iptr (sL s)),(3,.ref 1 0),(5,.ref 2 0),(6,.fo 212 [.ref 2 0,.iptr (sL s)]),(13,.sl 2 (e.dims.map B4)),(14,.i e.dims.length),(15,.i k)],4,[(1,some (.box (Hv e))),(2,some (.box [.row 3 0 (A.length+1)])),(3,some (.row 81 2 0 ((A++[Dj s d]).map B4)))]⟩ ?_ ?_) |refine S2 ?_|(refine T6 ?_ ?_<;>intro h<;>try exact V1 h)|intro el lU lV|intro el lU|exact T4|refine T5 ?_ ?_|intro ex)<;>try conv=>whnf)
  all_goals first
   |exact A9 h0 rfl ⟨rfl,rfl,rfl,rfl,rfl,rfl,rfl,trivial⟩ ⟨rfl,rfl,⟨_,congrArg (C6.row 81 2 _) (by rw[List.map_append];rfl)⟩,trivial⟩ rfl rfl rfl
   |(refine⟨k+1,by omega,by omega,?_⟩;rw[mE];exact A9 h0 rfl ⟨rfl,rfl,rfl,rfl,rfl,rfl,rfl,trivial⟩ ⟨rfl,congrArg (fun z=>C6.box [.row 3 0 z]) (by rw[List.length_append];rfl),⟨_,rfl⟩,trivial⟩ rfl rfl rfl)
 ·obtain rfl:k=e.dims.length:=by omega
  rw[List.take_length]
  have pW:(Bl s e).length≤1:=by
   unfold Bl
   split
   ·split<;>simp
   ·split<;>simp
  have tH:∀A,A=e.dims.map (Dj s)→Hz s e=A++Bl s e++e.cols.map (Di s):=fun A h=>by rw[h];rfl
  have yi:(e.op=4∨e.op=5∨e.op=10∨e.op=11∨e.op=12∨e.op=14)→0<e.col→Bl s e=[Di s e.col]:=fun h1 h2=>by unfold Bl;rw[if_pos h1,if_pos h2]
  have yU:(e.op=4∨e.op=5∨e.op=10∨e.op=11∨e.op=12∨e.op=14)→¬0<e.col→Bl s e=[]:=fun h1 h2=>by unfold Bl;rw[if_pos h1,if_neg h2]
  have yc:e.op=13→Bl s e=[⟨e.col,K5 s e.col (MF (C0 s e.col).widths e.num)⟩]:=fun h1=>by unfold Bl;rw[if_neg (by omega),if_pos h1]
  have yg:¬(e.op=4∨e.op=5∨e.op=10∨e.op=11∨e.op=12∨e.op=14)→¬e.op=13→Bl s e=[]:=fun h1 h2=>by unfold Bl;rw[if_neg h1,if_neg h2]
  have lk:(e.dims.map (Dj s)).length≤3:=by rw[List.length_map];exact tB
  generalize hA:e.dims.map (Dj s)=A at lk ⊢
  rw[tH A hA.symm]
  clear lk tH
  have yO:A.length≤3:=by rw[←hA,List.length_map];exact tB
  generalize Bl s e=M at *
  have c1:=how A e.col (by omega)
  have c2:=yz e.col (MF (C0 s e.col).widths e.num)
  repeat'((first|refine⟨Vq [2,3] [0,0] c1 rfl rfl rfl rfl rfl rfl ⟨rfl,rfl,trivial⟩ rfl rfl rfl rfl rfl ?_⟩|(refine A1 (oO (by assumption)) ?_)|refine A1 c2 ?_|(refine F6 18 ?_;refine O0 (id:=18) (σ':=⟨[(2,.iptr (sL s)),(3,.iptr (Hv e)),(5,.ref 2 0),(6,.fo 212 [.ref 2 0,.iptr (sL s)])],4,[(2,some (.box [.row 3 0 A.length])),(3,some (.row 81 2 0 (A.map B4)))]⟩) (A6 h0) ?_;refine G9 (id:=18) ⟨[(2,.iptr (sL s)),(3,.iptr (Hv e)),(5,.ref 2 0),(6,.fo 212 [.ref 2 0,.iptr (sL s)])],4,[(2,some (.box [.row 3 0 (A.length+1)])),(3,some (.row 81 2 0 ((A++[(⟨e.col,K5 s e.col (MF (C0 s e.col).widths e.num)⟩:Pk)]).map B4)))]⟩ ?_ ?_) |refine S2 ?_|(refine T6 ?_ ?_<;>intro h<;>try exact V1 h)|intro el lU lV|intro el lU|exact T4|refine T5 ?_ ?_|intro ex)<;>try conv=>whnf)
  all_goals first
   |exact A9 h0 rfl ⟨rfl,rfl,rfl,rfl,trivial⟩ ⟨rfl,⟨_,congrArg (C6.row 81 2 _) (by rw[List.map_append];rfl)⟩,trivial⟩ rfl rfl rfl
   |skip
  all_goals
   first
    |(have hM:=yi (by omega) (by assumption))
    |(have hM:=yU (by omega) (by assumption))
    |(have hM:=yc (by assumption))
    |(have hM:=yg (by omega) (by assumption))
   clear yi yU yc yg
   refine B0 (ι:=Nat) (fun k=>⟨[(5,.ref 2 0),(6,.fo 212 [.ref 2 0,.iptr (sL s)]),(67,.sl 1 (e.cols.map wA)),(68,.i e.cols.length),(69,.i k)],4,[(2,some (.box [.row 3 0 (A++M++(e.cols.take k).map (Di s)).length])),(3,some (.row 81 2 0 ((A++M++(e.cols.take k).map (Di s)).map B4)))]⟩) (fun k=>k≤e.cols.length) (fun k=>e.cols.length-k) 0 (Nat.zero_le _)
    (A9 h0 rfl ⟨rfl,rfl,rfl,rfl,rfl,trivial⟩ ⟨congrArg (fun z=>C6.box [.row 3 0 z]) (by rw[hM];simp),⟨_,congrArg (C6.row 81 2 _) (by rw[hM];simp)⟩,trivial⟩ rfl rfl rfl) (fun k hk=>?_)
   have hBl:(A++M++(e.cols.take k).map (Di s)).length≤7:=by rw[List.length_append,List.length_append,List.length_map,List.length_take];omega
   by_cases lY:k<e.cols.length
   ·obtain⟨c,hc⟩:∃c,e.cols[k]?=some c:=⟨_,List.getElem?_eq_getElem lY⟩
    have mE:A++M++(e.cols.take (k+1)).map (Di s)=A++M++(e.cols.take k).map (Di s)++[Di s c]:=by rw[H6 hc,List.map_append,List.append_assoc (A++M)];rfl
    generalize A++M++(e.cols.take k).map (Di s)=B at hBl mE ⊢
    have c3:=how B c (by omega)
    repeat'((first|(refine A2 (x:=c) hc (by omega) ?_)|refine⟨Vq [2,3] [0,0] c3 rfl rfl rfl rfl rfl rfl ⟨rfl,rfl,trivial⟩ rfl rfl rfl rfl rfl ?_⟩ |refine S2 ?_|(refine T6 ?_ ?_<;>intro h<;>try exact V1 h)|intro el lU lV|intro el lU|exact T4|refine T5 ?_ ?_|intro ex)<;>try conv=>whnf)
    all_goals first
     |(exfalso;omega)
     |(refine⟨k+1,by omega,by omega,?_⟩;rw[mE];exact A9 h0 rfl ⟨rfl,rfl,rfl,rfl,rfl,trivial⟩ ⟨congrArg (fun z=>C6.box [.row 3 0 z]) (by rw[List.length_append];rfl),⟨_,rfl⟩,trivial⟩ rfl rfl rfl)
   ·obtain rfl:k=e.cols.length:=by omega
    rw[List.take_length]
    repeat'((first|refine S2 ?_|(refine T6 ?_ ?_<;>intro h<;>try exact V1 h)|intro el lU lV|intro el lU|exact T4|refine T5 ?_ ?_|intro ex)<;>try conv=>whnf)
    all_goals first
     |(exfalso;omega)
     |exact A0 rfl rfl
abbrev Jm(p:List Pk):List AV:=[.sl 2 (p.map B4)]
structure GD(m:List (Key×AV))(lv:Nat→Int):Prop where
 keys:s9 (.int .i64) m
 get:∀c:Nat,AD m (.i .i64 c) (b6 (.int .i64 0))=.i (lv c)
theorem au:GD [] fun _=>0:=⟨fun p hp=>(by cases hp),fun c=>rfl⟩
theorem GD.step{m:List (Key×AV)}{lv:Nat→Int}(h:GD m lv){p:Pk}(hp:0≤p.col):GD (Y7 m (.i .i64 p.col) (.i (max (lv p.col.toNat) p.lev))) (upd lv p.col p.lev):=by
 refine⟨JQ (by rfl) h.keys,fun c=>?_⟩
 unfold AD upd
 rw[QE]
 by_cases e:p.col=(c:Int)
 ·rw[if_pos (by rw[e]),if_pos e,e,Int.toNat_natCast]
 ·rw[if_neg (fun hh=>e (by injection hh)),if_neg e]
  exact h.get c
theorem GD.geti{m:List (Key×AV)}{lv:Nat→Int}(h:GD m lv){c:Int}(hc:0≤c):AD m (.i .i64 c) (b6 (.int .i64 0))=.i (lv c.toNat):=by
 have:=h.get c.toNat
 rwa[show ((c.toNat:Nat):Int)=c by omega]at this
theorem aw{α:Type}{ls:List (List α)}{j k:Nat}{l:List α}{x:α}(hl:ls[j]?=some l)(hx:l[k]?=some x):(ls.take j).flatten++l.take (k+1)=(ls.take j).flatten++l.take k++[x]:=by
 rw[H6 hx,List.append_assoc]
theorem az{α:Type}{ls:List (List α)}{j:Nat}{l:List α}(hl:ls[j]?=some l):(ls.take (j+1)).flatten=(ls.take j).flatten++l:=by
 rw[H6 hl,List.flatten_append];simp
theorem Ya(ls:List (List Pk))(hp:∀l∈ls,l.length≤100000∧∀p∈l,0≤p.col∧p.col<1000):A3 Tryz.prog 164 [.sl 1 (ls.map Jm)] (.sl 2 ((YW ls.flatten).map B4)):=by
 have nB:∀p∈ls.flatten,0≤p.col∧p.col<1000:=fun p hm=>by
  obtain⟨l,h1,h2⟩:=List.mem_flatten.1 hm
  exact(hp l h1).2 p h2
 have ze:=ME (n:=1000) (l:=ls.flatten) (by omega) fun p hm=>(nB p hm).2
 have sN:=(Tt (l:=ls.flatten)).1
 unfold YW
 refine B6 Tryz.func164 59 fun lW E h0=>?_
 have lX:ls.length≤9223372036854775807:=by
  have:=(lW (.sl 1 (ls.map Jm)) (by simp)).sl
  simpa using this
 clear lW
 repeat'((first|refine S2 ?_|(refine T6 ?_ ?_<;>intro h<;>try exact V1 h)|intro el lU lV|intro el lU|exact T4|refine T5 ?_ ?_|intro ex)<;>try conv=>whnf)
 refine B0 (ι:=Nat×List (Key×AV)) (fun x=>⟨[(3,.mp 0),(4,.i (AQ (ls.take x.1).flatten)),(12,.sl 1 (ls.map Jm)),(13,.i ls.length),(14,.i x.1)],1,[(0,some (.map x.2))]⟩) (fun x=>x.1≤ls.length∧GD x.2 (j7 (ls.take x.1).flatten)) (fun x=>ls.length-x.1) (0,[]) ⟨Nat.zero_le _,au⟩
  (A6 h0) (fun x hI=>?_)
 obtain⟨j,m⟩:=x
 obtain⟨hj,hm⟩:=hI
 dsimp only at hj hm ⊢
 by_cases lY:j<ls.length
 ·obtain⟨l,hl⟩:∃l,ls[j]?=some l:=⟨_,List.getElem?_eq_getElem lY⟩
  obtain⟨pp,wY⟩:=hp l (List.mem_of_getElem? hl)
  have hfn:=az hl
  have zx:=fun (k:Nat) (p:Pk) (h:l[k]?=some p)=>aw (k:=k) hl h
  have qY:AQ (ls.take j).flatten<1000:=ME (by omega) fun p h=>by
   refine(nB p ?_).2
   obtain⟨l',h1,h2⟩:=List.mem_flatten.1 h
   exact List.mem_flatten.2 ⟨l',List.mem_of_mem_take h1,h2⟩
  generalize (ls.take j).flatten=D at *
  repeat'((first|(refine A2 (x:=l) hl (by omega) ?_) |refine S2 ?_|(refine T6 ?_ ?_<;>intro h<;>try exact V1 h)|intro el lU lV|intro el lU|exact T4|refine T5 ?_ ?_|intro ex)<;>try conv=>whnf)
  all_goals first
   |(exfalso;omega)
   |skip
  refine B0 (ι:=Nat×List (Key×AV)) (fun x=>⟨[(3,.mp 0),(4,.i (AQ (D++l.take x.1))),(12,.sl 1 (ls.map Jm)),(13,.i ls.length),(14,.i j),(18,.sl 2 (l.map B4)),(19,.i l.length),(20,.i x.1)],1,[(0,some (.map x.2))]⟩) (fun x=>x.1≤l.length∧GD x.2 (j7 (D++l.take x.1))) (fun x=>l.length-x.1) (0,m) ⟨Nat.zero_le _,by dsimp only;rw[List.take_zero,List.append_nil];exact hm⟩
   (A9 h0 rfl ⟨rfl,(by rw[List.take_zero,List.append_nil];rfl),rfl,rfl,rfl,rfl,rfl,rfl,trivial⟩ ⟨rfl,trivial⟩ rfl rfl rfl) (fun x hI=>?_)
  obtain⟨k,m2⟩:=x
  obtain⟨hk,pP⟩:=hI
  dsimp only at hk pP ⊢
  by_cases lk:k<l.length
  ·obtain⟨p,oI⟩:∃p,l[k]?=some p:=⟨_,List.getElem?_eq_getElem lk⟩
   have tN:=wY p (List.mem_of_getElem? oI)
   have nE:=pP.step tN.1
   have oM:=pP.geti tN.1
   have tE:=pP.keys
   have mE:=zx k p oI
   have mO:AQ (D++l.take (k+1))=max (AQ (D++l.take k)) p.col:=by rw[mE,YU]
   have nk:j7 (D++l.take (k+1))=upd (j7 (D++l.take k)) p.col p.lev:=by rw[mE,db]
   rw[←nk]at nE
   generalize j7 (D++l.take k) p.col.toNat=v at *
   generalize AQ (D++l.take k)=q at *
   repeat'((first|(refine A2 (x:=p) oI (by omega) ?_)|(refine I4 ?_ ?_;exact tE)|refine RE oM ?_|(refine F6 8 ?_;refine O0 (id:=8) (σ':=⟨[(3,.mp 0),(4,.i q),(8,.iptr (B4 p)),(12,.sl 1 (ls.map Jm)),(13,.i ls.length),(14,.i j),(18,.sl 2 (l.map B4)),(19,.i l.length),(20,.i k)],1,[(0,some (.map m2))]⟩) (A6 h0) ?_;refine G9 (id:=8) ⟨[(3,.mp 0),(4,.i (max q p.col)),(12,.sl 1 (ls.map Jm)),(13,.i ls.length),(14,.i j),(18,.sl 2 (l.map B4)),(19,.i l.length),(20,.i k)],1,[(0,some (.map (Y7 m2 (.i .i64 p.col) (.i (max v p.lev)))))]⟩ ?_ ?_) |refine S2 ?_|(refine T6 ?_ ?_<;>intro h<;>try exact V1 h)|intro el lU lV|intro el lU|exact T4|refine T5 ?_ ?_|intro ex)<;>try conv=>whnf)
   all_goals first
    |exact A6 h0
    |exact⟨(k+1,Y7 m2 (.i .i64 p.col) (.i (max v p.lev))),⟨by dsimp only;omega,nE⟩,by dsimp only;omega,A9 h0 rfl ⟨rfl,(congrArg (fun z:Int=>some (AV.i z)) mO.symm),rfl,rfl,rfl,rfl,rfl,rfl,trivial⟩ ⟨rfl,trivial⟩ rfl rfl rfl⟩
    |(exfalso;omega)
  ·obtain rfl:k=l.length:=by omega
   rw[List.take_length,←hfn]at *
   repeat'((first|refine S2 ?_|(refine T6 ?_ ?_<;>intro h<;>try exact V1 h)|intro el lU lV|intro el lU|exact T4|refine T5 ?_ ?_|intro ex)<;>try conv=>whnf)
   all_goals first
    |(exfalso;omega)
    |exact⟨(j+1,m2),⟨by dsimp only;omega,pP⟩,by dsimp only;omega,A6 h0⟩
 ·obtain rfl:j=ls.length:=by omega
  rw[List.take_length]at hm ⊢
  generalize AQ ls.flatten=q at *
  generalize j7 ls.flatten=lv at *
  repeat'((first|refine S2 ?_|(refine T6 ?_ ?_<;>intro h<;>try exact V1 h)|intro el lU lV|intro el lU|exact T4|refine T5 ?_ ?_|intro ex)<;>try conv=>whnf)
  all_goals first
   |(exfalso;omega)
   |skip
  obtain⟨q1,qe⟩:∃q1:Nat,q+1=(q1:Int):=⟨(q+1).toNat,by omega⟩
  rw[qe,Int.toNat_natCast]
  refine B0 (ι:=Nat) (fun c=>⟨[(3,.mp 0),(9,.row 1 0 (L1 lv 0 c).length),(41,.i q1),(42,.i c)],2,[(0,some (.map m)),(1,some (.row 81 2 0 ((L1 lv 0 c).map B4)))]⟩) (fun c=>c≤q1) (fun c=>q1-c) 0 (Nat.zero_le _)
   (B5 (I9 (d:=9) (e:=81) (sz:=2) rfl) (A9 h0 rfl ⟨rfl,rfl,(congrArg (fun z:Int=>some (AV.i z)) (by omega)),rfl,trivial⟩ ⟨rfl,⟨0,rfl⟩,trivial⟩ rfl rfl rfl)) (fun c hc=>?_)
  have nY:=Ag lv c 0
  have mu:=JS lv c 0
  rw[Nat.zero_add]at mu
  have oM:=hm.get c
  have tE:=hm.keys
  generalize lv c=v at *
  have nR:c=q1→L1 lv 0 q1=L1 lv 0 c:=fun h=>by rw[h]
  generalize L1 lv 0 c=A at *
  repeat'((first|(refine I4 ?_ ?_;exact tE)|refine RE oM ?_ |refine S2 ?_|(refine T6 ?_ ?_<;>intro h<;>try exact V1 h)|intro el lU lV|intro el lU|exact T4|refine T5 ?_ ?_|intro ex)<;>try conv=>whnf)
  all_goals first
   |(rw[if_pos (by assumption)]at mu;refine⟨c+1,by omega,by omega,?_⟩;rw[mu];exact A9 h0 rfl ⟨rfl,congrArg (fun z:Nat=>some (AV.row 1 0 z)) (by rw[List.length_append];rfl),rfl,rfl,trivial⟩ ⟨rfl,⟨_,congrArg (C6.row 81 2 _) (by rw[List.map_append];rfl)⟩,trivial⟩ rfl rfl rfl)
   |exact A0 rfl (congrArg (fun z:List Pk=>AV.sl 2 (z.map B4)) (nR (by omega)).symm)
   |(rw[if_neg (by assumption),List.append_nil]at mu;refine⟨c+1,by omega,by omega,?_⟩;rw[mu];exact A6 h0)
theorem bB{s:A4}{e:G8}(hr:C3 s=0)(hg:Jl s e):∀p∈Hz s e,0≤p.col∧p.col<s.cols.length:=by
 intro p hp
 obtain⟨_,_,_,h4,h5,_,_,_⟩:=hg.unu
 have pz:=hg.par
 unfold Jh at pz
 unfold Hz at hp
 rcases List.mem_append.1 hp with hp|hp
 rcases List.mem_append.1 hp with hp|hp
 ·obtain⟨d,hd,rfl⟩:=List.mem_map.1 hp
  have qv:e.op=10:=by
   rcases h5 with h|h
   ·exact h
   ·rw[List.eq_nil_of_length_eq_zero h]at hd;cases hd
  rw[if_neg (by omega),if_neg (by omega),if_neg (by omega),if_pos qv]at pz
  simp only[Bool.and_eq_true]at pz
  have pM:=of_decide_eq_true pz.1
  unfold Q8 at pM
  split at pM
  ·cases pM
  ·obtain⟨i,hi,he⟩:=List.getElem_of_mem hd
   have:=R6 pM i d (by rw[List.getElem?_eq_getElem hi,he])
   unfold W0 at this
   split at this
   ·exact absurd this (by assumption)
   ·rename_i oL
    have oL:P4 s d=0:=Decidable.of_not_not oL
    unfold P4 Cc E5 at oL
    rw[if_pos hr]at oL
    by_cases hc:d.col<1∨(s.cols.length:Int)≤d.col
    ·rw[if_pos hc,if_pos (show (-1:Int)<0 by omega)]at oL;cases oL
    ·dsimp only[Dj];omega
 ·unfold Bl at hp
  split at hp
  ·split at hp
   ·rename_i h1 h2
    simp only[List.mem_singleton]at hp
    subst hp
    rcases hg.col (by simp only[Dx];omega)with h|h
    ·omega
    ·have:=KY h;exact⟨this.1,this.2.1⟩
   ·cases hp
  ·split at hp
   ·rename_i h1 h2
    simp only[List.mem_singleton]at hp
    subst hp
    rcases hg.col (by simp only[Dx];omega)with h|h
    ·omega
    ·have:=KY h;exact⟨this.1,this.2.1⟩
   ·cases hp
 ·obtain⟨c,hc,rfl⟩:=List.mem_map.1 hp
  have uS:e.op=11:=by
   rcases h4 with h|h
   ·exact h
   ·rw[List.eq_nil_of_length_eq_zero h]at hc;cases hc
  rw[if_neg (by omega),if_neg (by omega),if_neg (by omega),if_neg (by omega),if_pos uS]at pz
  simp only[Bool.and_eq_true]at pz
  have pM:=of_decide_eq_true pz.2
  unfold Z7 at pM
  split at pM
  ·cases pM
  ·obtain⟨i,hi,he⟩:=List.getElem_of_mem hc
   have:=R6 pM i c (by rw[List.getElem?_eq_getElem hi,he])
   unfold Y3 at this
   split at this
   ·cases this
   ·rename_i hb
    have:=KY (show j6 s c 3=true by simpa using hb)
    exact⟨this.1,this.2.1⟩
theorem bC{lv:Nat→Int}{n:Nat}:∀p∈L1 lv 0 n,0≤p.col∧p.col<n:=fun p hp=>by
 have:=Df hp
 omega
theorem KZ{s:A4}{c:B1}:∀p∈K6 s c,0≤p.col∧p.col<s.cols.length:=fun p hp=>by
 unfold K6 at hp
 split at hp
 ·exact bC p hp
 ·cases hp
theorem bD{s:A4}{e:G8}:∀p∈Bm s e,0≤p.col∧p.col<s.cols.length:=fun p hp=>by
 rw[PE]at hp
 exact bC p hp
theorem gk{s:A4}{e:G8}(hr:C3 s=0)(hg:Jl s e):∀p∈Tv s e,0≤p.col∧p.col<s.cols.length:=by
 intro p hp
 unfold Tv at hp
 rcases List.mem_append.1 hp with hp|hp
 rcases List.mem_append.1 hp with hp|hp
 rcases List.mem_append.1 hp with hp|hp
 ·exact bB hr hg p hp
 ·exact KZ p hp
 ·exact KZ p hp
 ·obtain⟨k,_,h⟩:=List.mem_flatMap.1 hp
  exact bD p h
theorem gl{s:A4}{e:G8}:(Bm s e).length≤s.cols.length:=by rw[PE];exact Ag _ _ _
abbrev y6(s:A4)(e:G8)(k:Nat):List (List Pk):=[Hz s e,K6 s e.cnd,K6 s e.evt]++(e.kids.take k).map (Bm s)
theorem VP(s:A4)(hr:C3 s=0)(e:G8):CQ s e=true→A3 Tryz.prog 107 [sA s,DJ e] (.sl 2 ((Bm s e).map B4)):=by
 refine PC (p:=fun e=>CQ s e=true→A3 Tryz.prog 107 [sA s,DJ e] (.sl 2 ((Bm s e).map B4))) (fun e ih hg=>?_) e
 have hg:=ap hg
 obtain⟨_,_,lg⟩:=hg.lens
 have hn:=(D5 hr).2.1
 have ly:s.cols.length≤100000:=by omega
 have h1:=ar s hr e hg
 have h2:=GT s e.cnd
 have h3:=GT s e.evt
 have mm:=gk hr hg
 have qd:0<s.cols.length:=by
  obtain⟨_,_,_,_,h5⟩:=D5 hr
  cases hc:s.cols with
  |nil=>rw[hc]at h5;cases h5
  |cons a r=>exact Nat.succ_pos _
 have pW:(Hz s e).length≤7:=by
  obtain⟨q1,q2,_⟩:=hg.lens
  unfold Hz
  rw[List.length_append,List.length_append,List.length_map,List.length_map]
  have:(Bl s e).length≤1:=by
   unfold Bl
   split
   ·split<;>simp
   ·split<;>simp
  omega
 have yx:=Ya (y6 s e e.kids.length) (fun l hl=>by
  unfold y6 at hl
  rw[List.take_length]at hl
  simp only[List.cons_append,List.nil_append,List.mem_cons]at hl
  rcases hl with rfl|rfl|rfl|hl
  ·exact⟨by omega,fun p hp=>by have:=bB hr hg p hp;omega⟩
  ·exact⟨by have:=Ah s e.cnd;omega,fun p hp=>by have:=KZ p hp;omega⟩
  ·exact⟨by have:=Ah s e.evt;omega,fun p hp=>by have:=KZ p hp;omega⟩
  ·obtain⟨k,_,rfl⟩:=List.mem_map.1 hl
   exact⟨by have:=gl (s:=s) (e:=k);omega,fun p hp=>by have:=bD p hp;omega⟩)
 have nB:(y6 s e e.kids.length).flatten=Tv s e:=by
  unfold y6 Tv
  rw[List.take_length]
  simp[List.flatMap_def,List.append_assoc]
 rw[nB,jn qd mm,←PE]at yx
 generalize Bm s e=R at *
 rw[Gy]at h1 ⊢
 refine B6 Tryz.func107 36 fun lW E h0=>?_
 clear lW
 repeat'((first|(refine F6 1 ?_;refine O0 (id:=1) (σ':=⟨[(2,.iptr (sL s)),(3,.iptr (Hv e))],2,[]⟩) (A6 h0) ?_;refine G9 (id:=1) ⟨[(2,.iptr (sL s)),(3,.iptr (Hv e)),(5,.row 2 0 3)],3,[(2,some (.row 23 1 0 ((y6 s e 0).map Jm)))]⟩ ?_ ?_)|(refine DG ?_ ?_ ?_;kernel_rfl;kernel_rfl)|refine Z9 (T:=193) rfl ?_|refine A1 h1 ?_|refine A1 h2 ?_|refine A1 h3 ?_ |refine S2 ?_|(refine T6 ?_ ?_<;>intro h<;>try exact V1 h)|intro el lU lV|intro el lU|exact T4|refine T5 ?_ ?_|intro ex)<;>try conv=>whnf)
 all_goals first
  |exact A6 h0
  |skip
 refine B0 (ι:=Nat) (fun k=>⟨[(2,.iptr (sL s)),(5,.row 2 0 (y6 s e k).length),(21,.sl 19 (e.kids.map DI)),(22,.i e.kids.length),(23,.i k)],3,[(2,some (.row 23 1 0 ((y6 s e k).map Jm)))]⟩) (fun k=>k≤e.kids.length) (fun k=>e.kids.length-k) 0 (Nat.zero_le _)
  (by exact A6 h0) (fun k hk=>?_)
 by_cases lY:k<e.kids.length
 ·obtain⟨x,hx⟩:∃x,e.kids[k]?=some x:=⟨_,List.getElem?_eq_getElem lY⟩
  have hq:=ih x (List.mem_of_getElem? hx) (hg.kid x (List.mem_of_getElem? hx)).2
  have mE:y6 s e (k+1)=y6 s e k++[Bm s x]:=by
   unfold y6
   rw[H6 hx,List.map_append,List.append_assoc];rfl
  have lk:(y6 s e k).length≤5:=by
   unfold y6
   rw[List.length_append,List.length_map,List.length_take]
   simp only[List.length_cons,List.length_nil];omega
  generalize y6 s e k=A at *
  generalize Bm s x=B at *
  repeat'((first|(refine A2 (x:=x) hx (by omega) ?_)|refine A1 hq ?_ |refine S2 ?_|(refine T6 ?_ ?_<;>intro h<;>try exact V1 h)|intro el lU lV|intro el lU|exact T4|refine T5 ?_ ?_|intro ex)<;>try conv=>whnf)
  all_goals first
   |(exfalso;omega)
   |(refine⟨k+1,by omega,by omega,?_⟩;rw[mE];exact A9 h0 rfl ⟨rfl,congrArg (fun z:Nat=>some (AV.row 2 0 z)) (by rw[List.length_append];rfl),rfl,rfl,rfl,trivial⟩ ⟨⟨_,congrArg (C6.row 23 1 _) (by rw[List.map_append];rfl)⟩,trivial⟩ rfl rfl rfl)
 ·obtain rfl:k=e.kids.length:=by omega
  repeat'((first|refine J1 2 ?_|refine A1 yx ?_ |refine S2 ?_|(refine T6 ?_ ?_<;>intro h<;>try exact V1 h)|intro el lU lV|intro el lU|exact T4|refine T5 ?_ ?_|intro ex)<;>try conv=>whnf)
  all_goals first
   |(exfalso;omega)
   |exact A0 rfl rfl
end Go.Proofs.YtiphlhoclaogjaaGreatDoor
