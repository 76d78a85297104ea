/- Chapter 17: what expressions need, and their kinds, in plain terms. Chapter 17: what an expression needs, without its kids. Chapter 17: picks are merged; what a right expression needs. -/
import Derived.Test.YtjkbhaaobhgkdabGreatDoorRF1
import Derived.Test.YtjkbhaaobhgkdabGreatDoorRC3
import Derived.Test.YtjkbhaaobhgkdabGreatDoorRC1
import Derived.Test.YtjkbhaaobhgkdabGreatDoorRRg0
import Derived.Test.YtjkbhaaobhgkdabGreatDoorRTa5
import Derived.Test.YtjkbhaaobhgkdabGreatDoorRB8
import Derived.Test.YtjkbhaaobhgkdabGreatDoorRCm2
import Derived.Test.YtjkbhaaobhgkdabGreatDoorRCf1
set_option linter.unusedVariables false
set_option linter.unnecessarySimpa false
set_option linter.unusedSimpArgs false
set_option maxHeartbeats 64000000
namespace Go.Proofs.YtjkbhaaobhgkdabGreatDoor
open Go Go.Av
attribute [local irreducible] D0 B0 D2 C7 DQ D1 C8 St.le A3 B6
set_option maxRecDepth 100000
def T7(l:List Pk)(i:Nat):Int:=l.foldl (fun (m:Int) (p:Pk)=>if p.col=(i:Int)then max m p.lev else m) 0
theorem iz:T7 []=fun _=>0:=rfl
theorem er(l:List Pk)(p:Pk):T7 (l++[p])=upd (T7 l) p.col p.lev:=by
 funext i
 unfold T7 upd
 rw[List.foldl_append]
 rfl
theorem UF(i:Nat):∀(l:List Pk) (m:Int),0≤m→l.foldl (fun (m:Int) (p:Pk)=>if p.col=(i:Int)then max m p.lev else m) m=max m (T7 l i):=by
 intro l
 induction l with
 |nil=>intro m h;unfold T7;simp only[List.foldl_nil];omega
 |cons p r ih =>
  intro m h
  unfold T7
  rw[List.foldl_cons,List.foldl_cons]
  split
  ·rw[ih _ (by omega),ih _ (by omega)];omega
  ·rw[ih _ h,ih 0 (Int.le_refl _)];omega
theorem lQ(l:List Pk)(i:Nat):0≤T7 l i:=by
 have:=UF i l 0 (Int.le_refl _)
 have h:T7 l i=l.foldl (fun (m:Int) (p:Pk)=>if p.col=(i:Int)then max m p.lev else m) 0:=rfl
 omega
theorem Wu(a b:List Pk)(i:Nat):T7 (a++b) i=max (T7 a i) (T7 b i):=by
 have h:T7 (a++b) i=b.foldl (fun (m:Int) (p:Pk)=>if p.col=(i:Int)then max m p.lev else m) (T7 a i):=by
  unfold T7;rw[List.foldl_append]
 rw[h,UF i b _ (lQ a i)]
theorem Wv(p:Pk)(i:Nat):T7 [p] i=if p.col=(i:Int)then max 0 p.lev else 0:=rfl
def y7(l:List Pk):Int:=l.foldl (fun (m:Int) (p:Pk)=>max m p.col) 0
theorem Yy(l:List Pk)(p:Pk):y7 (l++[p])=max (y7 l) p.col:=by unfold y7;rw[List.foldl_append];rfl
theorem Yz:∀(l:List Pk) (m:Int),m≤l.foldl (fun (m:Int) (p:Pk)=>max m p.col) m∧∀p∈l,p.col≤l.foldl (fun (m:Int) (p:Pk)=>max m p.col) m:=by
 intro l
 induction l with
 |nil=>intro m;exact⟨Int.le_refl _,fun p h=>by cases h⟩
 |cons p r ih =>
  intro m
  rw[List.foldl_cons]
  obtain⟨h1,h2⟩:=ih (max m p.col)
  refine⟨by omega,fun q hq=>?_⟩
  rcases List.mem_cons.1 hq with rfl|hq
  ·omega
  ·exact h2 q hq
theorem UG{l:List Pk}:0≤y7 l∧∀p∈l,p.col≤y7 l:=Yz l 0
theorem MQ{n:Int}(hn:0<n):∀{l:List Pk},(∀p∈l,p.col<n)→y7 l<n:=by
 have key:∀(l:List Pk) (m:Int),m<n→(∀p∈l,p.col<n)→l.foldl (fun (m:Int) (p:Pk)=>max m p.col) m<n:=by
  intro l
  induction l with
  |nil=>intro m h _;exact h
  |cons p r ih =>
   intro m h hl
   rw[List.foldl_cons]
   exact ih _ (by have:=hl p (by simp);omega) fun q hq=>hl q (by simp[hq])
 exact fun {l} h=>key l 0 hn h
theorem eu{l:List Pk}{i:Nat}(h:∀p∈l,p.col≠(i:Int)):T7 l i=0:=by
 induction l with
 |nil=>rfl
 |cons p r ih =>
  have e:T7 (p::r) i=max (T7 [p] i) (T7 r i):=Wu [p] r i
  rw[e,Wv,if_neg (h p (by simp)),ih fun q hq=>h q (by simp[hq])];rfl
theorem UH(lv:Nat→Int):∀(n m lo:Nat),n≤m→(∀i,lo+n≤i→lv i=0)→K6 lv lo m=K6 lv lo n
 |0,m,lo,_,h=>by
  induction m generalizing lo with
  |zero=>rfl
  |succ m ih =>
   rw[Y8,if_neg (by rw[h lo (by omega)];omega),ih (lo+1) (by omega) fun i hi=>h i (by omega)]
   rfl
 |n+1,0,lo,hn,_=>by omega
 |n+1,m+1,lo,hn,h=>by
  rw[Y8,Y8,UH lv n m (lo+1) (by omega) fun i hi=>h i (by omega)]
def ZA(l:List Pk):List Pk:=K6 (T7 l) 0 (y7 l+1).toNat
theorem lR{l:List Pk}{n:Nat}(hn:0<n)(h:∀p∈l,0≤p.col∧p.col<n):ZA l=K6 (T7 l) 0 n:=by
 have h1:=MQ (n:=n) (l:=l) (by omega) fun p hp=>(h p hp).2
 have h2:=UG (l:=l)
 unfold ZA
 rw[UH (T7 l) (y7 l+1).toNat n 0 (by omega) fun i hi=>eu fun p hp=>by have:=h2.2 p hp;omega]
abbrev DF(s:A4)(c:Int):Pk:=⟨c,H7 s c (B9 s c)⟩
abbrev CE(s:A4)(d:Pk):Pk:=⟨d.col,H7 s d.col d.lev⟩
def Fe(ws:List Int)(pJ:Int):Int:=if 0≤E6 (fun x=>decide (x=pJ)) ws 0 then ws.length-E6 (fun x=>decide (x=pJ)) ws 0 else 0
def Au(s:A4)(e:G0):List Pk :=
 if e.op=4∨e.op=5∨e.op=10∨e.op=11∨e.op=12∨e.op=14 then (if 0<e.col then [DF s e.col]else [])
 else if e.op=13 then [⟨e.col,H7 s e.col (Fe (B4 s e.col).widths e.num)⟩]else []
def Ff(s:A4)(e:G0):List Pk:=e.dims.map (CE s)++Au s e++e.cols.map (DF s)
mutual
def y8(s:A4):G0→List Pk
 |.mk o n nm c cs ds cd ev ks=>K6 (T7 (Ff s (.mk o n nm c cs ds cd ev ks)++L5 s cd++L5 s ev++ZB s ks)) 0 s.cols.length
def ZB(s:A4):List G0→List Pk
 |[]=>[]
 |x::r=>y8 s x++ZB s r
end
theorem Ww(s:A4):∀l,ZB s l=l.flatMap (y8 s)
 |[]=>rfl
 |x::r=>by rw[ZB,Ww s r];rfl
abbrev UI(s:A4)(e:G0):List Pk:=Ff s e++L5 s e.cnd++L5 s e.evt++e.kids.flatMap (y8 s)
theorem Kh(s:A4)(e:G0):y8 s e=K6 (T7 (UI s e)) 0 s.cols.length:=by
 cases e
 rw[y8,Ww];rfl
def CF(s:A4)(e:G0):List Pk:=if Hz s e=true then y8 s e else []
structure Wx where
 name:List UInt8
 kind:Int
def gH(nm:List UInt8):List Wx→Int×Int→Int×Int
 |[],z=>z
 |b::r,z=>gH nm r (if b.name=nm then (b.kind,0)else z)
def lS(before:List Wx)(nm:List UInt8):Int×Int:=gH nm before (0,24)
def nA(before:List Wx)(e:G0)(numbers:Bool):Int×Int :=
 if e.op=2 then lS before e.name else if numbers=false then (0,16)else if PJ e.op then (1,0)else (e.op-8,0)
mutual
def UJ(before:List Wx):G0→Int×Int
 |.mk o n nm c cs ds cd ev ks=>if (ZC before ks true).1=0 then nA before (.mk o n nm c cs ds cd ev ks) (ZC before ks true).2 else (0,(ZC before ks true).1)
def ZC(before:List Wx):List G0→Bool→Int×Bool
 |[],b=>(0,b)
 |x::r,b=>if (UJ before x).2=0 then ZC before r (b && decide ((UJ before x).1=1))else ((UJ before x).2,b)
end
theorem bc(s:A4)(pa:List Pk)(c:Int)(hl:pa.length≤100000):B6 Tryz.prog 150 2 [(0,some (.box [.row 1 0 pa.length])),(1,some (.row 58 2 0 (pa.map B5)))] [.i c,.ref 0 0,.iptr (sL s)] 2 [(0,some (.box [.row 1 0 (pa.length+1)])),(1,some (.row 58 2 0 ((pa++[DF s c]).map B5)))] (.tup []):=by
 have h1:=Co s c
 have h2:=Nf s c (B9 s c)
 refine X6 Tryz.func150 15 fun E h0=>?_
 repeat'((first|refine A1 h1 ?_|refine A1 h2 ?_|(refine G3 0 ?_;refine H4 (id:=0) ⟨[],2,[(0,some (.box [.row 1 0 (pa.length+1)])),(1,some (.row 58 2 0 ((pa++[DF s c]).map B5)))]⟩ ?_ ?_) |refine S2 ?_|(refine T6 ?_ ?_<;>intro h<;>try exact V1 h)|intro el nN nP|intro el nN|exact T4|refine T5 ?_ ?_|intro ex)<;>try conv=>whnf)
 all_goals first
  |exact A8 h0 rfl trivial ⟨rfl,⟨_,congrArg (C9.row 58 2 _) (by rw[List.map_append];rfl)⟩,trivial⟩ rfl rfl rfl
  |(delta C8;exact .inl ⟨[],[],rfl,trivial,rfl,rfl,A6 h0,rfl⟩)
theorem UK(s:A4)(col pJ:Int){c:D4}(zc:0≤col)(hc:s.cols[col.toNat]?=some c):A3 Tryz.prog 152 [sA s,.i col,.i pJ] (.i (Fe (B4 s col).widths pJ)):=by
 rw[B7 hc]
 unfold Fe
 refine C0 Tryz.func152 31 fun nQ E h0=>?_
 have nO:c.widths.length≤9223372036854775807:=by
  have:=((((nQ (sA s) (by simp)).agg (.sl 7 (s.cols.map W5)) (by simp))).elem (W5 c) (List.mem_map.2 ⟨c,List.mem_of_getElem? hc,rfl⟩) (.sl 1 (c.widths.map wA)) (by simp)).sl
  simpa using this
 clear nQ
 repeat'((first|(refine A2 (x:=c) hc (by omega) ?_) |refine S2 ?_|(refine T6 ?_ ?_<;>intro h<;>try exact V1 h)|intro el nN nP|intro el nN|exact T4|refine T5 ?_ ?_|intro ex)<;>try conv=>whnf)
 refine B2 (ι:=Nat) (fun k=>⟨[(2,.i pJ),(7,.sl 1 (c.widths.map wA)),(16,.sl 1 (c.widths.map wA)),(17,.i c.widths.length),(18,.i k)],1,[]⟩) (fun k=>k≤c.widths.length∧E6 (fun x=>decide (x=pJ)) c.widths 0=E6 (fun x=>decide (x=pJ)) (c.widths.drop k) k) (fun k=>c.widths.length-k) 0 ⟨Nat.zero_le _,rfl⟩
  (A6 h0) (fun k hI=>?_)
 obtain⟨hk,hI⟩:=hI
 repeat'((first|refine S2 ?_|(refine T6 ?_ ?_<;>intro h<;>try exact V1 h)|intro el nN nP|intro el nN|exact T4|refine T5 ?_ ?_|intro ex)<;>try conv=>whnf)
 all_goals first
  |exact⟨k+1,⟨by omega,by rw[hI,G6 nN,E6,if_neg (by rw[decide_eq_true_iff];omega)];rfl⟩,by omega,A6 h0⟩
  |(have e1:E6 (fun x=>decide (x=pJ)) c.widths 0=k:=by rw[hI,G6 nN,E6,if_pos (by rw[decide_eq_true_iff];omega)]
    exact A0 rfl (congrArg AV.i (by rw[e1,if_pos (by omega)])))
  |(have e1:E6 (fun x=>decide (x=pJ)) c.widths 0=-1:=by rw[hI,show k=c.widths.length by omega,List.drop_length];rfl
    exact A0 rfl (congrArg AV.i (by rw[e1,if_neg (by omega)])))
theorem bf(s:A4)(hr:C5 s=0)(e:G0)(hg:Dg s e):A3 Tryz.prog 106 [sA s,DC e] (.sl 2 ((Ff s e).map B5)):=by
 obtain⟨uJ,vJ,_⟩:=hg.lens
 have sq:=hg.col
 have pd:=hg.op
 have hls:=fun c l=>Nf s c l
 have qG:∀h:e.op=13,A3 Tryz.prog 152 [sA s,.i e.col,.i e.num] (.i (Fe (B4 s e.col).widths e.num)):=fun h=>by
  rcases sq (by simp only[Bo];omega)with h'|h'
  ·omega
  ·obtain⟨zc,_,c,hc,_⟩:=CW h'
   exact UK s e.col e.num zc hc
 have how:=bc s
 rw[HA]
 refine C0 Tryz.func106 78 fun nQ E h0=>?_
 clear nQ
 repeat'((first|(refine I6 0 ?_;refine DX ?_;(conv=>whnf);refine Lu rfl rfl ?_) |refine S2 ?_|(refine T6 ?_ ?_<;>intro h<;>try exact V1 h)|intro el nN nP|intro el nN|exact T4|refine T5 ?_ ?_|intro ex)<;>try conv=>whnf)
 refine B2 (ι:=Nat) (fun k=>⟨[(2,.iptr (sL s)),(3,.ref 1 0),(5,.ref 2 0),(6,.fo 150 [.ref 2 0,.iptr (sL s)]),(13,.sl 2 (e.dims.map B5)),(14,.i e.dims.length),(15,.i k)],4,[(1,some (.box (Hw e))),(2,some (.box [.row 3 0 ((e.dims.take k).map (CE s)).length])),(3,some (.row 58 2 0 (((e.dims.take k).map (CE s)).map B5)))]⟩) (fun k=>k≤e.dims.length) (fun k=>e.dims.length-k) 0 (Nat.zero_le _)
  (C2 (Jf 2 0 (e:=58) (sz:=2) rfl rfl) (A8 h0 rfl ⟨rfl,rfl,rfl,rfl,rfl,rfl,rfl,trivial⟩ ⟨rfl,rfl,⟨0,rfl⟩,trivial⟩ rfl rfl rfl)) (fun k hk=>?_)
 have nZ:((e.dims.take k).map (CE s)).length≤3:=by rw[List.length_map,List.length_take];omega
 by_cases nR:k<e.dims.length
 ·obtain⟨d,hd⟩:∃d,e.dims[k]?=some d:=⟨_,List.getElem?_eq_getElem nR⟩
  have nz:(e.dims.take (k+1)).map (CE s)=(e.dims.take k).map (CE s)++[CE s d]:=by rw[I3 hd,List.map_append];rfl
  have om:=hls d.col d.lev
  generalize (e.dims.take k).map (CE s)=A at nZ nz ⊢
  repeat'((first|(refine A2 (x:=d) hd (by omega) ?_)|refine A1 om ?_|(refine G3 6 ?_;refine P5 (id:=6) (σ':=⟨[(2,.iptr (sL s)),(3,.ref 1 0),(5,.ref 2 0),(6,.fo 150 [.ref 2 0,.iptr (sL s)]),(8,.iptr (B5 d)),(13,.sl 2 (e.dims.map B5)),(14,.i e.dims.length),(15,.i k)],4,[(1,some (.box (Hw e))),(2,some (.box [.row 3 0 A.length])),(3,some (.row 58 2 0 (A.map B5)))]⟩) (A6 h0) ?_;refine H4 (id:=6) ⟨[(2,.iptr (sL s)),(3,.ref 1 0),(5,.ref 2 0),(6,.fo 150 [.ref 2 0,.iptr (sL s)]),(13,.sl 2 (e.dims.map B5)),(14,.i e.dims.length),(15,.i k)],4,[(1,some (.box (Hw e))),(2,some (.box [.row 3 0 (A.length+1)])),(3,some (.row 58 2 0 ((A++[CE s d]).map B5)))]⟩ ?_ ?_) |refine S2 ?_|(refine T6 ?_ ?_<;>intro h<;>try exact V1 h)|intro el nN nP|intro el nN|exact T4|refine T5 ?_ ?_|intro ex)<;>try conv=>whnf)
  all_goals first
   |exact A8 h0 rfl ⟨rfl,rfl,rfl,rfl,rfl,rfl,rfl,trivial⟩ ⟨rfl,rfl,⟨_,congrArg (C9.row 58 2 _) (by rw[List.map_append];rfl)⟩,trivial⟩ rfl rfl rfl
   |(refine⟨k+1,by omega,by omega,?_⟩;rw[nz];exact A8 h0 rfl ⟨rfl,rfl,rfl,rfl,rfl,rfl,rfl,trivial⟩ ⟨rfl,congrArg (fun z=>C9.box [.row 3 0 z]) (by rw[List.length_append];rfl),⟨_,rfl⟩,trivial⟩ rfl rfl rfl)
 ·obtain rfl:k=e.dims.length:=by omega
  rw[List.take_length]
  have rQ:(Au s e).length≤1:=by
   unfold Au
   split
   ·split<;>simp
   ·split<;>simp
  have uv:∀A,A=e.dims.map (CE s)→Ff s e=A++Au s e++e.cols.map (DF s):=fun A h=>by rw[h];rfl
  have hM1:(e.op=4∨e.op=5∨e.op=10∨e.op=11∨e.op=12∨e.op=14)→0<e.col→Au s e=[DF s e.col]:=fun h1 h2=>by unfold Au;rw[if_pos h1,if_pos h2]
  have hM2:(e.op=4∨e.op=5∨e.op=10∨e.op=11∨e.op=12∨e.op=14)→¬0<e.col→Au s e=[]:=fun h1 h2=>by unfold Au;rw[if_pos h1,if_neg h2]
  have hM3:e.op=13→Au s e=[⟨e.col,H7 s e.col (Fe (B4 s e.col).widths e.num)⟩]:=fun h1=>by unfold Au;rw[if_neg (by omega),if_pos h1]
  have hM4:¬(e.op=4∨e.op=5∨e.op=10∨e.op=11∨e.op=12∨e.op=14)→¬e.op=13→Au s e=[]:=fun h1 h2=>by unfold Au;rw[if_neg h1,if_neg h2]
  have nZ:(e.dims.map (CE s)).length≤3:=by rw[List.length_map];exact uJ
  generalize hA:e.dims.map (CE s)=A at nZ ⊢
  rw[uv A hA.symm]
  clear nZ uv
  have yd:A.length≤3:=by rw[←hA,List.length_map];exact uJ
  generalize Au s e=M at *
  have c1:=how A e.col (by omega)
  have c2:=hls e.col (Fe (B4 s e.col).widths e.num)
  repeat'((first|refine⟨WK [2,3] [0,0] c1 rfl rfl rfl rfl rfl rfl ⟨rfl,rfl,trivial⟩ rfl rfl rfl rfl rfl ?_⟩|(refine A1 (qG (by assumption)) ?_)|refine A1 c2 ?_|(refine G3 18 ?_;refine P5 (id:=18) (σ':=⟨[(2,.iptr (sL s)),(3,.iptr (Hw e)),(5,.ref 2 0),(6,.fo 150 [.ref 2 0,.iptr (sL s)])],4,[(2,some (.box [.row 3 0 A.length])),(3,some (.row 58 2 0 (A.map B5)))]⟩) (A6 h0) ?_;refine H4 (id:=18) ⟨[(2,.iptr (sL s)),(3,.iptr (Hw e)),(5,.ref 2 0),(6,.fo 150 [.ref 2 0,.iptr (sL s)])],4,[(2,some (.box [.row 3 0 (A.length+1)])),(3,some (.row 58 2 0 ((A++[(⟨e.col,H7 s e.col (Fe (B4 s e.col).widths e.num)⟩:Pk)]).map B5)))]⟩ ?_ ?_) |refine S2 ?_|(refine T6 ?_ ?_<;>intro h<;>try exact V1 h)|intro el nN nP|intro el nN|exact T4|refine T5 ?_ ?_|intro ex)<;>try conv=>whnf)
  all_goals first
   |exact A8 h0 rfl ⟨rfl,rfl,rfl,rfl,trivial⟩ ⟨rfl,⟨_,congrArg (C9.row 58 2 _) (by rw[List.map_append];rfl)⟩,trivial⟩ rfl rfl rfl
   |skip
  all_goals
   first
    |(have hM:=hM1 (by omega) (by assumption))
    |(have hM:=hM2 (by omega) (by assumption))
    |(have hM:=hM3 (by assumption))
    |(have hM:=hM4 (by omega) (by assumption))
   clear hM1 hM2 hM3 hM4
   refine B2 (ι:=Nat) (fun k=>⟨[(5,.ref 2 0),(6,.fo 150 [.ref 2 0,.iptr (sL s)]),(67,.sl 1 (e.cols.map wA)),(68,.i e.cols.length),(69,.i k)],4,[(2,some (.box [.row 3 0 (A++M++(e.cols.take k).map (DF s)).length])),(3,some (.row 58 2 0 ((A++M++(e.cols.take k).map (DF s)).map B5)))]⟩) (fun k=>k≤e.cols.length) (fun k=>e.cols.length-k) 0 (Nat.zero_le _)
    (A8 h0 rfl ⟨rfl,rfl,rfl,rfl,rfl,trivial⟩ ⟨congrArg (fun z=>C9.box [.row 3 0 z]) (by rw[hM];simp),⟨_,congrArg (C9.row 58 2 _) (by rw[hM];simp)⟩,trivial⟩ rfl rfl rfl) (fun k hk=>?_)
   have hBl:(A++M++(e.cols.take k).map (DF s)).length≤7:=by rw[List.length_append,List.length_append,List.length_map,List.length_take];omega
   by_cases nR:k<e.cols.length
   ·obtain⟨c,hc⟩:∃c,e.cols[k]?=some c:=⟨_,List.getElem?_eq_getElem nR⟩
    have nz:A++M++(e.cols.take (k+1)).map (DF s)=A++M++(e.cols.take k).map (DF s)++[DF s c]:=by rw[I3 hc,List.map_append,List.append_assoc (A++M)];rfl
    generalize A++M++(e.cols.take k).map (DF s)=B at hBl nz ⊢
    have c3:=how B c (by omega)
    repeat'((first|(refine A2 (x:=c) hc (by omega) ?_)|refine⟨WK [2,3] [0,0] c3 rfl rfl rfl rfl rfl rfl ⟨rfl,rfl,trivial⟩ rfl rfl rfl rfl rfl ?_⟩ |refine S2 ?_|(refine T6 ?_ ?_<;>intro h<;>try exact V1 h)|intro el nN nP|intro el nN|exact T4|refine T5 ?_ ?_|intro ex)<;>try conv=>whnf)
    all_goals first
     |(exfalso;omega)
     |(refine⟨k+1,by omega,by omega,?_⟩;rw[nz];exact A8 h0 rfl ⟨rfl,rfl,rfl,rfl,rfl,trivial⟩ ⟨congrArg (fun z=>C9.box [.row 3 0 z]) (by rw[List.length_append];rfl),⟨_,rfl⟩,trivial⟩ rfl rfl rfl)
   ·obtain rfl:k=e.cols.length:=by omega
    rw[List.take_length]
    repeat'((first|refine S2 ?_|(refine T6 ?_ ?_<;>intro h<;>try exact V1 h)|intro el nN nP|intro el nN|exact T4|refine T5 ?_ ?_|intro ex)<;>try conv=>whnf)
    all_goals first
     |(exfalso;omega)
     |exact A0 rfl rfl
abbrev Jr(p:List Pk):List AV:=[.sl 2 (p.map B5)]
structure GF(m:List (Key×AV))(lv:Nat→Int):Prop where
 keys:q8 (.int .i64) m
 get:∀c:Nat,x5 m (.i .i64 c) (Z6 (.int .i64 0))=.i (lv c)
theorem bg:GF [] fun _=>0:=⟨fun p hp=>(by cases hp),fun c=>rfl⟩
theorem GF.step{m:List (Key×AV)}{lv:Nat→Int}(h:GF m lv){p:Pk}(hp:0≤p.col):GF (X9 m (.i .i64 p.col) (.i (max (lv p.col.toNat) p.lev))) (upd lv p.col p.lev):=by
 refine⟨JV (by rfl) h.keys,fun c=>?_⟩
 unfold x5 upd
 rw[QN]
 by_cases e:p.col=(c:Int)
 ·rw[if_pos (by rw[e]),if_pos e,e,Int.toNat_natCast]
 ·rw[if_neg (fun hh=>e (by injection hh)),if_neg e]
  exact h.get c
theorem GF.geti{m:List (Key×AV)}{lv:Nat→Int}(h:GF m lv){c:Int}(hc:0≤c):x5 m (.i .i64 c) (Z6 (.int .i64 0))=.i (lv c.toNat):=by
 have:=h.get c.toNat
 rwa[show ((c.toNat:Nat):Int)=c by omega]at this
theorem bh{α:Type}{ls:List (List α)}{j k:Nat}{l:List α}{x:α}(hl:ls[j]?=some l)(hx:l[k]?=some x):(ls.take j).flatten++l.take (k+1)=(ls.take j).flatten++l.take k++[x]:=by
 rw[I3 hx,List.append_assoc]
theorem bi{α:Type}{ls:List (List α)}{j:Nat}{l:List α}(hl:ls[j]?=some l):(ls.take (j+1)).flatten=(ls.take j).flatten++l:=by
 rw[I3 hl,List.flatten_append];simp
theorem ZD(ls:List (List Pk))(hp:∀l∈ls,l.length≤100000∧∀p∈l,0≤p.col∧p.col<1000):A3 Tryz.prog 108 [.sl 1 (ls.map Jr)] (.sl 2 ((ZA ls.flatten).map B5)):=by
 have pF:∀p∈ls.flatten,0≤p.col∧p.col<1000:=fun p hm=>by
  obtain⟨l,h1,h2⟩:=List.mem_flatten.1 hm
  exact(hp l h1).2 p h2
 have hla:=MQ (n:=1000) (l:=ls.flatten) (by omega) fun p hm=>(pF p hm).2
 have tx:=(UG (l:=ls.flatten)).1
 unfold ZA
 refine C0 Tryz.func108 59 fun nQ E h0=>?_
 have nO:ls.length≤9223372036854775807:=by
  have:=(nQ (.sl 1 (ls.map Jr)) (by simp)).sl
  simpa using this
 clear nQ
 repeat'((first|refine S2 ?_|(refine T6 ?_ ?_<;>intro h<;>try exact V1 h)|intro el nN nP|intro el nN|exact T4|refine T5 ?_ ?_|intro ex)<;>try conv=>whnf)
 refine B2 (ι:=Nat×List (Key×AV)) (fun x=>⟨[(3,.mp 0),(4,.i (y7 (ls.take x.1).flatten)),(12,.sl 1 (ls.map Jr)),(13,.i ls.length),(14,.i x.1)],1,[(0,some (.map x.2))]⟩) (fun x=>x.1≤ls.length∧GF x.2 (T7 (ls.take x.1).flatten)) (fun x=>ls.length-x.1) (0,[]) ⟨Nat.zero_le _,bg⟩
  (A6 h0) (fun x hI=>?_)
 obtain⟨j,m⟩:=x
 obtain⟨hj,hm⟩:=hI
 dsimp only at hj hm ⊢
 by_cases nR:j<ls.length
 ·obtain⟨l,hl⟩:∃l,ls[j]?=some l:=⟨_,List.getElem?_eq_getElem nR⟩
  obtain⟨rl,vc⟩:=hp l (List.mem_of_getElem? hl)
  have hfn:=bi hl
  have htf:=fun (k:Nat) (p:Pk) (h:l[k]?=some p)=>bh (k:=k) hl h
  have sI:y7 (ls.take j).flatten<1000:=MQ (by omega) fun p h=>by
   refine(pF p ?_).2
   obtain⟨l',h1,h2⟩:=List.mem_flatten.1 h
   exact List.mem_flatten.2 ⟨l',List.mem_of_mem_take h1,h2⟩
  generalize (ls.take j).flatten=D at *
  repeat'((first|(refine A2 (x:=l) hl (by omega) ?_) |refine S2 ?_|(refine T6 ?_ ?_<;>intro h<;>try exact V1 h)|intro el nN nP|intro el nN|exact T4|refine T5 ?_ ?_|intro ex)<;>try conv=>whnf)
  all_goals first
   |(exfalso;omega)
   |skip
  refine B2 (ι:=Nat×List (Key×AV)) (fun x=>⟨[(3,.mp 0),(4,.i (y7 (D++l.take x.1))),(12,.sl 1 (ls.map Jr)),(13,.i ls.length),(14,.i j),(18,.sl 2 (l.map B5)),(19,.i l.length),(20,.i x.1)],1,[(0,some (.map x.2))]⟩) (fun x=>x.1≤l.length∧GF x.2 (T7 (D++l.take x.1))) (fun x=>l.length-x.1) (0,m) ⟨Nat.zero_le _,by dsimp only;rw[List.take_zero,List.append_nil];exact hm⟩
   (A8 h0 rfl ⟨rfl,(by rw[List.take_zero,List.append_nil];rfl),rfl,rfl,rfl,rfl,rfl,rfl,trivial⟩ ⟨rfl,trivial⟩ rfl rfl rfl) (fun x hI=>?_)
  obtain⟨k,m2⟩:=x
  obtain⟨hk,qt⟩:=hI
  dsimp only at hk qt ⊢
  by_cases nZ:k<l.length
  ·obtain⟨p,qT⟩:∃p,l[k]?=some p:=⟨_,List.getElem?_eq_getElem nZ⟩
   have wh:=vc p (List.mem_of_getElem? qT)
   have pD:=qt.step wh.1
   have px:=qt.geti wh.1
   have us:=qt.keys
   have nz:=htf k p qT
   have oF:y7 (D++l.take (k+1))=max (y7 (D++l.take k)) p.col:=by rw[nz,Yy]
   have pV:T7 (D++l.take (k+1))=upd (T7 (D++l.take k)) p.col p.lev:=by rw[nz,er]
   rw[←pV]at pD
   generalize T7 (D++l.take k) p.col.toNat=v at *
   generalize y7 (D++l.take k)=q at *
   repeat'((first|(refine A2 (x:=p) qT (by omega) ?_)|(refine J4 ?_ ?_;exact us)|refine RQ px ?_|(refine G3 8 ?_;refine P5 (id:=8) (σ':=⟨[(3,.mp 0),(4,.i q),(8,.iptr (B5 p)),(12,.sl 1 (ls.map Jr)),(13,.i ls.length),(14,.i j),(18,.sl 2 (l.map B5)),(19,.i l.length),(20,.i k)],1,[(0,some (.map m2))]⟩) (A6 h0) ?_;refine H4 (id:=8) ⟨[(3,.mp 0),(4,.i (max q p.col)),(12,.sl 1 (ls.map Jr)),(13,.i ls.length),(14,.i j),(18,.sl 2 (l.map B5)),(19,.i l.length),(20,.i k)],1,[(0,some (.map (X9 m2 (.i .i64 p.col) (.i (max v p.lev)))))]⟩ ?_ ?_) |refine S2 ?_|(refine T6 ?_ ?_<;>intro h<;>try exact V1 h)|intro el nN nP|intro el nN|exact T4|refine T5 ?_ ?_|intro ex)<;>try conv=>whnf)
   all_goals first
    |exact A8 h0 rfl ⟨rfl,rfl,rfl,rfl,rfl,rfl,rfl,rfl,trivial⟩ ⟨rfl,trivial⟩ rfl rfl rfl
    |exact⟨(k+1,X9 m2 (.i .i64 p.col) (.i (max v p.lev))),⟨by dsimp only;omega,pD⟩,by dsimp only;omega,A8 h0 rfl ⟨rfl,(congrArg (fun z:Int=>some (AV.i z)) oF.symm),rfl,rfl,rfl,rfl,rfl,rfl,trivial⟩ ⟨rfl,trivial⟩ rfl rfl rfl⟩
    |(exfalso;omega)
  ·obtain rfl:k=l.length:=by omega
   rw[List.take_length,←hfn]at *
   repeat'((first|refine S2 ?_|(refine T6 ?_ ?_<;>intro h<;>try exact V1 h)|intro el nN nP|intro el nN|exact T4|refine T5 ?_ ?_|intro ex)<;>try conv=>whnf)
   all_goals first
    |(exfalso;omega)
    |exact⟨(j+1,m2),⟨by dsimp only;omega,qt⟩,by dsimp only;omega,A6 h0⟩
 ·obtain rfl:j=ls.length:=by omega
  rw[List.take_length]at hm ⊢
  generalize y7 ls.flatten=q at *
  generalize T7 ls.flatten=lv at *
  repeat'((first|refine S2 ?_|(refine T6 ?_ ?_<;>intro h<;>try exact V1 h)|intro el nN nP|intro el nN|exact T4|refine T5 ?_ ?_|intro ex)<;>try conv=>whnf)
  all_goals first
   |(exfalso;omega)
   |skip
  obtain⟨q1,sO⟩:∃q1:Nat,q+1=(q1:Int):=⟨(q+1).toNat,by omega⟩
  rw[sO,Int.toNat_natCast]
  refine B2 (ι:=Nat) (fun c=>⟨[(3,.mp 0),(9,.row 1 0 (K6 lv 0 c).length),(41,.i q1),(42,.i c)],2,[(0,some (.map m)),(1,some (.row 58 2 0 ((K6 lv 0 c).map B5)))]⟩) (fun c=>c≤q1) (fun c=>q1-c) 0 (Nat.zero_le _)
   (C2 (K4 (d:=9) (e:=58) (sz:=2) rfl) (A8 h0 rfl ⟨rfl,rfl,(congrArg (fun z:Int=>some (AV.i z)) (by omega)),rfl,trivial⟩ ⟨rfl,⟨0,rfl⟩,trivial⟩ rfl rfl rfl)) (fun c hc=>?_)
  have qA:=AF lv c 0
  have oy:=JY lv c 0
  rw[Nat.zero_add]at oy
  have px:=hm.get c
  have us:=hm.keys
  generalize lv c=v at *
  have pX:c=q1→K6 lv 0 q1=K6 lv 0 c:=fun h=>by rw[h]
  generalize K6 lv 0 c=A at *
  repeat'((first|(refine J4 ?_ ?_;exact us)|refine RQ px ?_ |refine S2 ?_|(refine T6 ?_ ?_<;>intro h<;>try exact V1 h)|intro el nN nP|intro el nN|exact T4|refine T5 ?_ ?_|intro ex)<;>try conv=>whnf)
  all_goals first
   |(rw[if_pos (by assumption)]at oy;refine⟨c+1,by omega,by omega,?_⟩;rw[oy];exact A8 h0 rfl ⟨rfl,congrArg (fun z:Nat=>some (AV.row 1 0 z)) (by rw[List.length_append];rfl),rfl,rfl,trivial⟩ ⟨rfl,⟨_,congrArg (C9.row 58 2 _) (by rw[List.map_append];rfl)⟩,trivial⟩ rfl rfl rfl)
   |exact A0 rfl (congrArg (fun z:List Pk=>AV.sl 2 (z.map B5)) (pX (by omega)).symm)
   |(rw[if_neg (by assumption),List.append_nil]at oy;refine⟨c+1,by omega,by omega,?_⟩;rw[oy];exact A6 h0)
theorem bk{s:A4}{e:G0}(hr:C5 s=0)(hg:Dg s e):∀p∈Ff s e,0≤p.col∧p.col<s.cols.length:=by
 intro p hp
 obtain⟨_,_,_,h4,h5,_,_,_⟩:=hg.unu
 have ox:=hg.par
 unfold Gd at ox
 unfold Ff at hp
 rcases List.mem_append.1 hp with hp|hp
 rcases List.mem_append.1 hp with hp|hp
 ·obtain⟨d,hd,rfl⟩:=List.mem_map.1 hp
  have ry:e.op=10:=by
   rcases h5 with h|h
   ·exact h
   ·rw[List.eq_nil_of_length_eq_zero h]at hd;cases hd
  rw[if_neg (by omega),if_neg (by omega),if_neg (by omega),if_pos ry]at ox
  simp only[Bool.and_eq_true]at ox
  have pg:=of_decide_eq_true ox.1
  unfold L0 at pg
  split at pg
  ·cases pg
  ·obtain⟨i,hi,he⟩:=List.getElem_of_mem hd
   have:=N5 pg i d (by rw[List.getElem?_eq_getElem hi,he])
   unfold P9 at this
   split at this
   ·exact absurd this (by assumption)
   ·rename_i qE
    have qE:I4 s d=0:=Decidable.of_not_not qE
    unfold I4 l8 F0 at qE
    rw[if_pos hr]at qE
    by_cases hc:d.col<1∨(s.cols.length:Int)≤d.col
    ·rw[if_pos hc,if_pos (show (-1:Int)<0 by omega)]at qE;cases qE
    ·dsimp only[CE];omega
 ·unfold Au at hp
  split at hp
  ·split at hp
   ·rename_i h1 h2
    simp only[List.mem_singleton]at hp
    subst hp
    rcases hg.col (by simp only[Bo];omega)with h|h
    ·omega
    ·have:=CW h;exact⟨this.1,this.2.1⟩
   ·cases hp
  ·split at hp
   ·rename_i h1 h2
    simp only[List.mem_singleton]at hp
    subst hp
    rcases hg.col (by simp only[Bo];omega)with h|h
    ·omega
    ·have:=CW h;exact⟨this.1,this.2.1⟩
   ·cases hp
 ·obtain⟨c,hc,rfl⟩:=List.mem_map.1 hp
  have um:e.op=11:=by
   rcases h4 with h|h
   ·exact h
   ·rw[List.eq_nil_of_length_eq_zero h]at hc;cases hc
  rw[if_neg (by omega),if_neg (by omega),if_neg (by omega),if_neg (by omega),if_pos um]at ox
  simp only[Bool.and_eq_true]at ox
  have pg:=of_decide_eq_true ox.2
  unfold W2 at pg
  split at pg
  ·cases pg
  ·obtain⟨i,hi,he⟩:=List.getElem_of_mem hc
   have:=N5 pg i c (by rw[List.getElem?_eq_getElem hi,he])
   unfold V7 at this
   split at this
   ·cases this
   ·rename_i hb
    have:=CW (show P1 s c 3=true by simpa using hb)
    exact⟨this.1,this.2.1⟩
theorem bm{lv:Nat→Int}{n:Nat}:∀p∈K6 lv 0 n,0≤p.col∧p.col<n:=fun p hp=>by
 have:=Aq hp
 omega
theorem Ki{s:A4}{c:B1}:∀p∈L5 s c,0≤p.col∧p.col<s.cols.length:=fun p hp=>by
 unfold L5 at hp
 split at hp
 ·exact bm p hp
 ·cases hp
theorem UL{s:A4}{e:G0}:∀p∈y8 s e,0≤p.col∧p.col<s.cols.length:=fun p hp=>by
 rw[Kh]at hp
 exact bm p hp
theorem jA{s:A4}{e:G0}(hr:C5 s=0)(hg:Dg s e):∀p∈UI s e,0≤p.col∧p.col<s.cols.length:=by
 intro p hp
 unfold UI at hp
 rcases List.mem_append.1 hp with hp|hp
 rcases List.mem_append.1 hp with hp|hp
 rcases List.mem_append.1 hp with hp|hp
 ·exact bk hr hg p hp
 ·exact Ki p hp
 ·exact Ki p hp
 ·obtain⟨k,_,h⟩:=List.mem_flatMap.1 hp
  exact UL p h
theorem jB{s:A4}{e:G0}:(y8 s e).length≤s.cols.length:=by rw[Kh];exact AF _ _ _
abbrev u9(s:A4)(e:G0)(k:Nat):List (List Pk):=[Ff s e,L5 s e.cnd,L5 s e.evt]++(e.kids.take k).map (y8 s)
theorem Vj(s:A4)(hr:C5 s=0)(e:G0):AP s e=true→A3 Tryz.prog 60 [sA s,DC e] (.sl 2 ((y8 s e).map B5)):=by
 refine Kg (p:=fun e=>AP s e=true→A3 Tryz.prog 60 [sA s,DC e] (.sl 2 ((y8 s e).map B5))) (fun e ih hg=>?_) e
 have hg:=Qm hg
 obtain⟨_,_,ni⟩:=hg.lens
 have hn:=(F2 hr).2.1
 have nl:s.cols.length≤100000:=by omega
 have h1:=bf s hr e hg
 have h2:=GZ s e.cnd
 have h3:=GZ s e.evt
 have pK:=jA hr hg
 have sN:0<s.cols.length:=by
  obtain⟨_,_,_,_,h5⟩:=F2 hr
  cases hc:s.cols with
  |nil=>rw[hc]at h5;cases h5
  |cons a r=>exact Nat.succ_pos _
 have rQ:(Ff s e).length≤7:=by
  obtain⟨q1,q2,_⟩:=hg.lens
  unfold Ff
  rw[List.length_append,List.length_append,List.length_map,List.length_map]
  have:(Au s e).length≤1:=by
   unfold Au
   split
   ·split<;>simp
   ·split<;>simp
  omega
 have hmg:=ZD (u9 s e e.kids.length) (fun l hl=>by
  unfold u9 at hl
  rw[List.take_length]at hl
  simp only[List.cons_append,List.nil_append,List.mem_cons]at hl
  rcases hl with rfl|rfl|rfl|hl
  ·exact⟨by omega,fun p hp=>by have:=bk hr hg p hp;omega⟩
  ·exact⟨by have:=Ds s e.cnd;omega,fun p hp=>by have:=Ki p hp;omega⟩
  ·exact⟨by have:=Ds s e.evt;omega,fun p hp=>by have:=Ki p hp;omega⟩
  ·obtain⟨k,_,rfl⟩:=List.mem_map.1 hl
   exact⟨by have:=jB (s:=s) (e:=k);omega,fun p hp=>by have:=UL p hp;omega⟩)
 have pF:(u9 s e e.kids.length).flatten=UI s e:=by
  unfold u9 UI
  rw[List.take_length]
  simp[List.flatMap_def,List.append_assoc]
 rw[pF,lR sN pK,←Kh]at hmg
 generalize y8 s e=R at *
 rw[HA]at h1 ⊢
 refine C0 Tryz.func60 36 fun nQ E h0=>?_
 clear nQ
 repeat'((first|(refine G3 1 ?_;refine P5 (id:=1) (σ':=⟨[(2,.iptr (sL s)),(3,.iptr (Hw e))],2,[]⟩) (A6 h0) ?_;refine H4 (id:=1) ⟨[(2,.iptr (sL s)),(3,.iptr (Hw e)),(5,.row 2 0 3)],3,[(2,some (.row 33 1 0 ((u9 s e 0).map Jr)))]⟩ ?_ ?_)|(refine Cz ?_ ?_ ?_;kernel_rfl;kernel_rfl)|refine Y6 (T:=158) rfl ?_|refine A1 h1 ?_|refine A1 h2 ?_|refine A1 h3 ?_ |refine S2 ?_|(refine T6 ?_ ?_<;>intro h<;>try exact V1 h)|intro el nN nP|intro el nN|exact T4|refine T5 ?_ ?_|intro ex)<;>try conv=>whnf)
 all_goals first
  |exact A8 h0 rfl ⟨rfl,rfl,rfl,trivial⟩ ⟨⟨_,rfl⟩,trivial⟩ rfl rfl rfl
  |skip
 refine B2 (ι:=Nat) (fun k=>⟨[(2,.iptr (sL s)),(5,.row 2 0 (u9 s e k).length),(21,.sl 19 (e.kids.map DB)),(22,.i e.kids.length),(23,.i k)],3,[(2,some (.row 33 1 0 ((u9 s e k).map Jr)))]⟩) (fun k=>k≤e.kids.length) (fun k=>e.kids.length-k) 0 (Nat.zero_le _)
  (by exact A6 h0) (fun k hk=>?_)
 by_cases nR:k<e.kids.length
 ·obtain⟨x,hx⟩:∃x,e.kids[k]?=some x:=⟨_,List.getElem?_eq_getElem nR⟩
  have hq:=ih x (List.mem_of_getElem? hx) (hg.kid x (List.mem_of_getElem? hx)).2
  have nz:u9 s e (k+1)=u9 s e k++[y8 s x]:=by
   unfold u9
   rw[I3 hx,List.map_append,List.append_assoc];rfl
  have nZ:(u9 s e k).length≤5:=by
   unfold u9
   rw[List.length_append,List.length_map,List.length_take]
   simp only[List.length_cons,List.length_nil];omega
  generalize u9 s e k=A at *
  generalize y8 s x=B at *
  repeat'((first|(refine A2 (x:=x) hx (by omega) ?_)|refine A1 hq ?_ |refine S2 ?_|(refine T6 ?_ ?_<;>intro h<;>try exact V1 h)|intro el nN nP|intro el nN|exact T4|refine T5 ?_ ?_|intro ex)<;>try conv=>whnf)
  all_goals first
   |(exfalso;omega)
   |(refine⟨k+1,by omega,by omega,?_⟩;rw[nz];exact A8 h0 rfl ⟨rfl,congrArg (fun z:Nat=>some (AV.row 2 0 z)) (by rw[List.length_append];rfl),rfl,rfl,rfl,trivial⟩ ⟨⟨_,congrArg (C9.row 33 1 _) (by rw[List.map_append];rfl)⟩,trivial⟩ rfl rfl rfl)
 ·obtain rfl:k=e.kids.length:=by omega
  repeat'((first|refine I6 2 ?_|refine A1 hmg ?_ |refine S2 ?_|(refine T6 ?_ ?_<;>intro h<;>try exact V1 h)|intro el nN nP|intro el nN|exact T4|refine T5 ?_ ?_|intro ex)<;>try conv=>whnf)
  all_goals first
   |(exfalso;omega)
   |exact A0 rfl rfl
end Go.Proofs.YtjkbhaaobhgkdabGreatDoor
