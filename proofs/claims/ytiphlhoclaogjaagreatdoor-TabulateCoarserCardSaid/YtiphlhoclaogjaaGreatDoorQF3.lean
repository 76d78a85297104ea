/- Chapter 17: what expressions need, and their kinds, in plain terms. Chapter 17: what an expression needs, without its kids. Chapter 17: picks are merged; what a right expression needs. -/
import Derived.Test.YtiphlhoclaogjaaGreatDoorQQn0
import Derived.Test.YtiphlhoclaogjaaGreatDoorQC3
import Derived.Test.YtiphlhoclaogjaaGreatDoorQCm1
import Derived.Test.YtiphlhoclaogjaaGreatDoorQRg0
import Derived.Test.YtiphlhoclaogjaaGreatDoorQTa5
import Derived.Test.YtiphlhoclaogjaaGreatDoorQCd1
import Derived.Test.YtiphlhoclaogjaaGreatDoorQCm2
import Derived.Test.YtiphlhoclaogjaaGreatDoorQCf1
set_option linter.unusedVariables false
set_option linter.unnecessarySimpa false
set_option linter.unusedSimpArgs false
set_option maxHeartbeats 64000000
namespace Go.Proofs.YtiphlhoclaogjaaGreatDoor
open Go Go.Av
attribute [local irreducible] C7 B1 D1 C8 DQ D0 C6 St.le A3 B8
set_option maxRecDepth 100000
def U9(l:List Pk)(i:Nat):Int:=l.foldl (fun (m:Int) (p:Pk)=>if p.col=(i:Int)then max m p.lev else m) 0
theorem jI:U9 []=fun _=>0:=rfl
theorem fM(l:List Pk)(p:Pk):U9 (l++[p])=upd (U9 l) p.col p.lev:=by
 funext i
 unfold U9 upd
 rw[List.foldl_append]
 rfl
theorem UG(i:Nat):∀(l:List Pk) (m:Int),0≤m→l.foldl (fun (m:Int) (p:Pk)=>if p.col=(i:Int)then max m p.lev else m) m=max m (U9 l i):=by
 intro l
 induction l with
 |nil=>intro m h;unfold U9;simp only[List.foldl_nil];omega
 |cons p r ih =>
  intro m h
  unfold U9
  rw[List.foldl_cons,List.foldl_cons]
  split
  ·rw[ih _ (by omega),ih _ (by omega)];omega
  ·rw[ih _ h,ih 0 (Int.le_refl _)];omega
theorem lg(l:List Pk)(i:Nat):0≤U9 l i:=by
 have:=UG i l 0 (Int.le_refl _)
 have h:U9 l i=l.foldl (fun (m:Int) (p:Pk)=>if p.col=(i:Int)then max m p.lev else m) 0:=rfl
 omega
theorem Wu(a b:List Pk)(i:Nat):U9 (a++b) i=max (U9 a i) (U9 b i):=by
 have h:U9 (a++b) i=b.foldl (fun (m:Int) (p:Pk)=>if p.col=(i:Int)then max m p.lev else m) (U9 a i):=by
  unfold U9;rw[List.foldl_append]
 rw[h,UG i b _ (lg a i)]
theorem Wv(p:Pk)(i:Nat):U9 [p] i=if p.col=(i:Int)then max 0 p.lev else 0:=rfl
def w7(l:List Pk):Int:=l.foldl (fun (m:Int) (p:Pk)=>max m p.col) 0
theorem ZF(l:List Pk)(p:Pk):w7 (l++[p])=max (w7 l) p.col:=by unfold w7;rw[List.foldl_append];rfl
theorem ZG:∀(l:List Pk) (m:Int),m≤l.foldl (fun (m:Int) (p:Pk)=>max m p.col) m∧∀p∈l,p.col≤l.foldl (fun (m:Int) (p:Pk)=>max m p.col) m:=by
 intro l
 induction l with
 |nil=>intro m;exact⟨Int.le_refl _,fun p h=>by cases h⟩
 |cons p r ih =>
  intro m
  rw[List.foldl_cons]
  obtain⟨h1,h2⟩:=ih (max m p.col)
  refine⟨by omega,fun q hq=>?_⟩
  rcases List.mem_cons.1 hq with rfl|hq
  ·omega
  ·exact h2 q hq
theorem UH{l:List Pk}:0≤w7 l∧∀p∈l,p.col≤w7 l:=ZG l 0
theorem MG{n:Int}(hn:0<n):∀{l:List Pk},(∀p∈l,p.col<n)→w7 l<n:=by
 have key:∀(l:List Pk) (m:Int),m<n→(∀p∈l,p.col<n)→l.foldl (fun (m:Int) (p:Pk)=>max m p.col) m<n:=by
  intro l
  induction l with
  |nil=>intro m h _;exact h
  |cons p r ih =>
   intro m h hl
   rw[List.foldl_cons]
   exact ih _ (by have:=hl p (by simp);omega) fun q hq=>hl q (by simp[hq])
 exact fun {l} h=>key l 0 hn h
theorem fN{l:List Pk}{i:Nat}(h:∀p∈l,p.col≠(i:Int)):U9 l i=0:=by
 induction l with
 |nil=>rfl
 |cons p r ih =>
  have e:U9 (p::r) i=max (U9 [p] i) (U9 r i):=Wu [p] r i
  rw[e,Wv,if_neg (h p (by simp)),ih fun q hq=>h q (by simp[hq])];rfl
theorem UI(lv:Nat→Int):∀(n m lo:Nat),n≤m→(∀i,lo+n≤i→lv i=0)→K8 lv lo m=K8 lv lo n
 |0,m,lo,_,h=>by
  induction m generalizing lo with
  |zero=>rfl
  |succ m ih =>
   rw[d0,if_neg (by rw[h lo (by omega)];omega),ih (lo+1) (by omega) fun i hi=>h i (by omega)]
   rfl
 |n+1,0,lo,hn,_=>by omega
 |n+1,m+1,lo,hn,h=>by
  rw[d0,d0,UI lv n m (lo+1) (by omega) fun i hi=>h i (by omega)]
def ZH(l:List Pk):List Pk:=K8 (U9 l) 0 (w7 l+1).toNat
theorem lh{l:List Pk}{n:Nat}(hn:0<n)(h:∀p∈l,0≤p.col∧p.col<n):ZH l=K8 (U9 l) 0 n:=by
 have h1:=MG (n:=n) (l:=l) (by omega) fun p hp=>(h p hp).2
 have h2:=UH (l:=l)
 unfold ZH
 rw[UI (U9 l) (w7 l+1).toNat n 0 (by omega) fun i hi=>fN fun p hp=>by have:=h2.2 p hp;omega]
abbrev Cs(s:A4)(c:Int):Pk:=⟨c,I1 s c (A8 s c)⟩
abbrev Bk(s:A4)(d:Pk):Pk:=⟨d.col,I1 s d.col d.lev⟩
def FQ(ws:List Int)(pY:Int):Int:=if 0≤F3 (fun x=>decide (x=pY)) ws 0 then ws.length-F3 (fun x=>decide (x=pY)) ws 0 else 0
def AZ(s:A4)(e:G2):List Pk :=
 if e.op=4∨e.op=5∨e.op=10∨e.op=11∨e.op=12∨e.op=14 then (if 0<e.col then [Cs s e.col]else [])
 else if e.op=13 then [⟨e.col,I1 s e.col (FQ (B4 s e.col).widths e.num)⟩]else []
def FR(s:A4)(e:G2):List Pk:=e.dims.map (Bk s)++AZ s e++e.cols.map (Cs s)
mutual
def w8(s:A4):G2→List Pk
 |.mk o n nm c cs ds cd ev ks=>K8 (U9 (FR s (.mk o n nm c cs ds cd ev ks)++L3 s cd++L3 s ev++ZI s ks)) 0 s.cols.length
def ZI(s:A4):List G2→List Pk
 |[]=>[]
 |x::r=>w8 s x++ZI s r
end
theorem Ww(s:A4):∀l,ZI s l=l.flatMap (w8 s)
 |[]=>rfl
 |x::r=>by rw[ZI,Ww s r];rfl
abbrev UJ(s:A4)(e:G2):List Pk:=FR s e++L3 s e.cnd++L3 s e.evt++e.kids.flatMap (w8 s)
theorem KT(s:A4)(e:G2):w8 s e=K8 (U9 (UJ s e)) 0 s.cols.length:=by
 cases e
 rw[w8,Ww];rfl
def Bl(s:A4)(e:G2):List Pk:=if Hx s e=true then w8 s e else []
structure Wx where
 name:List UInt8
 kind:Int
def gT(nm:List UInt8):List Wx→Int×Int→Int×Int
 |[],z=>z
 |b::r,z=>gT nm r (if b.name=nm then (b.kind,0)else z)
def li(before:List Wx)(nm:List UInt8):Int×Int:=gT nm before (0,24)
def nI(before:List Wx)(e:G2)(numbers:Bool):Int×Int :=
 if e.op=2 then li before e.name else if numbers=false then (0,16)else if PG e.op then (1,0)else (e.op-8,0)
mutual
def UK(before:List Wx):G2→Int×Int
 |.mk o n nm c cs ds cd ev ks=>if (ZJ before ks true).1=0 then nI before (.mk o n nm c cs ds cd ev ks) (ZJ before ks true).2 else (0,(ZJ before ks true).1)
def ZJ(before:List Wx):List G2→Bool→Int×Bool
 |[],b=>(0,b)
 |x::r,b=>if (UK before x).2=0 then ZJ before r (b && decide ((UK before x).1=1))else ((UK before x).2,b)
end
theorem cB(s:A4)(pm:List Pk)(c:Int)(hl:pm.length≤100000):B8 Tryz.prog 212 2 [(0,some (.box [.row 1 0 pm.length])),(1,some (.row 81 2 0 (pm.map B6)))] [.i c,.ref 0 0,.iptr (sL s)] 2 [(0,some (.box [.row 1 0 (pm.length+1)])),(1,some (.row 81 2 0 ((pm++[Cs s c]).map B6)))] (.tup []):=by
 have h1:=Cb s c
 have h2:=NX s c (A8 s c)
 refine a8 Tryz.func212 15 fun E h0=>?_
 repeat'((first|refine A1 h1 ?_|refine A1 h2 ?_|(refine G9 0 ?_;refine H9 (id:=0) ⟨[],2,[(0,some (.box [.row 1 0 (pm.length+1)])),(1,some (.row 81 2 0 ((pm++[Cs s c]).map B6)))]⟩ ?_ ?_) |refine S2 ?_|(refine T6 ?_ ?_<;>intro h<;>try exact V1 h)|intro el nX nY|intro el nX|exact T4|refine T5 ?_ ?_|intro ex)<;>try conv=>whnf)
 all_goals first
  |exact B3 h0 rfl trivial ⟨rfl,⟨_,congrArg (D3.row 81 2 _) (by rw[List.map_append];rfl)⟩,trivial⟩ rfl rfl rfl
  |(delta C6;exact .inl ⟨[],[],rfl,trivial,rfl,rfl,A6 h0,rfl⟩)
theorem UL(s:A4)(col pY:Int){c:D6}(zJ:0≤col)(hc:s.cols[col.toNat]?=some c):A3 Tryz.prog 214 [sA s,.i col,.i pY] (.i (FQ (B4 s col).widths pY)):=by
 rw[C0 hc]
 unfold FQ
 refine C1 Tryz.func214 31 fun nd E h0=>?_
 have nZ:c.widths.length≤9223372036854775807:=by
  have:=((((nd (sA s) (by simp)).agg (.sl 7 (s.cols.map Z6)) (by simp))).elem (Z6 c) (List.mem_map.2 ⟨c,List.mem_of_getElem? hc,rfl⟩) (.sl 1 (c.widths.map wA)) (by simp)).sl
  simpa using this
 clear nd
 repeat'((first|(refine A2 (x:=c) hc (by omega) ?_) |refine S2 ?_|(refine T6 ?_ ?_<;>intro h<;>try exact V1 h)|intro el nX nY|intro el nX|exact T4|refine T5 ?_ ?_|intro ex)<;>try conv=>whnf)
 refine B2 (ι:=Nat) (fun k=>⟨[(2,.i pY),(7,.sl 1 (c.widths.map wA)),(16,.sl 1 (c.widths.map wA)),(17,.i c.widths.length),(18,.i k)],1,[]⟩) (fun k=>k≤c.widths.length∧F3 (fun x=>decide (x=pY)) c.widths 0=F3 (fun x=>decide (x=pY)) (c.widths.drop k) k) (fun k=>c.widths.length-k) 0 ⟨Nat.zero_le _,rfl⟩
  (A6 h0) (fun k hI=>?_)
 obtain⟨hk,hI⟩:=hI
 repeat'((first|refine S2 ?_|(refine T6 ?_ ?_<;>intro h<;>try exact V1 h)|intro el nX nY|intro el nX|exact T4|refine T5 ?_ ?_|intro ex)<;>try conv=>whnf)
 all_goals first
  |exact⟨k+1,⟨by omega,by rw[hI,H1 nX,F3,if_neg (by rw[decide_eq_true_iff];omega)];rfl⟩,by omega,A6 h0⟩
  |(have e1:F3 (fun x=>decide (x=pY)) c.widths 0=k:=by rw[hI,H1 nX,F3,if_pos (by rw[decide_eq_true_iff];omega)]
    exact A0 rfl (congrArg AV.i (by rw[e1,if_pos (by omega)])))
  |(have e1:F3 (fun x=>decide (x=pY)) c.widths 0=-1:=by rw[hI,show k=c.widths.length by omega,List.drop_length];rfl
    exact A0 rfl (congrArg AV.i (by rw[e1,if_neg (by omega)])))
theorem cC(s:A4)(hr:C5 s=0)(e:G2)(hg:DT s e):A3 Tryz.prog 163 [sA s,Cp e] (.sl 2 ((FR s e).map B6)):=by
 obtain⟨vG,vY,_⟩:=hg.lens
 have tM:=hg.col
 have qZ:=hg.op
 have xC:=fun c l=>NX s c l
 have qR:∀h:e.op=13,A3 Tryz.prog 214 [sA s,.i e.col,.i e.num] (.i (FQ (B4 s e.col).widths e.num)):=fun h=>by
  rcases tM (by simp only[BU];omega)with h'|h'
  ·omega
  ·obtain⟨zJ,_,c,hc,_⟩:=Aq h'
   exact UL s e.col e.num zJ hc
 have how:=cB s
 rw[Gp]
 refine C1 Tryz.func163 78 fun nd E h0=>?_
 clear nd
 repeat'((first|(refine J9 0 ?_;refine DI ?_;(conv=>whnf);refine Li rfl rfl ?_) |refine S2 ?_|(refine T6 ?_ ?_<;>intro h<;>try exact V1 h)|intro el nX nY|intro el nX|exact T4|refine T5 ?_ ?_|intro ex)<;>try conv=>whnf)
 refine B2 (ι:=Nat) (fun k=>⟨[(2,.iptr (sL s)),(3,.ref 1 0),(5,.ref 2 0),(6,.fo 212 [.ref 2 0,.iptr (sL s)]),(13,.sl 2 (e.dims.map B6)),(14,.i e.dims.length),(15,.i k)],4,[(1,some (.box (Hu e))),(2,some (.box [.row 3 0 ((e.dims.take k).map (Bk s)).length])),(3,some (.row 81 2 0 (((e.dims.take k).map (Bk s)).map B6)))]⟩) (fun k=>k≤e.dims.length) (fun k=>e.dims.length-k) 0 (Nat.zero_le _)
  (C2 (Ja 2 0 (e:=81) (sz:=2) rfl rfl) (B3 h0 rfl ⟨rfl,rfl,rfl,rfl,rfl,rfl,rfl,trivial⟩ ⟨rfl,rfl,⟨0,rfl⟩,trivial⟩ rfl rfl rfl)) (fun k hk=>?_)
 have no:((e.dims.take k).map (Bk s)).length≤3:=by rw[List.length_map,List.length_take];omega
 by_cases nf:k<e.dims.length
 ·obtain⟨d,hd⟩:∃d,e.dims[k]?=some d:=⟨_,List.getElem?_eq_getElem nf⟩
  have oH:(e.dims.take (k+1)).map (Bk s)=(e.dims.take k).map (Bk s)++[Bk s d]:=by rw[I0 hd,List.map_append];rfl
  have pH:=xC d.col d.lev
  generalize (e.dims.take k).map (Bk s)=A at no oH ⊢
  repeat'((first|(refine A2 (x:=d) hd (by omega) ?_)|refine A1 pH ?_|(refine G9 6 ?_;refine S9 (id:=6) (σ':=⟨[(2,.iptr (sL s)),(3,.ref 1 0),(5,.ref 2 0),(6,.fo 212 [.ref 2 0,.iptr (sL s)]),(8,.iptr (B6 d)),(13,.sl 2 (e.dims.map B6)),(14,.i e.dims.length),(15,.i k)],4,[(1,some (.box (Hu e))),(2,some (.box [.row 3 0 A.length])),(3,some (.row 81 2 0 (A.map B6)))]⟩) (A6 h0) ?_;refine H9 (id:=6) ⟨[(2,.iptr (sL s)),(3,.ref 1 0),(5,.ref 2 0),(6,.fo 212 [.ref 2 0,.iptr (sL s)]),(13,.sl 2 (e.dims.map B6)),(14,.i e.dims.length),(15,.i k)],4,[(1,some (.box (Hu e))),(2,some (.box [.row 3 0 (A.length+1)])),(3,some (.row 81 2 0 ((A++[Bk s d]).map B6)))]⟩ ?_ ?_) |refine S2 ?_|(refine T6 ?_ ?_<;>intro h<;>try exact V1 h)|intro el nX nY|intro el nX|exact T4|refine T5 ?_ ?_|intro ex)<;>try conv=>whnf)
  all_goals first
   |exact B3 h0 rfl ⟨rfl,rfl,rfl,rfl,rfl,rfl,rfl,trivial⟩ ⟨rfl,rfl,⟨_,congrArg (D3.row 81 2 _) (by rw[List.map_append];rfl)⟩,trivial⟩ rfl rfl rfl
   |(refine⟨k+1,by omega,by omega,?_⟩;rw[oH];exact B3 h0 rfl ⟨rfl,rfl,rfl,rfl,rfl,rfl,rfl,trivial⟩ ⟨rfl,congrArg (fun z=>D3.box [.row 3 0 z]) (by rw[List.length_append];rfl),⟨_,rfl⟩,trivial⟩ rfl rfl rfl)
 ·obtain rfl:k=e.dims.length:=by omega
  rw[List.take_length]
  have rp:(AZ s e).length≤1:=by
   unfold AZ
   split
   ·split<;>simp
   ·split<;>simp
  have vA:∀A,A=e.dims.map (Bk s)→FR s e=A++AZ s e++e.cols.map (Cs s):=fun A h=>by rw[h];rfl
  have hM1:(e.op=4∨e.op=5∨e.op=10∨e.op=11∨e.op=12∨e.op=14)→0<e.col→AZ s e=[Cs s e.col]:=fun h1 h2=>by unfold AZ;rw[if_pos h1,if_pos h2]
  have hM2:(e.op=4∨e.op=5∨e.op=10∨e.op=11∨e.op=12∨e.op=14)→¬0<e.col→AZ s e=[]:=fun h1 h2=>by unfold AZ;rw[if_pos h1,if_neg h2]
  have hM3:e.op=13→AZ s e=[⟨e.col,I1 s e.col (FQ (B4 s e.col).widths e.num)⟩]:=fun h1=>by unfold AZ;rw[if_neg (by omega),if_pos h1]
  have hM4:¬(e.op=4∨e.op=5∨e.op=10∨e.op=11∨e.op=12∨e.op=14)→¬e.op=13→AZ s e=[]:=fun h1 h2=>by unfold AZ;rw[if_neg h1,if_neg h2]
  have no:(e.dims.map (Bk s)).length≤3:=by rw[List.length_map];exact vG
  generalize hA:e.dims.map (Bk s)=A at no ⊢
  rw[vA A hA.symm]
  clear no vA
  have hAl:A.length≤3:=by rw[←hA,List.length_map];exact vG
  generalize AZ s e=M at *
  have c1:=how A e.col (by omega)
  have c2:=xC e.col (FQ (B4 s e.col).widths e.num)
  repeat'((first|refine⟨WK [2,3] [0,0] c1 rfl rfl rfl rfl rfl rfl ⟨rfl,rfl,trivial⟩ rfl rfl rfl rfl rfl ?_⟩|(refine A1 (qR (by assumption)) ?_)|refine A1 c2 ?_|(refine G9 18 ?_;refine S9 (id:=18) (σ':=⟨[(2,.iptr (sL s)),(3,.iptr (Hu e)),(5,.ref 2 0),(6,.fo 212 [.ref 2 0,.iptr (sL s)])],4,[(2,some (.box [.row 3 0 A.length])),(3,some (.row 81 2 0 (A.map B6)))]⟩) (A6 h0) ?_;refine H9 (id:=18) ⟨[(2,.iptr (sL s)),(3,.iptr (Hu e)),(5,.ref 2 0),(6,.fo 212 [.ref 2 0,.iptr (sL s)])],4,[(2,some (.box [.row 3 0 (A.length+1)])),(3,some (.row 81 2 0 ((A++[(⟨e.col,I1 s e.col (FQ (B4 s e.col).widths e.num)⟩:Pk)]).map B6)))]⟩ ?_ ?_) |refine S2 ?_|(refine T6 ?_ ?_<;>intro h<;>try exact V1 h)|intro el nX nY|intro el nX|exact T4|refine T5 ?_ ?_|intro ex)<;>try conv=>whnf)
  all_goals first
   |exact B3 h0 rfl ⟨rfl,rfl,rfl,rfl,trivial⟩ ⟨rfl,⟨_,congrArg (D3.row 81 2 _) (by rw[List.map_append];rfl)⟩,trivial⟩ rfl rfl rfl
   |skip
  all_goals
   first
    |(have hM:=hM1 (by omega) (by assumption))
    |(have hM:=hM2 (by omega) (by assumption))
    |(have hM:=hM3 (by assumption))
    |(have hM:=hM4 (by omega) (by assumption))
   clear hM1 hM2 hM3 hM4
   refine B2 (ι:=Nat) (fun k=>⟨[(5,.ref 2 0),(6,.fo 212 [.ref 2 0,.iptr (sL s)]),(67,.sl 1 (e.cols.map wA)),(68,.i e.cols.length),(69,.i k)],4,[(2,some (.box [.row 3 0 (A++M++(e.cols.take k).map (Cs s)).length])),(3,some (.row 81 2 0 ((A++M++(e.cols.take k).map (Cs s)).map B6)))]⟩) (fun k=>k≤e.cols.length) (fun k=>e.cols.length-k) 0 (Nat.zero_le _)
    (B3 h0 rfl ⟨rfl,rfl,rfl,rfl,rfl,trivial⟩ ⟨congrArg (fun z=>D3.box [.row 3 0 z]) (by rw[hM];simp),⟨_,congrArg (D3.row 81 2 _) (by rw[hM];simp)⟩,trivial⟩ rfl rfl rfl) (fun k hk=>?_)
   have hBl:(A++M++(e.cols.take k).map (Cs s)).length≤7:=by rw[List.length_append,List.length_append,List.length_map,List.length_take];omega
   by_cases nf:k<e.cols.length
   ·obtain⟨c,hc⟩:∃c,e.cols[k]?=some c:=⟨_,List.getElem?_eq_getElem nf⟩
    have oH:A++M++(e.cols.take (k+1)).map (Cs s)=A++M++(e.cols.take k).map (Cs s)++[Cs s c]:=by rw[I0 hc,List.map_append,List.append_assoc (A++M)];rfl
    generalize A++M++(e.cols.take k).map (Cs s)=B at hBl oH ⊢
    have c3:=how B c (by omega)
    repeat'((first|(refine A2 (x:=c) hc (by omega) ?_)|refine⟨WK [2,3] [0,0] c3 rfl rfl rfl rfl rfl rfl ⟨rfl,rfl,trivial⟩ rfl rfl rfl rfl rfl ?_⟩ |refine S2 ?_|(refine T6 ?_ ?_<;>intro h<;>try exact V1 h)|intro el nX nY|intro el nX|exact T4|refine T5 ?_ ?_|intro ex)<;>try conv=>whnf)
    all_goals first
     |(exfalso;omega)
     |(refine⟨k+1,by omega,by omega,?_⟩;rw[oH];exact B3 h0 rfl ⟨rfl,rfl,rfl,rfl,rfl,trivial⟩ ⟨congrArg (fun z=>D3.box [.row 3 0 z]) (by rw[List.length_append];rfl),⟨_,rfl⟩,trivial⟩ rfl rfl rfl)
   ·obtain rfl:k=e.cols.length:=by omega
    rw[List.take_length]
    repeat'((first|refine S2 ?_|(refine T6 ?_ ?_<;>intro h<;>try exact V1 h)|intro el nX nY|intro el nX|exact T4|refine T5 ?_ ?_|intro ex)<;>try conv=>whnf)
    all_goals first
     |(exfalso;omega)
     |exact A0 rfl rfl
abbrev Jl(p:List Pk):List AV:=[.sl 2 (p.map B6)]
structure Ft(m:List (Key×AV))(lv:Nat→Int):Prop where
 keys:r8 (.int .i64) m
 get:∀c:Nat,u6 m (.i .i64 c) (d9 (.int .i64 0))=.i (lv c)
theorem cD:Ft [] fun _=>0:=⟨fun p hp=>(by cases hp),fun c=>rfl⟩
theorem Ft.step{m:List (Key×AV)}{lv:Nat→Int}(h:Ft m lv){p:Pk}(hp:0≤p.col):Ft (b8 m (.i .i64 p.col) (.i (max (lv p.col.toNat) p.lev))) (upd lv p.col p.lev):=by
 refine⟨JQ (by rfl) h.keys,fun c=>?_⟩
 unfold u6 upd
 rw[QJ]
 by_cases e:p.col=(c:Int)
 ·rw[if_pos (by rw[e]),if_pos e,e,Int.toNat_natCast]
 ·rw[if_neg (fun hh=>e (by injection hh)),if_neg e]
  exact h.get c
theorem Ft.geti{m:List (Key×AV)}{lv:Nat→Int}(h:Ft m lv){c:Int}(hc:0≤c):u6 m (.i .i64 c) (d9 (.int .i64 0))=.i (lv c.toNat):=by
 have:=h.get c.toNat
 rwa[show ((c.toNat:Nat):Int)=c by omega]at this
theorem cE{α:Type}{ls:List (List α)}{j k:Nat}{l:List α}{x:α}(hl:ls[j]?=some l)(hx:l[k]?=some x):(ls.take j).flatten++l.take (k+1)=(ls.take j).flatten++l.take k++[x]:=by
 rw[I0 hx,List.append_assoc]
theorem cF{α:Type}{ls:List (List α)}{j:Nat}{l:List α}(hl:ls[j]?=some l):(ls.take (j+1)).flatten=(ls.take j).flatten++l:=by
 rw[I0 hl,List.flatten_append];simp
theorem ZK(ls:List (List Pk))(hp:∀l∈ls,l.length≤100000∧∀p∈l,0≤p.col∧p.col<1000):A3 Tryz.prog 164 [.sl 1 (ls.map Jl)] (.sl 2 ((ZH ls.flatten).map B6)):=by
 have pR:∀p∈ls.flatten,0≤p.col∧p.col<1000:=fun p hm=>by
  obtain⟨l,h1,h2⟩:=List.mem_flatten.1 hm
  exact(hp l h1).2 p h2
 have hla:=MG (n:=1000) (l:=ls.flatten) (by omega) fun p hm=>(pR p hm).2
 have uO:=(UH (l:=ls.flatten)).1
 unfold ZH
 refine C1 Tryz.func164 59 fun nd E h0=>?_
 have nZ:ls.length≤9223372036854775807:=by
  have:=(nd (.sl 1 (ls.map Jl)) (by simp)).sl
  simpa using this
 clear nd
 repeat'((first|refine S2 ?_|(refine T6 ?_ ?_<;>intro h<;>try exact V1 h)|intro el nX nY|intro el nX|exact T4|refine T5 ?_ ?_|intro ex)<;>try conv=>whnf)
 refine B2 (ι:=Nat×List (Key×AV)) (fun x=>⟨[(3,.mp 0),(4,.i (w7 (ls.take x.1).flatten)),(12,.sl 1 (ls.map Jl)),(13,.i ls.length),(14,.i x.1)],1,[(0,some (.map x.2))]⟩) (fun x=>x.1≤ls.length∧Ft x.2 (U9 (ls.take x.1).flatten)) (fun x=>ls.length-x.1) (0,[]) ⟨Nat.zero_le _,cD⟩
  (A6 h0) (fun x hI=>?_)
 obtain⟨j,m⟩:=x
 obtain⟨hj,hm⟩:=hI
 dsimp only at hj hm ⊢
 by_cases nf:j<ls.length
 ·obtain⟨l,hl⟩:∃l,ls[j]?=some l:=⟨_,List.getElem?_eq_getElem nf⟩
  obtain⟨sO,wF⟩:=hp l (List.mem_of_getElem? hl)
  have hfn:=cF hl
  have htf:=fun (k:Nat) (p:Pk) (h:l[k]?=some p)=>cE (k:=k) hl h
  have rq:w7 (ls.take j).flatten<1000:=MG (by omega) fun p h=>by
   refine(pR p ?_).2
   obtain⟨l',h1,h2⟩:=List.mem_flatten.1 h
   exact List.mem_flatten.2 ⟨l',List.mem_of_mem_take h1,h2⟩
  generalize (ls.take j).flatten=D at *
  repeat'((first|(refine A2 (x:=l) hl (by omega) ?_) |refine S2 ?_|(refine T6 ?_ ?_<;>intro h<;>try exact V1 h)|intro el nX nY|intro el nX|exact T4|refine T5 ?_ ?_|intro ex)<;>try conv=>whnf)
  all_goals first
   |(exfalso;omega)
   |skip
  refine B2 (ι:=Nat×List (Key×AV)) (fun x=>⟨[(3,.mp 0),(4,.i (w7 (D++l.take x.1))),(12,.sl 1 (ls.map Jl)),(13,.i ls.length),(14,.i j),(18,.sl 2 (l.map B6)),(19,.i l.length),(20,.i x.1)],1,[(0,some (.map x.2))]⟩) (fun x=>x.1≤l.length∧Ft x.2 (U9 (D++l.take x.1))) (fun x=>l.length-x.1) (0,m) ⟨Nat.zero_le _,by dsimp only;rw[List.take_zero,List.append_nil];exact hm⟩
   (B3 h0 rfl ⟨rfl,(by rw[List.take_zero,List.append_nil];rfl),rfl,rfl,rfl,rfl,rfl,rfl,trivial⟩ ⟨rfl,trivial⟩ rfl rfl rfl) (fun x hI=>?_)
  obtain⟨k,m2⟩:=x
  obtain⟨hk,qj⟩:=hI
  dsimp only at hk qj ⊢
  by_cases no:k<l.length
  ·obtain⟨p,qh⟩:∃p,l[k]?=some p:=⟨_,List.getElem?_eq_getElem no⟩
   have wn:=wF p (List.mem_of_getElem? qh)
   have oP:=qj.step wn.1
   have qL:=qj.geti wn.1
   have un:=qj.keys
   have oH:=htf k p qh
   have oM:w7 (D++l.take (k+1))=max (w7 (D++l.take k)) p.col:=by rw[oH,ZF]
   have pT:U9 (D++l.take (k+1))=upd (U9 (D++l.take k)) p.col p.lev:=by rw[oH,fM]
   rw[←pT]at oP
   generalize U9 (D++l.take k) p.col.toNat=v at *
   generalize w7 (D++l.take k)=q at *
   repeat'((first|(refine A2 (x:=p) qh (by omega) ?_)|(refine J0 ?_ ?_;exact un)|refine RQ qL ?_|(refine G9 8 ?_;refine S9 (id:=8) (σ':=⟨[(3,.mp 0),(4,.i q),(8,.iptr (B6 p)),(12,.sl 1 (ls.map Jl)),(13,.i ls.length),(14,.i j),(18,.sl 2 (l.map B6)),(19,.i l.length),(20,.i k)],1,[(0,some (.map m2))]⟩) (A6 h0) ?_;refine H9 (id:=8) ⟨[(3,.mp 0),(4,.i (max q p.col)),(12,.sl 1 (ls.map Jl)),(13,.i ls.length),(14,.i j),(18,.sl 2 (l.map B6)),(19,.i l.length),(20,.i k)],1,[(0,some (.map (b8 m2 (.i .i64 p.col) (.i (max v p.lev)))))]⟩ ?_ ?_) |refine S2 ?_|(refine T6 ?_ ?_<;>intro h<;>try exact V1 h)|intro el nX nY|intro el nX|exact T4|refine T5 ?_ ?_|intro ex)<;>try conv=>whnf)
   all_goals first
    |exact A6 h0
    |exact⟨(k+1,b8 m2 (.i .i64 p.col) (.i (max v p.lev))),⟨by dsimp only;omega,oP⟩,by dsimp only;omega,B3 h0 rfl ⟨rfl,(congrArg (fun z:Int=>some (AV.i z)) oM.symm),rfl,rfl,rfl,rfl,rfl,rfl,trivial⟩ ⟨rfl,trivial⟩ rfl rfl rfl⟩
    |(exfalso;omega)
  ·obtain rfl:k=l.length:=by omega
   rw[List.take_length,←hfn]at *
   repeat'((first|refine S2 ?_|(refine T6 ?_ ?_<;>intro h<;>try exact V1 h)|intro el nX nY|intro el nX|exact T4|refine T5 ?_ ?_|intro ex)<;>try conv=>whnf)
   all_goals first
    |(exfalso;omega)
    |exact⟨(j+1,m2),⟨by dsimp only;omega,qj⟩,by dsimp only;omega,A6 h0⟩
 ·obtain rfl:j=ls.length:=by omega
  rw[List.take_length]at hm ⊢
  generalize w7 ls.flatten=q at *
  generalize U9 ls.flatten=lv at *
  repeat'((first|refine S2 ?_|(refine T6 ?_ ?_<;>intro h<;>try exact V1 h)|intro el nX nY|intro el nX|exact T4|refine T5 ?_ ?_|intro ex)<;>try conv=>whnf)
  all_goals first
   |(exfalso;omega)
   |skip
  obtain⟨q1,sn⟩:∃q1:Nat,q+1=(q1:Int):=⟨(q+1).toNat,by omega⟩
  rw[sn,Int.toNat_natCast]
  refine B2 (ι:=Nat) (fun c=>⟨[(3,.mp 0),(9,.row 1 0 (K8 lv 0 c).length),(41,.i q1),(42,.i c)],2,[(0,some (.map m)),(1,some (.row 81 2 0 ((K8 lv 0 c).map B6)))]⟩) (fun c=>c≤q1) (fun c=>q1-c) 0 (Nat.zero_le _)
   (C2 (K7 (d:=9) (e:=81) (sz:=2) rfl) (B3 h0 rfl ⟨rfl,rfl,(congrArg (fun z:Int=>some (AV.i z)) (by omega)),rfl,trivial⟩ ⟨rfl,⟨0,rfl⟩,trivial⟩ rfl rfl rfl)) (fun c hc=>?_)
  have qI:=y6 lv c 0
  have oe:=JS lv c 0
  rw[Nat.zero_add]at oe
  have qL:=hm.get c
  have un:=hm.keys
  generalize lv c=v at *
  have ph:c=q1→K8 lv 0 q1=K8 lv 0 c:=fun h=>by rw[h]
  generalize K8 lv 0 c=A at *
  repeat'((first|(refine J0 ?_ ?_;exact un)|refine RQ qL ?_ |refine S2 ?_|(refine T6 ?_ ?_<;>intro h<;>try exact V1 h)|intro el nX nY|intro el nX|exact T4|refine T5 ?_ ?_|intro ex)<;>try conv=>whnf)
  all_goals first
   |(rw[if_pos (by assumption)]at oe;refine⟨c+1,by omega,by omega,?_⟩;rw[oe];exact B3 h0 rfl ⟨rfl,congrArg (fun z:Nat=>some (AV.row 1 0 z)) (by rw[List.length_append];rfl),rfl,rfl,trivial⟩ ⟨rfl,⟨_,congrArg (D3.row 81 2 _) (by rw[List.map_append];rfl)⟩,trivial⟩ rfl rfl rfl)
   |exact A0 rfl (congrArg (fun z:List Pk=>AV.sl 2 (z.map B6)) (ph (by omega)).symm)
   |(rw[if_neg (by assumption),List.append_nil]at oe;refine⟨c+1,by omega,by omega,?_⟩;rw[oe];exact A6 h0)
theorem cG{s:A4}{e:G2}(hr:C5 s=0)(hg:DT s e):∀p∈FR s e,0≤p.col∧p.col<s.cols.length:=by
 intro p hp
 obtain⟨_,_,_,h4,h5,_,_,_⟩:=hg.unu
 have pL:=hg.par
 unfold GQ at pL
 unfold FR at hp
 rcases List.mem_append.1 hp with hp|hp
 rcases List.mem_append.1 hp with hp|hp
 ·obtain⟨d,hd,rfl⟩:=List.mem_map.1 hp
  have sT:e.op=10:=by
   rcases h5 with h|h
   ·exact h
   ·rw[List.eq_nil_of_length_eq_zero h]at hd;cases hd
  rw[if_neg (by omega),if_neg (by omega),if_neg (by omega),if_pos sT]at pL
  simp only[Bool.and_eq_true]at pL
  have pn:=of_decide_eq_true pL.1
  unfold J4 at pn
  split at pn
  ·cases pn
  ·obtain⟨i,hi,he⟩:=List.getElem_of_mem hd
   have:=O5 pn i d (by rw[List.getElem?_eq_getElem hi,he])
   unfold Q0 at this
   split at this
   ·exact absurd this (by assumption)
   ·rename_i qM
    have qM:I4 s d=0:=Decidable.of_not_not qM
    unfold I4 j3 F2 at qM
    rw[if_pos hr]at qM
    by_cases hc:d.col<1∨(s.cols.length:Int)≤d.col
    ·rw[if_pos hc,if_pos (show (-1:Int)<0 by omega)]at qM;cases qM
    ·dsimp only[Bk];omega
 ·unfold AZ at hp
  split at hp
  ·split at hp
   ·rename_i h1 h2
    simp only[List.mem_singleton]at hp
    subst hp
    rcases hg.col (by simp only[BU];omega)with h|h
    ·omega
    ·have:=Aq h;exact⟨this.1,this.2.1⟩
   ·cases hp
  ·split at hp
   ·rename_i h1 h2
    simp only[List.mem_singleton]at hp
    subst hp
    rcases hg.col (by simp only[BU];omega)with h|h
    ·omega
    ·have:=Aq h;exact⟨this.1,this.2.1⟩
   ·cases hp
 ·obtain⟨c,hc,rfl⟩:=List.mem_map.1 hp
  have uv:e.op=11:=by
   rcases h4 with h|h
   ·exact h
   ·rw[List.eq_nil_of_length_eq_zero h]at hc;cases hc
  rw[if_neg (by omega),if_neg (by omega),if_neg (by omega),if_neg (by omega),if_pos uv]at pL
  simp only[Bool.and_eq_true]at pL
  have pn:=of_decide_eq_true pL.2
  unfold Y7 at pn
  split at pn
  ·cases pn
  ·obtain⟨i,hi,he⟩:=List.getElem_of_mem hc
   have:=O5 pn i c (by rw[List.getElem?_eq_getElem hi,he])
   unfold X8 at this
   split at this
   ·cases this
   ·rename_i hb
    have:=Aq (show P6 s c 3=true by simpa using hb)
    exact⟨this.1,this.2.1⟩
theorem cH{lv:Nat→Int}{n:Nat}:∀p∈K8 lv 0 n,0≤p.col∧p.col<n:=fun p hp=>by
 have:=AR hp
 omega
theorem KU{s:A4}{c:B0}:∀p∈L3 s c,0≤p.col∧p.col<s.cols.length:=fun p hp=>by
 unfold L3 at hp
 split at hp
 ·exact cH p hp
 ·cases hp
theorem UM{s:A4}{e:G2}:∀p∈w8 s e,0≤p.col∧p.col<s.cols.length:=fun p hp=>by
 rw[KT]at hp
 exact cH p hp
theorem jJ{s:A4}{e:G2}(hr:C5 s=0)(hg:DT s e):∀p∈UJ s e,0≤p.col∧p.col<s.cols.length:=by
 intro p hp
 unfold UJ at hp
 rcases List.mem_append.1 hp with hp|hp
 rcases List.mem_append.1 hp with hp|hp
 rcases List.mem_append.1 hp with hp|hp
 ·exact cG hr hg p hp
 ·exact KU p hp
 ·exact KU p hp
 ·obtain⟨k,_,h⟩:=List.mem_flatMap.1 hp
  exact UM p h
theorem jK{s:A4}{e:G2}:(w8 s e).length≤s.cols.length:=by rw[KT];exact y6 _ _ _
abbrev t7(s:A4)(e:G2)(k:Nat):List (List Pk):=[FR s e,L3 s e.cnd,L3 s e.evt]++(e.kids.take k).map (w8 s)
theorem Vl(s:A4)(hr:C5 s=0)(e:G2):z6 s e=true→A3 Tryz.prog 107 [sA s,Cp e] (.sl 2 ((w8 s e).map B6)):=by
 refine KR (p:=fun e=>z6 s e=true→A3 Tryz.prog 107 [sA s,Cp e] (.sl 2 ((w8 s e).map B6))) (fun e ih hg=>?_) e
 have hg:=Qh hg
 obtain⟨_,_,nr⟩:=hg.lens
 have hn:=(E9 hr).2.1
 have nz:s.cols.length≤100000:=by omega
 have h1:=cC s hr e hg
 have h2:=GL s e.cnd
 have h3:=GL s e.evt
 have ox:=jJ hr hg
 have st:0<s.cols.length:=by
  obtain⟨_,_,_,_,h5⟩:=E9 hr
  cases hc:s.cols with
  |nil=>rw[hc]at h5;cases h5
  |cons a r=>exact Nat.succ_pos _
 have rp:(FR s e).length≤7:=by
  obtain⟨q1,q2,_⟩:=hg.lens
  unfold FR
  rw[List.length_append,List.length_append,List.length_map,List.length_map]
  have:(AZ s e).length≤1:=by
   unfold AZ
   split
   ·split<;>simp
   ·split<;>simp
  omega
 have hmg:=ZK (t7 s e e.kids.length) (fun l hl=>by
  unfold t7 at hl
  rw[List.take_length]at hl
  simp only[List.cons_append,List.nil_append,List.mem_cons]at hl
  rcases hl with rfl|rfl|rfl|hl
  ·exact⟨by omega,fun p hp=>by have:=cG hr hg p hp;omega⟩
  ·exact⟨by have:=Df s e.cnd;omega,fun p hp=>by have:=KU p hp;omega⟩
  ·exact⟨by have:=Df s e.evt;omega,fun p hp=>by have:=KU p hp;omega⟩
  ·obtain⟨k,_,rfl⟩:=List.mem_map.1 hl
   exact⟨by have:=jK (s:=s) (e:=k);omega,fun p hp=>by have:=UM p hp;omega⟩)
 have pR:(t7 s e e.kids.length).flatten=UJ s e:=by
  unfold t7 UJ
  rw[List.take_length]
  simp[List.flatMap_def,List.append_assoc]
 rw[pR,lh st ox,←KT]at hmg
 generalize w8 s e=R at *
 rw[Gp]at h1 ⊢
 refine C1 Tryz.func107 36 fun nd E h0=>?_
 clear nd
 repeat'((first|(refine G9 1 ?_;refine S9 (id:=1) (σ':=⟨[(2,.iptr (sL s)),(3,.iptr (Hu e))],2,[]⟩) (A6 h0) ?_;refine H9 (id:=1) ⟨[(2,.iptr (sL s)),(3,.iptr (Hu e)),(5,.row 2 0 3)],3,[(2,some (.row 23 1 0 ((t7 s e 0).map Jl)))]⟩ ?_ ?_)|(refine Cm ?_ ?_ ?_;kernel_rfl;kernel_rfl)|refine b9 (T:=193) rfl ?_|refine A1 h1 ?_|refine A1 h2 ?_|refine A1 h3 ?_ |refine S2 ?_|(refine T6 ?_ ?_<;>intro h<;>try exact V1 h)|intro el nX nY|intro el nX|exact T4|refine T5 ?_ ?_|intro ex)<;>try conv=>whnf)
 all_goals first
  |exact A6 h0
  |skip
 refine B2 (ι:=Nat) (fun k=>⟨[(2,.iptr (sL s)),(5,.row 2 0 (t7 s e k).length),(21,.sl 19 (e.kids.map Co)),(22,.i e.kids.length),(23,.i k)],3,[(2,some (.row 23 1 0 ((t7 s e k).map Jl)))]⟩) (fun k=>k≤e.kids.length) (fun k=>e.kids.length-k) 0 (Nat.zero_le _)
  (by exact A6 h0) (fun k hk=>?_)
 by_cases nf:k<e.kids.length
 ·obtain⟨x,hx⟩:∃x,e.kids[k]?=some x:=⟨_,List.getElem?_eq_getElem nf⟩
  have hq:=ih x (List.mem_of_getElem? hx) (hg.kid x (List.mem_of_getElem? hx)).2
  have oH:t7 s e (k+1)=t7 s e k++[w8 s x]:=by
   unfold t7
   rw[I0 hx,List.map_append,List.append_assoc];rfl
  have no:(t7 s e k).length≤5:=by
   unfold t7
   rw[List.length_append,List.length_map,List.length_take]
   simp only[List.length_cons,List.length_nil];omega
  generalize t7 s e k=A at *
  generalize w8 s x=B at *
  repeat'((first|(refine A2 (x:=x) hx (by omega) ?_)|refine A1 hq ?_ |refine S2 ?_|(refine T6 ?_ ?_<;>intro h<;>try exact V1 h)|intro el nX nY|intro el nX|exact T4|refine T5 ?_ ?_|intro ex)<;>try conv=>whnf)
  all_goals first
   |(exfalso;omega)
   |(refine⟨k+1,by omega,by omega,?_⟩;rw[oH];exact B3 h0 rfl ⟨rfl,congrArg (fun z:Nat=>some (AV.row 2 0 z)) (by rw[List.length_append];rfl),rfl,rfl,rfl,trivial⟩ ⟨⟨_,congrArg (D3.row 23 1 _) (by rw[List.map_append];rfl)⟩,trivial⟩ rfl rfl rfl)
 ·obtain rfl:k=e.kids.length:=by omega
  repeat'((first|refine J9 2 ?_|refine A1 hmg ?_ |refine S2 ?_|(refine T6 ?_ ?_<;>intro h<;>try exact V1 h)|intro el nX nY|intro el nX|exact T4|refine T5 ?_ ?_|intro ex)<;>try conv=>whnf)
  all_goals first
   |(exfalso;omega)
   |exact A0 rfl rfl
end Go.Proofs.YtiphlhoclaogjaaGreatDoor
