/- Chapter 17: what expressions need, and their kinds, in plain terms. Chapter 17: what an expression needs, without its kids. Chapter 17: picks are merged; what a right expression needs. -/
import Derived.Test.YtiphlhoclaogjaaGreatDoorJF1
import Derived.Test.YtiphlhoclaogjaaGreatDoorJC3
import Derived.Test.YtiphlhoclaogjaaGreatDoorJC1
import Derived.Test.YtiphlhoclaogjaaGreatDoorJRg0
import Derived.Test.YtiphlhoclaogjaaGreatDoorJTa5
import Derived.Test.YtiphlhoclaogjaaGreatDoorJCd1
import Derived.Test.YtiphlhoclaogjaaGreatDoorJCm2
import Derived.Test.YtiphlhoclaogjaaGreatDoorJD2
set_option linter.unusedVariables false
set_option linter.unnecessarySimpa false
set_option linter.unusedSimpArgs false
set_option maxHeartbeats 64000000
namespace Go.Proofs.YtiphlhoclaogjaaGreatDoor
open Go Go.Av
attribute [local irreducible] C9 B3 C8 D1 DQ D0 C7 St.le A3 B8
set_option maxRecDepth 100000
def Z6(l:List Pk)(i:Nat):Int:=l.foldl (fun (m:Int) (p:Pk)=>if p.col=(i:Int)then max m p.lev else m) 0
theorem jK:Z6 []=fun _=>0:=rfl
theorem Uj(l:List Pk)(p:Pk):Z6 (l++[p])=upd (Z6 l) p.col p.lev:=by
 funext i
 unfold Z6 upd
 rw[List.foldl_append]
 rfl
theorem Uk(i:Nat):∀(l:List Pk) (m:Int),0≤m→l.foldl (fun (m:Int) (p:Pk)=>if p.col=(i:Int)then max m p.lev else m) m=max m (Z6 l i):=by
 intro l
 induction l with
 |nil=>intro m h;unfold Z6;simp only[List.foldl_nil];omega
 |cons p r ih =>
  intro m h
  unfold Z6
  rw[List.foldl_cons,List.foldl_cons]
  split
  ·rw[ih _ (by omega),ih _ (by omega)];omega
  ·rw[ih _ h,ih 0 (Int.le_refl _)];omega
theorem bu(l:List Pk)(i:Nat):0≤Z6 l i:=by
 have:=Uk i l 0 (Int.le_refl _)
 have h:Z6 l i=l.foldl (fun (m:Int) (p:Pk)=>if p.col=(i:Int)then max m p.lev else m) 0:=rfl
 omega
theorem XL(a b:List Pk)(i:Nat):Z6 (a++b) i=max (Z6 a i) (Z6 b i):=by
 have h:Z6 (a++b) i=b.foldl (fun (m:Int) (p:Pk)=>if p.col=(i:Int)then max m p.lev else m) (Z6 a i):=by
  unfold Z6;rw[List.foldl_append]
 rw[h,Uk i b _ (bu a i)]
theorem jL(p:Pk)(i:Nat):Z6 [p] i=if p.col=(i:Int)then max 0 p.lev else 0:=rfl
def An(l:List Pk):Int:=l.foldl (fun (m:Int) (p:Pk)=>max m p.col) 0
theorem ZI(l:List Pk)(p:Pk):An (l++[p])=max (An l) p.col:=by unfold An;rw[List.foldl_append];rfl
theorem ZJ:∀(l:List Pk) (m:Int),m≤l.foldl (fun (m:Int) (p:Pk)=>max m p.col) m∧∀p∈l,p.col≤l.foldl (fun (m:Int) (p:Pk)=>max m p.col) m:=by
 intro l
 induction l with
 |nil=>intro m;exact⟨Int.le_refl _,fun p h=>by cases h⟩
 |cons p r ih =>
  intro m
  rw[List.foldl_cons]
  obtain⟨h1,h2⟩:=ih (max m p.col)
  refine⟨by omega,fun q hq=>?_⟩
  rcases List.mem_cons.1 hq with rfl|hq
  ·omega
  ·exact h2 q hq
theorem Ul{l:List Pk}:0≤An l∧∀p∈l,p.col≤An l:=ZJ l 0
theorem Ms{n:Int}(hn:0<n):∀{l:List Pk},(∀p∈l,p.col<n)→An l<n:=by
 have key:∀(l:List Pk) (m:Int),m<n→(∀p∈l,p.col<n)→l.foldl (fun (m:Int) (p:Pk)=>max m p.col) m<n:=by
  intro l
  induction l with
  |nil=>intro m h _;exact h
  |cons p r ih =>
   intro m h hl
   rw[List.foldl_cons]
   exact ih _ (by have:=hl p (by simp);omega) fun q hq=>hl q (by simp[hq])
 exact fun {l} h=>key l 0 hn h
theorem fD{l:List Pk}{i:Nat}(h:∀p∈l,p.col≠(i:Int)):Z6 l i=0:=by
 induction l with
 |nil=>rfl
 |cons p r ih =>
  have e:Z6 (p::r) i=max (Z6 [p] i) (Z6 r i):=XL [p] r i
  rw[e,jL,if_neg (h p (by simp)),ih fun q hq=>h q (by simp[hq])];rfl
theorem Um(lv:Nat→Int):∀(n m lo:Nat),n≤m→(∀i,lo+n≤i→lv i=0)→K7 lv lo m=K7 lv lo n
 |0,m,lo,_,h=>by
  induction m generalizing lo with
  |zero=>rfl
  |succ m ih =>
   rw[k8,if_neg (by rw[h lo (by omega)];omega),ih (lo+1) (by omega) fun i hi=>h i (by omega)]
   rfl
 |n+1,0,lo,hn,_=>by omega
 |n+1,m+1,lo,hn,h=>by
  rw[k8,k8,Um lv n m (lo+1) (by omega) fun i hi=>h i (by omega)]
def ZK(l:List Pk):List Pk:=K7 (Z6 l) 0 (An l+1).toNat
theorem lV{l:List Pk}{n:Nat}(hn:0<n)(h:∀p∈l,0≤p.col∧p.col<n):ZK l=K7 (Z6 l) 0 n:=by
 have h1:=Ms (n:=n) (l:=l) (by omega) fun p hp=>(h p hp).2
 have h2:=Ul (l:=l)
 unfold ZK
 rw[Um (Z6 l) (An l+1).toNat n 0 (by omega) fun i hi=>fD fun p hp=>by have:=h2.2 p hp;omega]
abbrev b8(s:A4)(c:Int):Pk:=⟨c,H7 s c (B4 s c)⟩
abbrev W7(s:A4)(d:Pk):Pk:=⟨d.col,H7 s d.col d.lev⟩
def Ao(ws:List Int)(ny:Int):Int:=if 0≤D9 (fun x=>decide (x=ny)) ws 0 then ws.length-D9 (fun x=>decide (x=ny)) ws 0 else 0
def P1(s:A4)(e:F6):List Pk :=
 if e.op=4∨e.op=5∨e.op=10∨e.op=11∨e.op=12∨e.op=14 then (if 0<e.col then [b8 s e.col]else [])
 else if e.op=13 then [⟨e.col,H7 s e.col (Ao (B6 s e.col).widths e.num)⟩]else []
def HK(s:A4)(e:F6):List Pk:=e.dims.map (W7 s)++P1 s e++e.cols.map (b8 s)
mutual
def Y5(s:A4):F6→List Pk
 |.mk o n nm c cs ds cd ev ks=>K7 (Z6 (HK s (.mk o n nm c cs ds cd ev ks)++I3 s cd++I3 s ev++ZL s ks)) 0 s.cols.length
def ZL(s:A4):List F6→List Pk
 |[]=>[]
 |x::r=>Y5 s x++ZL s r
end
theorem XM(s:A4):∀l,ZL s l=l.flatMap (Y5 s)
 |[]=>rfl
 |x::r=>by rw[ZL,XM s r];rfl
abbrev Pw(s:A4)(e:F6):List Pk:=HK s e++I3 s e.cnd++I3 s e.evt++e.kids.flatMap (Y5 s)
theorem Hl(s:A4)(e:F6):Y5 s e=K7 (Z6 (Pw s e)) 0 s.cols.length:=by
 cases e
 rw[Y5,XM];rfl
def W8(s:A4)(e:F6):List Pk:=if W6 s e=true then Y5 s e else []
structure XN where
 name:List UInt8
 kind:Int
def gP(nm:List UInt8):List XN→Int×Int→Int×Int
 |[],z=>z
 |b::r,z=>gP nm r (if b.name=nm then (b.kind,0)else z)
def lW(before:List XN)(nm:List UInt8):Int×Int:=gP nm before (0,24)
def mx(before:List XN)(e:F6)(numbers:Bool):Int×Int :=
 if e.op=2 then lW before e.name else if numbers=false then (0,16)else if Pu e.op then (1,0)else (e.op-8,0)
mutual
def Un(before:List XN):F6→Int×Int
 |.mk o n nm c cs ds cd ev ks=>if (ZM before ks true).1=0 then mx before (.mk o n nm c cs ds cd ev ks) (ZM before ks true).2 else (0,(ZM before ks true).1)
def ZM(before:List XN):List F6→Bool→Int×Bool
 |[],b=>(0,b)
 |x::r,b=>if (Un before x).2=0 then ZM before r (b && decide ((Un before x).1=1))else ((Un before x).2,b)
end
theorem bv(s:A4)(tV:List Pk)(c:Int)(hl:tV.length≤100000):B8 Tryz.prog 212 2 [(0,some (.box [.row 1 0 tV.length])),(1,some (.row 81 2 0 (tV.map A8)))] [.i c,.ref 0 0,.iptr (sL s)] 2 [(0,some (.box [.row 1 0 (tV.length+1)])),(1,some (.row 81 2 0 ((tV++[b8 s c]).map A8)))] (.tup []):=by
 have h1:=Db s c
 have h2:=OL s c (B4 s c)
 refine c9 Tryz.func212 15 fun E h0=>?_
 repeat'((first|refine A0 h1 ?_|refine A0 h2 ?_|(refine E7 0 ?_;refine F5 (id:=0) ⟨[],2,[(0,some (.box [.row 1 0 (tV.length+1)])),(1,some (.row 81 2 0 ((tV++[b8 s c]).map A8)))]⟩ ?_ ?_) |refine S2 ?_|(refine T6 ?_ ?_<;>intro h<;>try exact V1 h)|intro el nJ nK|intro el nJ|exact T4|refine T5 ?_ ?_|intro ex)<;>try conv=>whnf)
 all_goals first
  |exact A7 h0 rfl trivial ⟨rfl,⟨_,congrArg (C4.row 81 2 _) (by rw[List.map_append];rfl)⟩,trivial⟩ rfl rfl rfl
  |(delta C7;exact .inl ⟨[],[],rfl,trivial,rfl,rfl,A6 h0,rfl⟩)
theorem Uo(s:A4)(col ny:Int){c:D3}(yz:0≤col)(hc:s.cols[col.toNat]?=some c):A3 Tryz.prog 214 [sA s,.i col,.i ny] (.i (Ao (B6 s col).widths ny)):=by
 rw[B9 hc]
 unfold Ao
 refine B5 Tryz.func214 31 fun nL E h0=>?_
 have nM:c.widths.length≤9223372036854775807:=by
  have:=((((nL (sA s) (by simp)).agg (.sl 7 (s.cols.map U6)) (by simp))).elem (U6 c) (List.mem_map.2 ⟨c,List.mem_of_getElem? hc,rfl⟩) (.sl 1 (c.widths.map wA)) (by simp)).sl
  simpa using this
 clear nL
 repeat'((first|(refine A2 (x:=c) hc (by omega) ?_) |refine S2 ?_|(refine T6 ?_ ?_<;>intro h<;>try exact V1 h)|intro el nJ nK|intro el nJ|exact T4|refine T5 ?_ ?_|intro ex)<;>try conv=>whnf)
 refine B0 (ι:=Nat) (fun k=>⟨[(2,.i ny),(7,.sl 1 (c.widths.map wA)),(16,.sl 1 (c.widths.map wA)),(17,.i c.widths.length),(18,.i k)],1,[]⟩) (fun k=>k≤c.widths.length∧D9 (fun x=>decide (x=ny)) c.widths 0=D9 (fun x=>decide (x=ny)) (c.widths.drop k) k) (fun k=>c.widths.length-k) 0 ⟨Nat.zero_le _,rfl⟩
  (A6 h0) (fun k hI=>?_)
 obtain⟨hk,hI⟩:=hI
 repeat'((first|refine S2 ?_|(refine T6 ?_ ?_<;>intro h<;>try exact V1 h)|intro el nJ nK|intro el nJ|exact T4|refine T5 ?_ ?_|intro ex)<;>try conv=>whnf)
 all_goals first
  |exact⟨k+1,⟨by omega,by rw[hI,F7 nJ,D9,if_neg (by rw[decide_eq_true_iff];omega)];rfl⟩,by omega,A7 h0 rfl ⟨rfl,rfl,rfl,rfl,rfl,trivial⟩ trivial rfl rfl rfl⟩
  |(have e1:D9 (fun x=>decide (x=ny)) c.widths 0=k:=by rw[hI,F7 nJ,D9,if_pos (by rw[decide_eq_true_iff];omega)]
    exact A1 rfl (congrArg AV.i (by rw[e1,if_pos (by omega)])))
  |(have e1:D9 (fun x=>decide (x=ny)) c.widths 0=-1:=by rw[hI,show k=c.widths.length by omega,List.drop_length];rfl
    exact A1 rfl (congrArg AV.i (by rw[e1,if_neg (by omega)])))
theorem bw(s:A4)(hr:C3 s=0)(e:F6)(hg:CK s e):A3 Tryz.prog 163 [sA s,AQ e] (.sl 2 ((HK s e).map A8)):=by
 obtain⟨rh,vq,_⟩:=hg.lens
 have qx:=hg.col
 have qK:=hg.op
 have yA:=fun c l=>OL s c l
 have qP:∀h:e.op=13,A3 Tryz.prog 214 [sA s,.i e.col,.i e.num] (.i (Ao (B6 s e.col).widths e.num)):=fun h=>by
  rcases qx (by simp only[o0];omega)with h'|h'
  ·omega
  ·obtain⟨yz,_,c,hc,_⟩:=AR h'
   exact Uo s e.col e.num yz hc
 have how:=bv s
 rw[DI]
 refine B5 Tryz.func163 78 fun nL E h0=>?_
 clear nL
 repeat'((first|(refine I6 0 ?_;refine Dy ?_;(conv=>whnf);refine MS rfl rfl ?_) |refine S2 ?_|(refine T6 ?_ ?_<;>intro h<;>try exact V1 h)|intro el nJ nK|intro el nJ|exact T4|refine T5 ?_ ?_|intro ex)<;>try conv=>whnf)
 refine B0 (ι:=Nat) (fun k=>⟨[(2,.iptr (sL s)),(3,.ref 1 0),(5,.ref 2 0),(6,.fo 212 [.ref 2 0,.iptr (sL s)]),(13,.sl 2 (e.dims.map A8)),(14,.i e.dims.length),(15,.i k)],4,[(1,some (.box (Bp e))),(2,some (.box [.row 3 0 ((e.dims.take k).map (W7 s)).length])),(3,some (.row 81 2 0 (((e.dims.take k).map (W7 s)).map A8)))]⟩) (fun k=>k≤e.dims.length) (fun k=>e.dims.length-k) 0 (Nat.zero_le _)
  (C0 (Ab 2 0 (e:=81) (sz:=2) rfl rfl) (A7 h0 rfl ⟨rfl,rfl,rfl,rfl,rfl,rfl,rfl,trivial⟩ ⟨rfl,rfl,⟨0,rfl⟩,trivial⟩ rfl rfl rfl)) (fun k hk=>?_)
 have nU:((e.dims.take k).map (W7 s)).length≤3:=by rw[List.length_map,List.length_take];omega
 by_cases nN:k<e.dims.length
 ·obtain⟨d,hd⟩:∃d,e.dims[k]?=some d:=⟨_,List.getElem?_eq_getElem nN⟩
  have nt:(e.dims.take (k+1)).map (W7 s)=(e.dims.take k).map (W7 s)++[W7 s d]:=by rw[F1 hd,List.map_append];rfl
  have pL:=yA d.col d.lev
  generalize (e.dims.take k).map (W7 s)=A at nU nt ⊢
  repeat'((first|(refine A2 (x:=d) hd (by omega) ?_)|refine A0 pL ?_|(refine E7 6 ?_;refine R6 (id:=6) (σ':=⟨[(2,.iptr (sL s)),(3,.ref 1 0),(5,.ref 2 0),(6,.fo 212 [.ref 2 0,.iptr (sL s)]),(8,.iptr (A8 d)),(13,.sl 2 (e.dims.map A8)),(14,.i e.dims.length),(15,.i k)],4,[(1,some (.box (Bp e))),(2,some (.box [.row 3 0 A.length])),(3,some (.row 81 2 0 (A.map A8)))]⟩) (A6 h0) ?_;refine F5 (id:=6) ⟨[(2,.iptr (sL s)),(3,.ref 1 0),(5,.ref 2 0),(6,.fo 212 [.ref 2 0,.iptr (sL s)]),(13,.sl 2 (e.dims.map A8)),(14,.i e.dims.length),(15,.i k)],4,[(1,some (.box (Bp e))),(2,some (.box [.row 3 0 (A.length+1)])),(3,some (.row 81 2 0 ((A++[W7 s d]).map A8)))]⟩ ?_ ?_) |refine S2 ?_|(refine T6 ?_ ?_<;>intro h<;>try exact V1 h)|intro el nJ nK|intro el nJ|exact T4|refine T5 ?_ ?_|intro ex)<;>try conv=>whnf)
  all_goals first
   |exact A7 h0 rfl ⟨rfl,rfl,rfl,rfl,rfl,rfl,rfl,trivial⟩ ⟨rfl,rfl,⟨_,congrArg (C4.row 81 2 _) (by rw[List.map_append];rfl)⟩,trivial⟩ rfl rfl rfl
   |(refine⟨k+1,by omega,by omega,?_⟩;rw[nt];exact A7 h0 rfl ⟨rfl,rfl,rfl,rfl,rfl,rfl,rfl,trivial⟩ ⟨rfl,congrArg (fun z=>C4.box [.row 3 0 z]) (by rw[List.length_append];rfl),⟨_,rfl⟩,trivial⟩ rfl rfl rfl)
 ·obtain rfl:k=e.dims.length:=by omega
  rw[List.take_length]
  have qJ:(P1 s e).length≤1:=by
   unfold P1
   split
   ·split<;>simp
   ·split<;>simp
  have vW:∀A,A=e.dims.map (W7 s)→HK s e=A++P1 s e++e.cols.map (b8 s):=fun A h=>by rw[h];rfl
  have xV:(e.op=4∨e.op=5∨e.op=10∨e.op=11∨e.op=12∨e.op=14)→0<e.col→P1 s e=[b8 s e.col]:=fun h1 h2=>by unfold P1;rw[if_pos h1,if_pos h2]
  have xA:(e.op=4∨e.op=5∨e.op=10∨e.op=11∨e.op=12∨e.op=14)→¬0<e.col→P1 s e=[]:=fun h1 h2=>by unfold P1;rw[if_pos h1,if_neg h2]
  have xO:e.op=13→P1 s e=[⟨e.col,H7 s e.col (Ao (B6 s e.col).widths e.num)⟩]:=fun h1=>by unfold P1;rw[if_neg (by omega),if_pos h1]
  have xT:¬(e.op=4∨e.op=5∨e.op=10∨e.op=11∨e.op=12∨e.op=14)→¬e.op=13→P1 s e=[]:=fun h1 h2=>by unfold P1;rw[if_neg h1,if_neg h2]
  have nU:(e.dims.map (W7 s)).length≤3:=by rw[List.length_map];exact rh
  generalize hA:e.dims.map (W7 s)=A at nU ⊢
  rw[vW A hA.symm]
  clear nU vW
  have hAl:A.length≤3:=by rw[←hA,List.length_map];exact rh
  generalize P1 s e=M at *
  have c1:=how A e.col (by omega)
  have c2:=yA e.col (Ao (B6 s e.col).widths e.num)
  repeat'((first|refine⟨Wf [2,3] [0,0] c1 rfl rfl rfl rfl rfl rfl ⟨rfl,rfl,trivial⟩ rfl rfl rfl rfl rfl ?_⟩|(refine A0 (qP (by assumption)) ?_)|refine A0 c2 ?_|(refine E7 18 ?_;refine R6 (id:=18) (σ':=⟨[(2,.iptr (sL s)),(3,.iptr (Bp e)),(5,.ref 2 0),(6,.fo 212 [.ref 2 0,.iptr (sL s)])],4,[(2,some (.box [.row 3 0 A.length])),(3,some (.row 81 2 0 (A.map A8)))]⟩) (A6 h0) ?_;refine F5 (id:=18) ⟨[(2,.iptr (sL s)),(3,.iptr (Bp e)),(5,.ref 2 0),(6,.fo 212 [.ref 2 0,.iptr (sL s)])],4,[(2,some (.box [.row 3 0 (A.length+1)])),(3,some (.row 81 2 0 ((A++[(⟨e.col,H7 s e.col (Ao (B6 s e.col).widths e.num)⟩:Pk)]).map A8)))]⟩ ?_ ?_) |refine S2 ?_|(refine T6 ?_ ?_<;>intro h<;>try exact V1 h)|intro el nJ nK|intro el nJ|exact T4|refine T5 ?_ ?_|intro ex)<;>try conv=>whnf)
  all_goals first
   |exact A7 h0 rfl ⟨rfl,rfl,rfl,rfl,trivial⟩ ⟨rfl,⟨_,congrArg (C4.row 81 2 _) (by rw[List.map_append];rfl)⟩,trivial⟩ rfl rfl rfl
   |skip
  all_goals
   first
    |(have hM:=xV (by omega) (by assumption))
    |(have hM:=xA (by omega) (by assumption))
    |(have hM:=xO (by assumption))
    |(have hM:=xT (by omega) (by assumption))
   clear xV xA xO xT
   refine B0 (ι:=Nat) (fun k=>⟨[(5,.ref 2 0),(6,.fo 212 [.ref 2 0,.iptr (sL s)]),(67,.sl 1 (e.cols.map wA)),(68,.i e.cols.length),(69,.i k)],4,[(2,some (.box [.row 3 0 (A++M++(e.cols.take k).map (b8 s)).length])),(3,some (.row 81 2 0 ((A++M++(e.cols.take k).map (b8 s)).map A8)))]⟩) (fun k=>k≤e.cols.length) (fun k=>e.cols.length-k) 0 (Nat.zero_le _)
    (A7 h0 rfl ⟨rfl,rfl,rfl,rfl,rfl,trivial⟩ ⟨congrArg (fun z=>C4.box [.row 3 0 z]) (by rw[hM];simp),⟨_,congrArg (C4.row 81 2 _) (by rw[hM];simp)⟩,trivial⟩ rfl rfl rfl) (fun k hk=>?_)
   have hBl:(A++M++(e.cols.take k).map (b8 s)).length≤7:=by rw[List.length_append,List.length_append,List.length_map,List.length_take];omega
   by_cases nN:k<e.cols.length
   ·obtain⟨c,hc⟩:∃c,e.cols[k]?=some c:=⟨_,List.getElem?_eq_getElem nN⟩
    have nt:A++M++(e.cols.take (k+1)).map (b8 s)=A++M++(e.cols.take k).map (b8 s)++[b8 s c]:=by rw[F1 hc,List.map_append,List.append_assoc (A++M)];rfl
    generalize A++M++(e.cols.take k).map (b8 s)=B at hBl nt ⊢
    have c3:=how B c (by omega)
    repeat'((first|(refine A2 (x:=c) hc (by omega) ?_)|refine⟨Wf [2,3] [0,0] c3 rfl rfl rfl rfl rfl rfl ⟨rfl,rfl,trivial⟩ rfl rfl rfl rfl rfl ?_⟩ |refine S2 ?_|(refine T6 ?_ ?_<;>intro h<;>try exact V1 h)|intro el nJ nK|intro el nJ|exact T4|refine T5 ?_ ?_|intro ex)<;>try conv=>whnf)
    all_goals first
     |(exfalso;omega)
     |(refine⟨k+1,by omega,by omega,?_⟩;rw[nt];exact A7 h0 rfl ⟨rfl,rfl,rfl,rfl,rfl,trivial⟩ ⟨congrArg (fun z=>C4.box [.row 3 0 z]) (by rw[List.length_append];rfl),⟨_,rfl⟩,trivial⟩ rfl rfl rfl)
   ·obtain rfl:k=e.cols.length:=by omega
    rw[List.take_length]
    repeat'((first|refine S2 ?_|(refine T6 ?_ ?_<;>intro h<;>try exact V1 h)|intro el nJ nK|intro el nJ|exact T4|refine T5 ?_ ?_|intro ex)<;>try conv=>whnf)
    all_goals first
     |(exfalso;omega)
     |exact A1 rfl rfl
abbrev KV(p:List Pk):List AV:=[.sl 2 (p.map A8)]
structure Gm(m:List (Key×AV))(lv:Nat→Int):Prop where
 keys:AD (.int .i64) m
 get:∀c:Nat,Ae m (.i .i64 c) (l5 (.int .i64 0))=.i (lv c)
theorem bz:Gm [] fun _=>0:=⟨fun p hp=>(by cases hp),fun c=>rfl⟩
theorem Gm.step{m:List (Key×AV)}{lv:Nat→Int}(h:Gm m lv){p:Pk}(hp:0≤p.col):Gm (j4 m (.i .i64 p.col) (.i (max (lv p.col.toNat) p.lev))) (upd lv p.col p.lev):=by
 refine⟨Jw (by rfl) h.keys,fun c=>?_⟩
 unfold Ae upd
 rw[Qv]
 by_cases e:p.col=(c:Int)
 ·rw[if_pos (by rw[e]),if_pos e,e,Int.toNat_natCast]
 ·rw[if_neg (fun hh=>e (by injection hh)),if_neg e]
  exact h.get c
theorem Gm.geti{m:List (Key×AV)}{lv:Nat→Int}(h:Gm m lv){c:Int}(hc:0≤c):Ae m (.i .i64 c) (l5 (.int .i64 0))=.i (lv c.toNat):=by
 have:=h.get c.toNat
 rwa[show ((c.toNat:Nat):Int)=c by omega]at this
theorem cB{α:Type}{ls:List (List α)}{j k:Nat}{l:List α}{x:α}(hl:ls[j]?=some l)(hx:l[k]?=some x):(ls.take j).flatten++l.take (k+1)=(ls.take j).flatten++l.take k++[x]:=by
 rw[F1 hx,List.append_assoc]
theorem cC{α:Type}{ls:List (List α)}{j:Nat}{l:List α}(hl:ls[j]?=some l):(ls.take (j+1)).flatten=(ls.take j).flatten++l:=by
 rw[F1 hl,List.flatten_append];simp
theorem ZN(ls:List (List Pk))(hp:∀l∈ls,l.length≤100000∧∀p∈l,0≤p.col∧p.col<1000):A3 Tryz.prog 164 [.sl 1 (ls.map KV)] (.sl 2 ((ZK ls.flatten).map A8)):=by
 have oY:∀p∈ls.flatten,0≤p.col∧p.col<1000:=fun p hm=>by
  obtain⟨l,h1,h2⟩:=List.mem_flatten.1 hm
  exact(hp l h1).2 p h2
 have hla:=Ms (n:=1000) (l:=ls.flatten) (by omega) fun p hm=>(oY p hm).2
 have ue:=(Ul (l:=ls.flatten)).1
 unfold ZK
 refine B5 Tryz.func164 59 fun nL E h0=>?_
 have nM:ls.length≤9223372036854775807:=by
  have:=(nL (.sl 1 (ls.map KV)) (by simp)).sl
  simpa using this
 clear nL
 repeat'((first|refine S2 ?_|(refine T6 ?_ ?_<;>intro h<;>try exact V1 h)|intro el nJ nK|intro el nJ|exact T4|refine T5 ?_ ?_|intro ex)<;>try conv=>whnf)
 refine B0 (ι:=Nat×List (Key×AV)) (fun x=>⟨[(3,.mp 0),(4,.i (An (ls.take x.1).flatten)),(12,.sl 1 (ls.map KV)),(13,.i ls.length),(14,.i x.1)],1,[(0,some (.map x.2))]⟩) (fun x=>x.1≤ls.length∧Gm x.2 (Z6 (ls.take x.1).flatten)) (fun x=>ls.length-x.1) (0,[]) ⟨Nat.zero_le _,bz⟩
  (A6 h0) (fun x hI=>?_)
 obtain⟨j,m⟩:=x
 obtain⟨hj,hm⟩:=hI
 dsimp only at hj hm ⊢
 by_cases nN:j<ls.length
 ·obtain⟨l,hl⟩:∃l,ls[j]?=some l:=⟨_,List.getElem?_eq_getElem nN⟩
  obtain⟨ry,zB⟩:=hp l (List.mem_of_getElem? hl)
  have hfn:=cC hl
  have htf:=fun (k:Nat) (p:Pk) (h:l[k]?=some p)=>cB (k:=k) hl h
  have st:An (ls.take j).flatten<1000:=Ms (by omega) fun p h=>by
   refine(oY p ?_).2
   obtain⟨l',h1,h2⟩:=List.mem_flatten.1 h
   exact List.mem_flatten.2 ⟨l',List.mem_of_mem_take h1,h2⟩
  generalize (ls.take j).flatten=D at *
  repeat'((first|(refine A2 (x:=l) hl (by omega) ?_) |refine S2 ?_|(refine T6 ?_ ?_<;>intro h<;>try exact V1 h)|intro el nJ nK|intro el nJ|exact T4|refine T5 ?_ ?_|intro ex)<;>try conv=>whnf)
  all_goals first
   |(exfalso;omega)
   |skip
  refine B0 (ι:=Nat×List (Key×AV)) (fun x=>⟨[(3,.mp 0),(4,.i (An (D++l.take x.1))),(12,.sl 1 (ls.map KV)),(13,.i ls.length),(14,.i j),(18,.sl 2 (l.map A8)),(19,.i l.length),(20,.i x.1)],1,[(0,some (.map x.2))]⟩) (fun x=>x.1≤l.length∧Gm x.2 (Z6 (D++l.take x.1))) (fun x=>l.length-x.1) (0,m) ⟨Nat.zero_le _,by dsimp only;rw[List.take_zero,List.append_nil];exact hm⟩
   (A7 h0 rfl ⟨rfl,(by rw[List.take_zero,List.append_nil];rfl),rfl,rfl,rfl,rfl,rfl,rfl,trivial⟩ ⟨rfl,trivial⟩ rfl rfl rfl) (fun x hI=>?_)
  obtain⟨k,m2⟩:=x
  obtain⟨hk,sH⟩:=hI
  dsimp only at hk sH ⊢
  by_cases nU:k<l.length
  ·obtain⟨p,qE⟩:∃p,l[k]?=some p:=⟨_,List.getElem?_eq_getElem nU⟩
   have ug:=zB p (List.mem_of_getElem? qE)
   have oE:=sH.step ug.1
   have qN:=sH.geti ug.1
   have vU:=sH.keys
   have nt:=htf k p qE
   have nv:An (D++l.take (k+1))=max (An (D++l.take k)) p.col:=by rw[nt,ZI]
   have pU:Z6 (D++l.take (k+1))=upd (Z6 (D++l.take k)) p.col p.lev:=by rw[nt,Uj]
   rw[←pU]at oE
   generalize Z6 (D++l.take k) p.col.toNat=v at *
   generalize An (D++l.take k)=q at *
   repeat'((first|(refine A2 (x:=p) qE (by omega) ?_)|(refine J0 ?_ ?_;exact vU)|refine Rx qN ?_|(refine E7 8 ?_;refine R6 (id:=8) (σ':=⟨[(3,.mp 0),(4,.i q),(8,.iptr (A8 p)),(12,.sl 1 (ls.map KV)),(13,.i ls.length),(14,.i j),(18,.sl 2 (l.map A8)),(19,.i l.length),(20,.i k)],1,[(0,some (.map m2))]⟩) (A6 h0) ?_;refine F5 (id:=8) ⟨[(3,.mp 0),(4,.i (max q p.col)),(12,.sl 1 (ls.map KV)),(13,.i ls.length),(14,.i j),(18,.sl 2 (l.map A8)),(19,.i l.length),(20,.i k)],1,[(0,some (.map (j4 m2 (.i .i64 p.col) (.i (max v p.lev)))))]⟩ ?_ ?_) |refine S2 ?_|(refine T6 ?_ ?_<;>intro h<;>try exact V1 h)|intro el nJ nK|intro el nJ|exact T4|refine T5 ?_ ?_|intro ex)<;>try conv=>whnf)
   all_goals first
    |exact A7 h0 rfl ⟨rfl,rfl,rfl,rfl,rfl,rfl,rfl,rfl,trivial⟩ ⟨rfl,trivial⟩ rfl rfl rfl
    |exact⟨(k+1,j4 m2 (.i .i64 p.col) (.i (max v p.lev))),⟨by dsimp only;omega,oE⟩,by dsimp only;omega,A7 h0 rfl ⟨rfl,(congrArg (fun z:Int=>some (AV.i z)) nv.symm),rfl,rfl,rfl,rfl,rfl,rfl,trivial⟩ ⟨rfl,trivial⟩ rfl rfl rfl⟩
    |(exfalso;omega)
  ·obtain rfl:k=l.length:=by omega
   rw[List.take_length,←hfn]at *
   repeat'((first|refine S2 ?_|(refine T6 ?_ ?_<;>intro h<;>try exact V1 h)|intro el nJ nK|intro el nJ|exact T4|refine T5 ?_ ?_|intro ex)<;>try conv=>whnf)
   all_goals first
    |(exfalso;omega)
    |exact⟨(j+1,m2),⟨by dsimp only;omega,sH⟩,by dsimp only;omega,A6 h0⟩
 ·obtain rfl:j=ls.length:=by omega
  rw[List.take_length]at hm ⊢
  generalize An ls.flatten=q at *
  generalize Z6 ls.flatten=lv at *
  repeat'((first|refine S2 ?_|(refine T6 ?_ ?_<;>intro h<;>try exact V1 h)|intro el nJ nK|intro el nJ|exact T4|refine T5 ?_ ?_|intro ex)<;>try conv=>whnf)
  all_goals first
   |(exfalso;omega)
   |skip
  obtain⟨q1,sR⟩:∃q1:Nat,q+1=(q1:Int):=⟨(q+1).toNat,by omega⟩
  rw[sR,Int.toNat_natCast]
  refine B0 (ι:=Nat) (fun c=>⟨[(3,.mp 0),(9,.row 1 0 (K7 lv 0 c).length),(41,.i q1),(42,.i c)],2,[(0,some (.map m)),(1,some (.row 81 2 0 ((K7 lv 0 c).map A8)))]⟩) (fun c=>c≤q1) (fun c=>q1-c) 0 (Nat.zero_le _)
   (C0 (I0 (d:=9) (e:=81) (sz:=2) rfl) (A7 h0 rfl ⟨rfl,rfl,(congrArg (fun z:Int=>some (AV.i z)) (by omega)),rfl,trivial⟩ ⟨rfl,⟨0,rfl⟩,trivial⟩ rfl rfl rfl)) (fun c hc=>?_)
  have pk:=y8 lv c 0
  have oq:=Jy lv c 0
  rw[Nat.zero_add]at oq
  have qN:=hm.get c
  have vU:=hm.keys
  generalize lv c=v at *
  have oz:c=q1→K7 lv 0 q1=K7 lv 0 c:=fun h=>by rw[h]
  generalize K7 lv 0 c=A at *
  repeat'((first|(refine J0 ?_ ?_;exact vU)|refine Rx qN ?_ |refine S2 ?_|(refine T6 ?_ ?_<;>intro h<;>try exact V1 h)|intro el nJ nK|intro el nJ|exact T4|refine T5 ?_ ?_|intro ex)<;>try conv=>whnf)
  all_goals first
   |(rw[if_pos (by assumption)]at oq;refine⟨c+1,by omega,by omega,?_⟩;rw[oq];exact A7 h0 rfl ⟨rfl,congrArg (fun z:Nat=>some (AV.row 1 0 z)) (by rw[List.length_append];rfl),rfl,rfl,trivial⟩ ⟨rfl,⟨_,congrArg (C4.row 81 2 _) (by rw[List.map_append];rfl)⟩,trivial⟩ rfl rfl rfl)
   |exact A1 rfl (congrArg (fun z:List Pk=>AV.sl 2 (z.map A8)) (oz (by omega)).symm)
   |(rw[if_neg (by assumption),List.append_nil]at oq;refine⟨c+1,by omega,by omega,?_⟩;rw[oq];exact A6 h0)
theorem cD{s:A4}{e:F6}(hr:C3 s=0)(hg:CK s e):∀p∈HK s e,0≤p.col∧p.col<s.cols.length:=by
 intro p hp
 obtain⟨_,_,_,h4,h5,_,_,_⟩:=hg.unu
 have pF:=hg.par
 unfold EI at pF
 unfold HK at hp
 rcases List.mem_append.1 hp with hp|hp
 rcases List.mem_append.1 hp with hp|hp
 ·obtain⟨d,hd,rfl⟩:=List.mem_map.1 hp
  have sg:e.op=10:=by
   rcases h5 with h|h
   ·exact h
   ·rw[List.eq_nil_of_length_eq_zero h]at hd;cases hd
  rw[if_neg (by omega),if_neg (by omega),if_neg (by omega),if_pos sg]at pF
  simp only[Bool.and_eq_true]at pF
  have pA:=of_decide_eq_true pF.1
  unfold Q4 at pA
  split at pA
  ·cases pA
  ·obtain⟨i,hi,he⟩:=List.getElem_of_mem hd
   have:=P2 pA i d (by rw[List.getElem?_eq_getElem hi,he])
   unfold W5 at this
   split at this
   ·exact absurd this (by assumption)
   ·rename_i qM
    have qM:N5 s d=0:=Decidable.of_not_not qM
    unfold N5 CV E6 at qM
    rw[if_pos hr]at qM
    by_cases hc:d.col<1∨(s.cols.length:Int)≤d.col
    ·rw[if_pos hc,if_pos (show (-1:Int)<0 by omega)]at qM;cases qM
    ·dsimp only[W7];omega
 ·unfold P1 at hp
  split at hp
  ·split at hp
   ·rename_i h1 h2
    simp only[List.mem_singleton]at hp
    subst hp
    rcases hg.col (by simp only[o0];omega)with h|h
    ·omega
    ·have:=AR h;exact⟨this.1,this.2.1⟩
   ·cases hp
  ·split at hp
   ·rename_i h1 h2
    simp only[List.mem_singleton]at hp
    subst hp
    rcases hg.col (by simp only[o0];omega)with h|h
    ·omega
    ·have:=AR h;exact⟨this.1,this.2.1⟩
   ·cases hp
 ·obtain⟨c,hc,rfl⟩:=List.mem_map.1 hp
  have vQ:e.op=11:=by
   rcases h4 with h|h
   ·exact h
   ·rw[List.eq_nil_of_length_eq_zero h]at hc;cases hc
  rw[if_neg (by omega),if_neg (by omega),if_neg (by omega),if_neg (by omega),if_pos vQ]at pF
  simp only[Bool.and_eq_true]at pF
  have pA:=of_decide_eq_true pF.2
  unfold X3 at pA
  split at pA
  ·cases pA
  ·obtain⟨i,hi,he⟩:=List.getElem_of_mem hc
   have:=P2 pA i c (by rw[List.getElem?_eq_getElem hi,he])
   unfold Y0 at this
   split at this
   ·cases this
   ·rename_i hb
    have:=AR (show Q7 s c 3=true by simpa using hb)
    exact⟨this.1,this.2.1⟩
theorem cE{lv:Nat→Int}{n:Nat}:∀p∈K7 lv 0 n,0≤p.col∧p.col<n:=fun p hp=>by
 have:=Bl hp
 omega
theorem Hm{s:A4}{c:B7}:∀p∈I3 s c,0≤p.col∧p.col<s.cols.length:=fun p hp=>by
 unfold I3 at hp
 split at hp
 ·exact cE p hp
 ·cases hp
theorem Up{s:A4}{e:F6}:∀p∈Y5 s e,0≤p.col∧p.col<s.cols.length:=fun p hp=>by
 rw[Hl]at hp
 exact cE p hp
theorem jM{s:A4}{e:F6}(hr:C3 s=0)(hg:CK s e):∀p∈Pw s e,0≤p.col∧p.col<s.cols.length:=by
 intro p hp
 unfold Pw at hp
 rcases List.mem_append.1 hp with hp|hp
 rcases List.mem_append.1 hp with hp|hp
 rcases List.mem_append.1 hp with hp|hp
 ·exact cD hr hg p hp
 ·exact Hm p hp
 ·exact Hm p hp
 ·obtain⟨k,_,h⟩:=List.mem_flatMap.1 hp
  exact Up p h
theorem XO{s:A4}{e:F6}:(Y5 s e).length≤s.cols.length:=by rw[Hl];exact y8 _ _ _
abbrev AU(s:A4)(e:F6)(k:Nat):List (List Pk):=[HK s e,I3 s e.cnd,I3 s e.evt]++(e.kids.take k).map (Y5 s)
theorem WG(s:A4)(hr:C3 s=0)(e:F6):Bq s e=true→A3 Tryz.prog 107 [sA s,AQ e] (.sl 2 ((Y5 s e).map A8)):=by
 refine Hj (p:=fun e=>Bq s e=true→A3 Tryz.prog 107 [sA s,AQ e] (.sl 2 ((Y5 s e).map A8))) (fun e ih hg=>?_) e
 have hg:=RR hg
 obtain⟨_,_,nX⟩:=hg.lens
 have hn:=(D2 hr).2.1
 have ni:s.cols.length≤100000:=by omega
 have h1:=bw s hr e hg
 have h2:=HD s e.cnd
 have h3:=HD s e.evt
 have oc:=jM hr hg
 have sw:0<s.cols.length:=by
  obtain⟨_,_,_,_,h5⟩:=D2 hr
  cases hc:s.cols with
  |nil=>rw[hc]at h5;cases h5
  |cons a r=>exact Nat.succ_pos _
 have qJ:(HK s e).length≤7:=by
  obtain⟨q1,q2,_⟩:=hg.lens
  unfold HK
  rw[List.length_append,List.length_append,List.length_map,List.length_map]
  have:(P1 s e).length≤1:=by
   unfold P1
   split
   ·split<;>simp
   ·split<;>simp
  omega
 have hmg:=ZN (AU s e e.kids.length) (fun l hl=>by
  unfold AU at hl
  rw[List.take_length]at hl
  simp only[List.cons_append,List.nil_append,List.mem_cons]at hl
  rcases hl with rfl|rfl|rfl|hl
  ·exact⟨by omega,fun p hp=>by have:=cD hr hg p hp;omega⟩
  ·exact⟨by have:=CY s e.cnd;omega,fun p hp=>by have:=Hm p hp;omega⟩
  ·exact⟨by have:=CY s e.evt;omega,fun p hp=>by have:=Hm p hp;omega⟩
  ·obtain⟨k,_,rfl⟩:=List.mem_map.1 hl
   exact⟨by have:=XO (s:=s) (e:=k);omega,fun p hp=>by have:=Up p hp;omega⟩)
 have oY:(AU s e e.kids.length).flatten=Pw s e:=by
  unfold AU Pw
  rw[List.take_length]
  simp[List.flatMap_def,List.append_assoc]
 rw[oY,lV sw oc,←Hl]at hmg
 generalize Y5 s e=R at *
 rw[DI]at h1 ⊢
 refine B5 Tryz.func107 36 fun nL E h0=>?_
 clear nL
 repeat'((first|(refine E7 1 ?_;refine R6 (id:=1) (σ':=⟨[(2,.iptr (sL s)),(3,.iptr (Bp e))],2,[]⟩) (A6 h0) ?_;refine F5 (id:=1) ⟨[(2,.iptr (sL s)),(3,.iptr (Bp e)),(5,.row 2 0 3)],3,[(2,some (.row 23 1 0 ((AU s e 0).map KV)))]⟩ ?_ ?_)|(refine CE ?_ ?_ ?_;kernel_rfl;kernel_rfl)|refine R5 (T:=193) rfl ?_|refine A0 h1 ?_|refine A0 h2 ?_|refine A0 h3 ?_ |refine S2 ?_|(refine T6 ?_ ?_<;>intro h<;>try exact V1 h)|intro el nJ nK|intro el nJ|exact T4|refine T5 ?_ ?_|intro ex)<;>try conv=>whnf)
 all_goals first
  |exact A7 h0 rfl ⟨rfl,rfl,rfl,trivial⟩ ⟨⟨_,rfl⟩,trivial⟩ rfl rfl rfl
  |skip
 refine B0 (ι:=Nat) (fun k=>⟨[(2,.iptr (sL s)),(5,.row 2 0 (AU s e k).length),(21,.sl 19 (e.kids.map Cr)),(22,.i e.kids.length),(23,.i k)],3,[(2,some (.row 23 1 0 ((AU s e k).map KV)))]⟩) (fun k=>k≤e.kids.length) (fun k=>e.kids.length-k) 0 (Nat.zero_le _)
  (by exact A6 h0) (fun k hk=>?_)
 by_cases nN:k<e.kids.length
 ·obtain⟨x,hx⟩:∃x,e.kids[k]?=some x:=⟨_,List.getElem?_eq_getElem nN⟩
  have hq:=ih x (List.mem_of_getElem? hx) (hg.kid x (List.mem_of_getElem? hx)).2
  have nt:AU s e (k+1)=AU s e k++[Y5 s x]:=by
   unfold AU
   rw[F1 hx,List.map_append,List.append_assoc];rfl
  have nU:(AU s e k).length≤5:=by
   unfold AU
   rw[List.length_append,List.length_map,List.length_take]
   simp only[List.length_cons,List.length_nil];omega
  generalize AU s e k=A at *
  generalize Y5 s x=B at *
  repeat'((first|(refine A2 (x:=x) hx (by omega) ?_)|refine A0 hq ?_ |refine S2 ?_|(refine T6 ?_ ?_<;>intro h<;>try exact V1 h)|intro el nJ nK|intro el nJ|exact T4|refine T5 ?_ ?_|intro ex)<;>try conv=>whnf)
  all_goals first
   |(exfalso;omega)
   |(refine⟨k+1,by omega,by omega,?_⟩;rw[nt];exact A7 h0 rfl ⟨rfl,congrArg (fun z:Nat=>some (AV.row 2 0 z)) (by rw[List.length_append];rfl),rfl,rfl,rfl,trivial⟩ ⟨⟨_,congrArg (C4.row 23 1 _) (by rw[List.map_append];rfl)⟩,trivial⟩ rfl rfl rfl)
 ·obtain rfl:k=e.kids.length:=by omega
  repeat'((first|refine I6 2 ?_|refine A0 hmg ?_ |refine S2 ?_|(refine T6 ?_ ?_<;>intro h<;>try exact V1 h)|intro el nJ nK|intro el nJ|exact T4|refine T5 ?_ ?_|intro ex)<;>try conv=>whnf)
  all_goals first
   |(exfalso;omega)
   |exact A1 rfl rfl
end Go.Proofs.YtiphlhoclaogjaaGreatDoor
