/- Chapter 18: the table of an extract of all columns and rows: plain. -/
import Derived.Test.YtjkbhaaobhgkdabGreatDoorRTc5
import Derived.Test.YtjkbhaaobhgkdabGreatDoorRTx7
import Derived.Test.YtjkbhaaobhgkdabGreatDoorRB10
import Derived.Test.YtjkbhaaobhgkdabGreatDoorRB8
import Derived.Test.YtjkbhaaobhgkdabGreatDoorRCA
import Derived.Test.YtjkbhaaobhgkdabGreatDoorRCf1
import Derived.Test.YtjkbhaaobhgkdabGreatDoorRTa5
import Derived.Test.YtjkbhaaobhgkdabGreatDoorRQd0
import Derived.Test.YtjkbhaaobhgkdabGreatDoorRKa0
set_option linter.unusedVariables false
set_option linter.unnecessarySimpa false
set_option linter.unusedSimpArgs false
set_option maxHeartbeats 64000000
namespace Go.Proofs.YtjkbhaaobhgkdabGreatDoor
open Go Go.Av
attribute [local irreducible] D0 B0 D2 C7 DQ D1 C8 St.le A3 B6
set_option maxRecDepth 100000
theorem cE{a b:List UInt8}(h:D5 a=D5 b)(cs:List Code)(x y:Int):T0 a cs x y=T0 b cs x y:=by unfold T0;rw[Ow h,Ow h,Gv h]
def Uq(cs:List Code):Bool:=(List.range (C3 E3 cs).toNat).all fun lev=>(H6 E3 cs (C3 E3 cs-1)).all fun v=>((H6 E3 cs lev).any fun m:Nat=>decide (M6 E3 cs v lev=m)) && (H6 E3 cs lev).all fun y:Nat=>decide (T0 E3 cs v y=decide (M6 E3 cs v lev=y))
theorem fS:LJ.all Uq=true:=by decide +kernel
theorem cF(nm:List UInt8)(cs:List Code)(lev:Int):(H6 nm cs lev).Nodup:=by
 unfold H6
 split
 ·unfold FV
  exact List.nodup_range.filter _
 ·exact List.nodup_nil
def EJ(s:A4)(d:Pk):List Int:=(H6 (C1 s (B4 s d.col)).1 (C1 s (B4 s d.col)).2 d.lev).map fun n:Nat=>(n:Int)
theorem jg(s:A4)(d:Pk):j6 s d=-1::EJ s d:=rfl
theorem cG(s:A4)(d:Pk):(EJ s d).Nodup:=by
 unfold EJ
 refine List.pairwise_map.2 ((cF _ _ _).imp fun h e=>h ?_)
 omega
theorem ld{s:A4}{d:Pk}:∀c∈EJ s d,0≤c:=fun c h=>by
 unfold EJ at h
 rw[List.mem_map]at h
 obtain⟨n,_,rfl⟩:=h
 omega
theorem Ko{s:A4}(hr:C5 s=0){d:Pk}(h:I4 s d=0):1≤d.col∧d.col<s.cols.length∧0≤d.lev∧d.lev≤B9 s d.col:=by
 unfold I4 l8 at h
 rw[if_pos hr]at h
 split at h
 ·cases h
 ·rename_i h1
  split at h
  ·cases h
  ·have hf:B9 s d.col=F0 s d.col:=by unfold B9;rw[if_pos hr]
   have h2:1≤d.col∧d.col<s.cols.length:=by
    unfold F0 at h1
    by_cases hc:d.col<1∨(s.cols.length:Int)≤d.col
    ·rw[if_pos hc]at h1;omega
    ·omega
   exact⟨h2.1,h2.2,by omega,by omega⟩
structure jh(s:A4)(d:Pk)(q:List Int)(v:Int):Prop where
 get:q[d.col.toNat]?=some v
 mem:I0 s d.col d.lev v∈EJ s d
 und:∀y∈EJ s d,T0 (C1 s (B4 s d.col)).1 (C1 s (B4 s d.col)).2 v y=decide (I0 s d.col d.lev v=y)
theorem fT{s:A4}(hd:C4 s){d:Pk}(hp:I4 s d=0)(hk:(B4 s d.col).kind=2){q:List Int}(h:o9 s q):∃v,jh s d q v:=by
 obtain⟨h1,h2,h3,h4⟩:=Ko hd.ok hp
 obtain⟨v,c,hv,hc,wF⟩:=h.get (i:=d.col.toNat) (by omega)
 have nh:B4 s d.col=c:=B7 hc
 rw[nh]at hk
 have qZ:c=Dd∨c=Hn:=by
  rcases hd.col hc with ⟨h0,_⟩|⟨_,h⟩|⟨_,nm,hm⟩
  ·omega
  ·exact h
  ·have:=hm.kind;omega
 obtain⟨hf,pN,nO⟩:=hd.lst qZ
 have rI:=Cu hf
 have qa:=BJ pN (C1 s c).2
 have hfi:B9 s d.col=C3 E3 (C1 s c).2-1:=by
  unfold B9 F0 N7
  rw[if_pos hd.ok,if_neg (by omega),nh,if_pos hk,qa]
 obtain⟨n,hnv,wn⟩:∃n:Nat,v=n∧n∈H6 E3 (C1 s c).2 (C3 E3 (C1 s c).2-1):=by
  rcases wF with ⟨h5,_⟩|⟨_,n,h5,h6⟩|⟨h5,_⟩
  ·omega
  ·exact⟨n,h5,by rw[qa,Bf pN]at h6;exact h6⟩
  ·omega
 subst hnv
 have sd:=(MJ (column:=d.col) (level:=d.lev) hd.ok h1 hc hk h3 h4 (x:=n) (by unfold J3;rw[nh,qa,Bf pN];exact wn)).1
 have ht:=List.all_eq_true.1 fS _ hf
 simp only[Uq,Bool.and_eq_true,decide_eq_true_eq,List.all_eq_true,List.mem_range,List.any_eq_true]at ht
 obtain⟨⟨m,hm1,qt⟩,hu⟩:=ht d.lev.toNat (by omega) n wn
 rw[Int.toNat_of_nonneg h3]at hm1 qt hu
 refine⟨n,hv,?_,fun y hy=>?_⟩
 ·rw[sd,Gv pN,qt]
  unfold EJ
  rw[nh,Bf pN]
  exact List.mem_map.2 ⟨m,hm1,rfl⟩
 ·unfold EJ at hy
  rw[nh,Bf pN,List.mem_map]at hy
  obtain⟨z,hz,rfl⟩:=hy
  rw[nh,sd,Gv pN,cE pN]
  exact hu z hz
theorem cH{s:A4}{x:K3}(h:DL s x){i:Int}{cnd:B1}{cols:List Int}(hi:i∈u7 s x cnd cols):∃(k:Nat) (r q:List Int),i=k∧x.rows[k]?=some r∧o9 s q∧r=r.headD 0::q.tail:=by
 obtain⟨k,r,h1,h2⟩:=PL hi
 obtain⟨q,h3,h4,_⟩:=h.row r (List.mem_of_getElem? h2)
 exact⟨k,r,q,h1,h2,h3,h4⟩
theorem cI{s:A4}(hd:C4 s){x:K3}(h:DL s x){dims:List Pk}(sg:L0 s dims=0){mea:Int}(hm:mea=-1∨P1 s mea 3=true){k:Nat}{r q:List Int}(h1:x.rows[k]?=some r)(h2:o9 s q)(h3:r=r.headD 0::q.tail):
  KE s x dims mea k=⟨r.headD 0,if 0≤mea then q.getD mea.toNat 0 else 0,dims.map fun d=>I0 s d.col d.lev (q.getD d.col.toNat 0)⟩:=by
 have hg:x.rows.getD ((k:Nat):Int).toNat []=r:=by rw[Int.toNat_natCast];exact D3 h1
 have e1:Dh x k=r.headD 0:=by unfold Dh;rw[hg]
 have e2:DH s x mea k=if 0≤mea then q.getD mea.toNat 0 else 0:=by
  unfold DH
  by_cases h0:0≤mea
  ·rw[if_pos h0,if_pos h0]
   have hb:P1 s mea 3=true:=hm.elim (fun h=>by omega) id
   have nt:=PN hd.ok hb
   have rC:=CW hb
   obtain⟨v,c,hv,hc,wF⟩:=h2.get (i:=mea.toNat) (by omega)
   obtain⟨n,hn,_,uq⟩:=hd.chain (i:=mea.toNat) (by omega) hc
   unfold Ji
   rw[hg,h.picks,h3,D3 hv]
   have hk:=Qv hd h2 (r.headD 0) (i:=mea.toNat) (by omega) (by omega) hv (lev:=B9 s mea.toNat) (by omega) (Int.le_refl _)
   rw[Int.toNat_of_nonneg h0]at hk hn uq
   show (U2 s mea (B9 s mea) ((K7 s).zip (r.headD 0::q.tail).tail)).1=v
   rw[hk,hn,(uq v wF).1]
  ·rw[if_neg h0,if_neg h0]
 have e3:CG s x dims k=dims.map fun d=>I0 s d.col d.lev (q.getD d.col.toNat 0):=by
  unfold CG
  refine List.map_congr_left fun d qS=>?_
  obtain⟨h5,h6,h7,h8⟩:=Ko hd.ok ((Ay sg).2.2 d qS).1
  obtain⟨v,c,hv,hc,wF⟩:=h2.get (i:=d.col.toNat) (by omega)
  rw[hg,h.picks,h3,D3 hv]
  have hk:=Qv hd h2 (r.headD 0) (i:=d.col.toNat) (by omega) (by omega) hv (lev:=d.lev) h7 (by rw[Int.toNat_of_nonneg (by omega)];exact h8)
  rw[Int.toNat_of_nonneg (show 0≤d.col by omega)]at hk
  show (U2 s d.col d.lev ((K7 s).zip (r.headD 0::q.tail).tail)).1=_
  rw[hk]
 unfold KE
 rw[e1,e2,e3]
def IR(s:A4)(x:K3)(dims:List Pk)(mea:Int)(cnd:B1):List b9:=(u7 s x cnd (Aw mea)).map (KE s x dims mea)
theorem cJ{s:A4}(hd:C4 s){x:K3}(h:DL s x){dims:List Pk}(sg:L0 s dims=0){mea:Int}(hm:mea=-1∨P1 s mea 3=true){cnd:B1}:∀y∈IR s x dims mea cnd,y.codes.length=dims.length∧∀(i:Nat) d,dims[i]?=some d→∃a,y.codes[i]?=some a∧a∈EJ s d:=by
 intro y hy
 unfold IR at hy
 rw[List.mem_map]at hy
 obtain⟨i,hi,rfl⟩:=hy
 obtain⟨k,r,q,rfl,h1,h2,h3⟩:=cH h hi
 rw[cI hd h sg hm h1 h2 h3]
 refine⟨List.length_map ..,fun j d hj=>?_⟩
 obtain⟨h4,h5⟩:=(Ay sg).2.2 d (List.mem_of_getElem? hj)
 obtain⟨v,hv⟩:=fT hd h4 h5 h2
 refine⟨I0 s d.col d.lev v,?_,hv.mem⟩
 dsimp only
 rw[List.getElem?_map,hj]
 show some (I0 s d.col d.lev (q.getD d.col.toNat 0))=_
 rw[D3 hv.get]
theorem Ur{s:A4}:∀{ds:List Pk},(∀d∈ds,(j6 s d).length≤11)→(J5 s ds).length≤11 ^ ds.length
 |[],_=>by simp[J5]
 |d::r,h=>by
  have h1:=Ur (s:=s) (ds:=r) fun x hx=>h x (List.mem_cons_of_mem _ hx)
  have h2:(J5 s (d::r)).length=(j6 s d).length*(J5 s r).length:=EI _ _
  rw[h2,List.length_cons,Nat.pow_succ,Nat.mul_comm (11 ^ r.length)]
  exact Nat.mul_le_mul (h d (List.mem_cons_self ..)) h1
structure Re(s:A4)(dims:List Pk)(mea:Int)(cnd:B1):Prop where
 dims:L0 s dims=0
 mea:mea=-1∨P1 s mea 3=true
 cnd:J6 s cnd=0
theorem fU{s:A4}(hd:C4 s)(l:List UInt8)(a:Nat):Re s (IQ l s a).1.1 (IQ l s a).1.2.1 (IQ l s a).1.2.2:=by
 refine⟨Vv l _ hd,?_,(YU hd l 2 _ (by decide)).1⟩
 show (IP l s a).1=-1∨P1 s (IP l s a).1 3=true
 unfold IP
 split
 ·exact .inr (jI hd l _)
 ·exact .inl rfl
theorem cK{s:A4}(hd:C4 s){dims:List Pk}{mea:Int}{cnd:B1}(h:Re s dims mea cnd):N4 s (Ab dims mea cnd)=0:=OL hd.ok (show D5 [116]=true by decide) rfl h.cnd h.dims h.mea rfl rfl
theorem Qy{s:A4}(hd:C4 s){dims:List Pk}(h:L0 s dims=0):(J5 s dims).length≤1331:=by
 obtain⟨h1,h2,h3⟩:=Ay h
 have hl:=Ur (s:=s) (ds:=dims) fun d qS=>by
  obtain⟨h4,h5⟩:=h3 d qS
  obtain⟨h6,h7,_,_⟩:=Ko hd.ok h4
  obtain⟨c,hc⟩:∃c,s.cols[d.col.toNat]?=some c:=⟨_,List.getElem?_eq_getElem (by omega)⟩
  have nh:B4 s d.col=c:=B7 hc
  rw[nh]at h5
  have qZ:c=Dd∨c=Hn:=by
   rcases hd.col hc with ⟨h0,_⟩|⟨_,h⟩|⟨_,nm,hm⟩
   ·omega
   ·exact h
   ·have:=hm.kind;omega
  have nO:=(hd.lst qZ).2.2
  unfold j6
  rw[List.length_cons,List.length_map,nh]
  have:(H6 (C1 s c).1 (C1 s c).2 d.lev).length≤(C1 s c).2.length:=by
   unfold H6
   split
   ·exact Gr _ _ _
   ·exact Nat.zero_le _
  omega
 have:11 ^ dims.length≤11 ^ 3:=Nat.pow_le_pow_right (by decide) h2
 have e:11 ^ 3=1331:=by decide
 omega
theorem cL{s:A4}(hd:C4 s){x:K3}(h:DL s x){dims:List Pk}{mea:Int}{cnd:B1}(ha:Re s dims mea cnd):
  Ax s x dims mea cnd=0∧Jt s x dims mea cnd=⟨dims,mea,(J5 s dims).map fun l=>L1 l (IR s x dims mea cnd)⟩:=by
 have hx:=Vw hd h
 have hq:=cK hd ha
 have zu:AM x.picks (CF s (DG dims mea cnd))=true:=by
  rw[h.picks]
  unfold CF
  split
  ·rename_i hr
   unfold Hz at hr
   exact jN hd (Bool.and_eq_true _ _▸hr).2
  ·exact Td fun n hn=>by cases hn
 have vc:V8 s dims [[]]=some (J5 s dims):=by
  rw[jf,if_neg (by have:=Qy hd ha.dims;omega)]
 have hE:Ax s x dims mea cnd=0:=by
  unfold Ax
  rw[if_neg (by omega),if_neg (by omega),if_neg (by rw[zu];decide),vc]
  rfl
 refine⟨hE,?_⟩
 unfold Jt
 rw[if_pos hE,vc]
 show (⟨dims,mea,S7 s x dims mea (J5 s dims) (u7 s x cnd (Aw mea))⟩:LZ)=_
 rw[fO]
 rfl
def cM(l:List Int):Bool:=l.all fun c=>decide (c≠-1)
def nD(cells:List F3):Int:=H0 (·+·) (fun c:F3=>if cM c.codes=true then (c.rows.length:Int)else 0) cells
structure gJ(s:A4)(N F:List Pk):Prop where
 len:F.length=N.length
 at':∀(i:Nat) n p,N[i]?=some n→F[i]?=some p→p.col=n.col∧n.lev≤p.lev∧p.lev≤B9 s n.col
theorem gJ.get{s:A4}{N F:List Pk}(h:gJ s N F){k:Nat}{p:Pk}(hp:F[k]?=some p):∃n,N[k]?=some n∧p.col=n.col∧n.lev≤p.lev∧p.lev≤B9 s n.col:=by
 have nR:k<N.length:=by have:=(List.getElem?_eq_some_iff.1 hp).1;rw[←h.len];exact this
 exact⟨_,List.getElem?_eq_getElem nR,h.at' k _ p (List.getElem?_eq_getElem nR) hp⟩
theorem fV{s:A4}{d:DD}{picks:List Pk}(h:p0 s d picks=0):∀p∈picks,0≤p.col∧p.col<s.cols.length:=by
 intro p hp
 unfold p0 at h
 split at h
 ·contradiction
 ·split at h
  ·contradiction
  ·rename_i h2
   obtain⟨k,hk⟩:=List.getElem?_of_mem hp
   have:=EF (Decidable.of_not_not h2) k p hk
   omega
theorem cN(s:A4)(hd:C4 s)(rows:List (List Int))(d:DD)(picks:List Pk)(hl:picks.length≤1000)(secret:Int):A3 Tryz.prog 13 [.agg (Q1 s rows),Jp d,.sl 2 (picks.map B5),.i secret] (.tup [BP (Jz s rows d picks secret (p0 s d picks)),.i (Fh s rows secret (p0 s d picks))]) :=
 Vt s rows d picks secret (p0 s d picks) hl (Vq s hd d picks) fV
abbrev nM:Nat:=35
abbrev fW:List AV:=[.v (.slice none 0 0),.v (.slice none 0 0),.v (.slice none 0 0),.v (.slice none 0 0),.i 0]
abbrev lg:List AV:=[.str [],.i 0,.v (.slice none 0 0),.v (.slice none 0 0)]
abbrev gK:List AV:=[.str [97,108,108,95,114,111,119,115],.str [115,114,99],.i 1,.i 0,.i 0,.i 0,.i 0,AR,.i 1,.i 1,.i 0,.sl 17 [[.str [113],.i 1,.i 1,.i 0,.i 0,.i 0,.i 0,AR,.sl 2 [[.i 1,.i 0]],.i (-1),AR,.i 0,.i 0,.i 0,.i 0,.i 0,AR]]]
def IU(l:List UInt8)(a:Nat)(most:Int):(A4×List (List Int)×K3)×Nat :=
 (((Az l a most).1.1,(Az l a most).1.2,Jz (Az l a most).1.1 (Az l a most).1.2 U4 (K7 (Az l a most).1.1) (IH l (Az l a most).2).1 (p0 (Az l a most).1.1 U4 (K7 (Az l a most).1.1))),(IH l (Az l a most).2).2)
theorem ZW(l:List UInt8)(a:Nat)(most:Int)(hl:l.length≤400)(hm:0≤most)(qt:most≤1000):B6 Tryz.prog 5 1 (V3 l a) [.ref 0 0,.i most] 1 (V3 l (IU l a most).2) (.tup [.agg (Q1 (IU l a most).1.1 (IU l a most).1.2.1),BP (IU l a most).1.2.2]):=by
 have h1:=fJ l a most hl hm qt
 have hd:=(XF l a hm).1
 unfold IU
 dsimp only
 generalize Az l a most=q at *
 obtain⟨⟨s,rows⟩,b⟩:=q
 dsimp only at *
 have h2:=fB s hd
 have h3:=Vu l b hl
 have si:(K7 s).length≤1000:=by
  have:=hd.lens
  have:=CH s (s.cols.length-1)
  unfold K7
  omega
 generalize IH l b=z at *
 obtain⟨yY,b2⟩:=z
 dsimp only at *
 have h4:=CA (l':=[.agg (Q1 s rows),.agg gK,.sl 2 ((K7 s).map B5),.i yY]) (cN s hd rows U4 (K7 s) si yY) ⟨.refl _,jd,.refl _,.refl _,trivial⟩
 generalize Jz s rows U4 (K7 s) yY (p0 s U4 (K7 s))=X at *
 generalize Fh s rows yY (p0 s U4 (K7 s))=xe at *
 generalize K7 s=P at *
 clear hd si
 refine X6 Tryz.func5 31 fun E h0=>?_
 repeat'((first|refine nc [0] [0] h1 rfl rfl rfl ⟨rfl,trivial⟩ ?_|(refine G3 3 ?_;refine P5 (id:=3) (σ':=⟨[(0,.ref 0 0),(4,.ref 1 0),(5,.ref 2 0),(6,.iptr (Q1 s rows)),(7,.iptr gK),(8,.sl 2 (P.map B5))],5,[(0,some (.box [.sl 1 (l.map O2),.i b])),(1,some (.box fW)),(2,some (.box lg))]⟩) (A6 h0) ?_;refine H4 (id:=3) ⟨[(4,.ref 1 0),(5,.ref 2 0),(6,.iptr (Q1 s rows)),(9,.ref 5 0)],6,[(0,some (.box [.sl 1 (l.map O2),.i b2])),(1,some (.box fW)),(2,some (.box lg)),(5,some (.box (QX X)))]⟩ ?_ ?_)|(refine G3 4 ?_;refine P5 (id:=4) (σ':=⟨[(4,.ref 1 0),(5,.ref 2 0),(6,.iptr (Q1 s rows)),(9,.iptr (QX X))],6,[(0,some (.box [.sl 1 (l.map O2),.i b2])),(1,some (.box fW)),(2,some (.box lg))]⟩) (A6 h0) ?_;refine H4 (id:=4) ⟨[(4,.ref 1 0),(5,.ref 2 0)],6,[(0,some (.box [.sl 1 (l.map O2),.i b2])),(1,some (.box (Q1 s rows))),(2,some (.box (QX X)))]⟩ ?_ ?_) |refine S2 ?_|(refine T6 ?_ ?_<;>intro h<;>try exact V1 h)|intro el nN nP|intro el nN|exact T4|refine T5 ?_ ?_|intro ex|refine A1 h2 ?_|refine nc [0] [0] h3 rfl rfl rfl ⟨rfl,trivial⟩ ?_|refine A1 h4 ?_)<;>try conv=>whnf)
 all_goals first
  |(exfalso;omega)
  |exact A8 h0 rfl ⟨rfl,rfl,rfl,rfl,trivial⟩ ⟨rfl,rfl,rfl,rfl,trivial⟩ rfl rfl rfl
  |exact A8 h0 rfl ⟨rfl,rfl,trivial⟩ ⟨rfl,rfl,rfl,trivial⟩ rfl rfl rfl
  |exact L8 (rvs:=[.cell 4 lZ,.cell 5 nM]) (vs:=[.agg (Q1 s rows),BP X]) ⟨1,_,_,rfl,rfl,inferInstance,rfl,rfl,2,_,_,rfl,rfl,inferInstance,rfl,rfl,trivial⟩ rfl rfl (A6 h0) rfl
theorem ji(l:List UInt8)(a:Nat){most:Int}(h0:0≤most)(h1:most≤200):C4 (IU l a most).1.1∧DL (IU l a most).1.1 (IU l a most).1.2.2:=by
 obtain⟨hd,hs⟩:=XF l a h0
 exact⟨hd,(fL hd hs (by omega) (jb l _)).2⟩
theorem fX{s:A4}(hd:C4 s){x:K3}{dims:List Pk}{mea:Int}(hm:mea=-1∨P1 s mea 3=true){cnd:B1}:∀y∈IR s x dims mea cnd,-1099511627776≤y.val∧y.val≤1099511627776:=by
 intro y hy
 unfold IR at hy
 rw[List.mem_map]at hy
 obtain⟨i,_,rfl⟩:=hy
 refine UO hd.ok ?_ x i
 rcases hm with hm|hm
 ·exact .inl hm
 ·rw[OC _ _ _ (by decide)]at hm
  exact .inr (of_decide_eq_true hm)
theorem fY{s:A4}{x:K3}(h:DL s x)(dims:List Pk)(mea:Int)(cnd:B1):(IR s x dims mea cnd).length≤200:=by
 unfold IR
 rw[List.length_map]
 exact Nat.le_trans (PM s x cnd (Aw mea)) h.len
structure IV(c:F3):Prop where
 cnt:0≤c.cnt∧c.cnt≤200
 sum:-1000000000000000≤c.sum∧c.sum≤1000000000000000
 amo:0≤c.amo∧c.amo≤1000000000000000
 fst:0≤c.fst∧c.fst≤1000000000000000
 snd:0≤c.snd∧c.snd≤1000000000000000
 rows:c.rows.length≤200
theorem fZ{Ls:List b9}(hl:Ls.length≤200)(hv:∀y∈Ls,-1099511627776≤y.val∧y.val≤1099511627776)(l:List Int):IV (L1 l Ls):=by
 obtain⟨h1,h2,_⟩:=Ul (codes:=l) hv Ls.length (Nat.le_refl _)
 rw[List.take_length]at h1 h2
 have h3:=(DO l Ls).two
 obtain⟨_,g1,g2,g3,g4⟩:=h1
 obtain⟨o1,o2⟩:=h2
 exact⟨by omega,by omega,by omega,by omega,by omega,by omega⟩
theorem OQ{α:Type}{f:α→Int}{B:Int}:∀{l:List α},(∀x∈l,-B≤f x∧f x≤B)→-(B*l.length)≤H0 (·+·) f l∧H0 (·+·) f l≤B*l.length
 |[],_=>by simp[H0]
 |a::r,h=>by
  have h1:=h a (List.mem_cons_self ..)
  have h2:=OQ (f:=f) (B:=B) (l:=r) fun x hx=>h x (List.mem_cons_of_mem _ hx)
  rw[H0,List.length_cons]
  rw[Int.natCast_add,Int.mul_add]
  omega
theorem IW{α:Type}{op:Int→Int→Int}(h:KF op)(f:α→Int){l:List α}{k:Nat}{x:α}(hx:l[k]?=some x):H0 op f (l.take (k+1))=op (H0 op f (l.take k)) (f x):=by
 rw[I3 hx,BA h]
theorem jj{s:A4}(hd:C4 s){d:Pk}(h4:I4 s d=0)(h5:(B4 s d.col).kind=2):(EJ s d).length≤10:=by
 obtain⟨h6,h7,_,_⟩:=Ko hd.ok h4
 obtain⟨c,hc⟩:∃c,s.cols[d.col.toNat]?=some c:=⟨_,List.getElem?_eq_getElem (by omega)⟩
 have nh:B4 s d.col=c:=B7 hc
 rw[nh]at h5
 have qZ:c=Dd∨c=Hn:=by
  rcases hd.col hc with ⟨h0,_⟩|⟨_,h⟩|⟨_,nm,hm⟩
  ·omega
  ·exact h
  ·have:=hm.kind;omega
 have nO:=(hd.lst qZ).2.2
 unfold EJ
 rw[List.length_map,nh]
 have:(H6 (C1 s c).1 (C1 s c).2 d.lev).length≤(C1 s c).2.length:=by
  unfold H6
  split
  ·exact Gr _ _ _
  ·exact Nat.zero_le _
 omega
structure mQ(s:A4)(D:List Pk)(cells:List F3)(c:F3):Prop where
 len:c.codes.length=D.length
 rows:(c.rows.length:Int)=c.cnt
 snd:c.snd≤c.fst
 two:c.fst+c.snd≤c.amo
 bd:IV c
 place:∀(i:Nat) d,D[i]?=some d→c.codes[i]?=some (-1)→∃C:Int→F3,XM c C (EJ s d)∧∀q∈EJ s d,IV (C q)∧∃n:Nat,E6 (fun z:F3=>decide (z.codes=c.codes.set i q)) cells 0=n∧cells[n]?=some (C q)
theorem jk{s:A4}(hd:C4 s){x:K3}(hX:DL s x){D:List Pk}{M:Int}{C:B1}(ha:Re s D M C):
  ∃cells,Jt s x D M C=⟨D,M,cells⟩∧Ax s x D M C=0∧cells.length≤1331∧∀(k:Nat) c,cells[k]?=some c→mQ s D cells c:=by
 obtain⟨hE,hT⟩:=cL hd hX ha
 refine⟨_,hT,hE,by rw[List.length_map];exact Qy hd ha.dims,fun k c hc=>?_⟩
 rw[List.getElem?_map,Option.map_eq_some_iff]at hc
 obtain⟨l,hl,rfl⟩:=hc
 have vA:=List.mem_of_getElem? hl
 have hf:=DO l (IR s x D M C)
 have hb:=fun l=>fZ (fY hX D M C) (fX hd ha.mea) l
 refine⟨by rw[hf.codes];exact Ma vA,by rw[hf.rows,hf.cnt,List.length_map],hf.ord.le,hf.two,hb l,fun i d hi hc=>?_⟩
 rw[hf.codes]at hc ⊢
 refine⟨fun k=>L1 (l.set i k) (IR s x D M C),fQ hc (cG s d) ld (fun y hy=>(cJ hd hX ha.dims ha.mea y hy).2 i d hi),fun q hq=>⟨hb _,cD (fR vA hi (by rw[jg];exact List.mem_cons_of_mem _ hq))⟩⟩
structure DivW(s:A4)(D:List Pk)(M:Int)(cells:List F3):Prop where
 len:1≤cells.length∧cells.length≤1331
 row:∀c∈cells,c.codes.length=D.length∧c.rows.length≤200
 first:∃c,cells[0]?=some c∧c.cnt=nD cells
 has:∀(i:Nat) c,cells[i]?=some c→cM c.codes=true→∀key∈c.rows,∀(n:Nat) o,cells[n]?=some o→(o.rows.any fun y=>decide (y=key))=UB ⟨D,M,cells⟩ i n
structure PartW(A Y N:List F3):Prop where
 len:A.length≤1331∧Y.length=A.length∧N.length=A.length
 get:∀(k:Nat) a y n,A[k]?=some a→Y[k]?=some y→N[k]?=some n→y.cnt+n.cnt≤a.cnt∧IV a∧IV y∧IV n∧∀key∈y.rows,(n.rows.any fun z=>decide (z=key))=false∧(a.rows.any fun z=>decide (z=key))=true
def nE(z:Int×Int×Int)(a:Int):Int×Int×Int:=(z.1+a,if z.2.1<a then (a,z.2.1)else if z.2.2<a then (z.2.1,a)else z.2)
structure DomW(rows:List (List Int))(m:Int)(c:F3)(K:Nat→Int×Int×Int):Prop where
 zero:K 0=(0,0,0)
 last:K rows.length=(c.amo,c.fst,c.snd)
 bd:∀j,j≤rows.length→(0≤(K j).1∧(K j).1≤1000000000000000)∧(0≤(K j).2.1∧(K j).2.1≤1000000000000000)∧(0≤(K j).2.2∧(K j).2.2≤1000000000000000)
 row:∀(j:Nat) r,rows[j]?=some r→∃key v,r[0]?=some key∧r[m.toNat]?=some v∧(-1099511627776≤v∧v≤1099511627776)∧K (j+1)=if (c.rows.any fun y=>decide (y=key))=true then nE (K j) (IL v)else K j
 sum:max c.sum (-c.sum)≤c.amo
 cel:IV c
structure CoaW(und:Int→Int→Bool)(F G:List F3):Prop where
 len:F.length≤1331∧G.length≤1331
 fine:∀(k:Nat) z,F[k]?=some z→IV z∧∃c,z.codes=[c]
 coarse:∀(k:Nat) y,G[k]?=some y→IV y∧∃b,y.codes=[b]∧H0 (·+·) (fun z:F3=>if z.codes.headD 0≠-1∧(b=-1∨und (z.codes.headD 0) b=true)then z.cnt else 0) F=y.cnt
end Go.Proofs.YtjkbhaaobhgkdabGreatDoor
