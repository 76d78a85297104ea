/- Chapter 18: what a table is asked of. -/
import Derived.Test.YtiphlhoclaogjaaGreatDoorQTx6
import Derived.Test.YtiphlhoclaogjaaGreatDoorQF5
import Derived.Test.YtiphlhoclaogjaaGreatDoorQTa5
import Derived.Test.YtiphlhoclaogjaaGreatDoorQUb1
import Derived.Test.YtiphlhoclaogjaaGreatDoorQUb2
import Derived.Test.YtiphlhoclaogjaaGreatDoorQCf1
set_option linter.unusedVariables false
set_option linter.unnecessarySimpa false
set_option linter.unusedSimpArgs false
set_option maxHeartbeats 64000000
namespace Go.Proofs.YtiphlhoclaogjaaGreatDoor
open Go Go.Av
attribute [local irreducible] C7 B1 D1 C8 DQ D0 C6 St.le A3 B8
set_option maxRecDepth 100000
def EG(l:List UInt8)(s:A4)(a:Nat):Int×Nat:=if (B7 l a 2).1=1 then (((S6 l (B7 l a 2).2 s 3).1:Int),(S6 l (B7 l a 2).2 s 3).2)else (-1,(B7 l a 2).2)
def EH(l:List UInt8)(s:A4)(a:Nat):(List Pk×Int×B0)×Nat :=
 (((W6 l (EG l s a).2 s).1,(EG l s a).1,(R1 l s 2 (W6 l (EG l s a).2 s).2).1),(R1 l s 2 (W6 l (EG l s a).2 s).2).2)
theorem IL(l:List UInt8)(a:Nat)(s:A4)(hd:C3 s)(hl:l.length≤400):B8 Tryz.prog 14 1 (X0 l a) [.ref 0 0,sA s] 1 (X0 l (EH l s a).2) (.tup [.sl 2 ((EH l s a).1.1.map B6),.i (EH l s a).1.2.1,E0 (EH l s a).1.2.2]):=by
 have h1:=Bg l a 2 hl (by decide)
 have h2:=fun a=>BS l a s hd hl
 have h3:=fun a=>ZL l a s hd hl
 have h4:=fun a=>QQ l s hd hl 2 a (by decide)
 unfold EH
 dsimp only
 by_cases ho:(B7 l a 2).1=1
 ·have hm:EG l s a=(((S6 l (B7 l a 2).2 s 3).1:Int),(S6 l (B7 l a 2).2 s 3).2):=if_pos ho
  rw[hm]
  have h2:=h2 (B7 l a 2).2
  have h3:=h3 (S6 l (B7 l a 2).2 s 3).2
  have h4:=h4 (W6 l (S6 l (B7 l a 2).2 s 3).2 s).2
  dsimp only
  generalize R1 l s 2 (W6 l (S6 l (B7 l a 2).2 s 3).2 s).2=K at *
  generalize W6 l (S6 l (B7 l a 2).2 s 3).2 s=D at *
  generalize S6 l (B7 l a 2).2 s 3=M at *
  generalize B7 l a 2=o at *
  obtain⟨K,k2⟩:=K
  obtain⟨D,d2⟩:=D
  obtain⟨M,m2⟩:=M
  obtain⟨o,o2⟩:=o
  dsimp only at *
  refine a8 Tryz.func14 20 fun E h0=>?_
  repeat'((first|refine nc [0] [0] h1 rfl rfl rfl ⟨rfl,trivial⟩ ?_|refine nc [0] [0] h2 rfl rfl rfl ⟨rfl,trivial⟩ ?_|(refine G9 4 ?_;refine S9 (id:=4) (σ':=⟨[(0,.ref 0 0),(3,.iptr (sL s)),(6,.ref 2 0),(7,.i M)],3,[(0,some (.box [.sl 1 (l.map N9),.i m2])),(2,some (.box [.i 0,.i 0,.i 0,.i 0,.i 0,.v (.slice none 0 0)]))]⟩) (A6 h0) ?_;refine H9 (id:=4) ⟨[(4,.sl 2 (D.map B6)),(5,.i M),(6,.ref 2 0)],3,[(0,some (.box [.sl 1 (l.map N9),.i k2])),(2,some (.box (J2 K)))]⟩ ?_ ?_)|refine nc [0] [0] h3 rfl rfl rfl ⟨rfl,trivial⟩ ?_|refine nc [0] [0] h4 rfl rfl rfl ⟨rfl,trivial⟩ ?_ |refine S2 ?_|(refine T6 ?_ ?_<;>intro h<;>try exact V1 h)|intro el nX nY|intro el nX|exact T4|refine T5 ?_ ?_|intro ex)<;>try conv=>whnf)
  all_goals first
   |(exfalso;omega)
   |exact B3 h0 rfl ⟨rfl,rfl,rfl,trivial⟩ ⟨rfl,rfl,trivial⟩ rfl rfl rfl
   |exact M0 (rvs:=[.tmp 4,.tmp 5,.cell 6 29]) (vs:=[.sl 2 (D.map B6),.i M,E0 K]) ⟨2,_,_,rfl,rfl,inferInstance,rfl,rfl,trivial⟩ rfl rfl (A6 h0) rfl
 ·have hm:EG l s a=(-1,(B7 l a 2).2):=if_neg ho
  rw[hm]
  have h3:=h3 (B7 l a 2).2
  have h4:=h4 (W6 l (B7 l a 2).2 s).2
  dsimp only
  generalize R1 l s 2 (W6 l (B7 l a 2).2 s).2=K at *
  generalize W6 l (B7 l a 2).2 s=D at *
  generalize B7 l a 2=o at *
  obtain⟨K,k2⟩:=K
  obtain⟨D,d2⟩:=D
  obtain⟨o,o2⟩:=o
  dsimp only at *
  refine a8 Tryz.func14 20 fun E h0=>?_
  repeat'((first|refine nc [0] [0] h1 rfl rfl rfl ⟨rfl,trivial⟩ ?_|(refine G9 4 ?_;refine S9 (id:=4) (σ':=⟨[(0,.ref 0 0),(3,.iptr (sL s)),(6,.ref 2 0),(7,.i (-1))],3,[(0,some (.box [.sl 1 (l.map N9),.i o2])),(2,some (.box [.i 0,.i 0,.i 0,.i 0,.i 0,.v (.slice none 0 0)]))]⟩) (A6 h0) ?_;refine H9 (id:=4) ⟨[(4,.sl 2 (D.map B6)),(5,.i (-1)),(6,.ref 2 0)],3,[(0,some (.box [.sl 1 (l.map N9),.i k2])),(2,some (.box (J2 K)))]⟩ ?_ ?_)|refine nc [0] [0] h3 rfl rfl rfl ⟨rfl,trivial⟩ ?_|refine nc [0] [0] h4 rfl rfl rfl ⟨rfl,trivial⟩ ?_ |refine S2 ?_|(refine T6 ?_ ?_<;>intro h<;>try exact V1 h)|intro el nX nY|intro el nX|exact T4|refine T5 ?_ ?_|intro ex)<;>try conv=>whnf)
  all_goals first
   |(exfalso;omega)
   |exact B3 h0 rfl ⟨rfl,rfl,rfl,trivial⟩ ⟨rfl,rfl,trivial⟩ rfl rfl rfl
   |exact M0 (rvs:=[.tmp 4,.tmp 5,.cell 6 29]) (vs:=[.sl 2 (D.map B6),.i (-1),E0 K]) ⟨2,_,_,rfl,rfl,inferInstance,rfl,rfl,trivial⟩ rfl rfl (A6 h0) rfl
theorem cW{a b:List UInt8}(h:D5 a=D5 b)(cs:List Code)(x y:Int):M6 a cs x y=M6 b cs x y:=by unfold M6;rw[Oq h,Oq h,Gj h]
def Uo(cs:List Code):Bool:=(List.range (C4 E5 cs).toNat).all fun lev=>(I5 E5 cs (C4 E5 cs-1)).all fun v=>((I5 E5 cs lev).any fun m:Nat=>decide (N3 E5 cs v lev=m)) && (I5 E5 cs lev).all fun y:Nat=>decide (M6 E5 cs v y=decide (N3 E5 cs v lev=y))
theorem fk:Kz.all Uo=true:=by decide +kernel
theorem cX(nm:List UInt8)(cs:List Code)(lev:Int):(I5 nm cs lev).Nodup:=by
 unfold I5
 split
 ·unfold FH
  exact List.nodup_range.filter _
 ·exact List.nodup_nil
def Ei(s:A4)(d:Pk):List Int:=(I5 (B9 s (B4 s d.col)).1 (B9 s (B4 s d.col)).2 d.lev).map fun n:Nat=>(n:Int)
theorem PS(s:A4)(d:Pk):X9 s d=-1::Ei s d:=rfl
theorem Qv(s:A4)(d:Pk):(Ei s d).Nodup:=by
 unfold Ei
 refine List.pairwise_map.2 ((cX _ _ _).imp fun h e=>h ?_)
 omega
theorem cY{s:A4}{d:Pk}:∀c∈Ei s d,0≤c:=fun c h=>by
 unfold Ei at h
 rw[List.mem_map]at h
 obtain⟨n,_,rfl⟩:=h
 omega
theorem PT{s:A4}(hr:C5 s=0){d:Pk}(h:I4 s d=0):1≤d.col∧d.col<s.cols.length∧0≤d.lev∧d.lev≤A8 s d.col:=by
 unfold I4 j3 at h
 rw[if_pos hr]at h
 split at h
 ·cases h
 ·rename_i h1
  split at h
  ·cases h
  ·have hf:A8 s d.col=F2 s d.col:=by unfold A8;rw[if_pos hr]
   have h2:1≤d.col∧d.col<s.cols.length:=by
    unfold F2 at h1
    by_cases hc:d.col<1∨(s.cols.length:Int)≤d.col
    ·rw[if_pos hc]at h1;omega
    ·omega
   exact⟨h2.1,h2.2,by omega,by omega⟩
structure jv(s:A4)(d:Pk)(q:List Int)(v:Int):Prop where
 get:q[d.col.toNat]?=some v
 mem:F9 s d.col d.lev v∈Ei s d
 und:∀y∈Ei s d,M6 (B9 s (B4 s d.col)).1 (B9 s (B4 s d.col)).2 v y=decide (F9 s d.col d.lev v=y)
theorem MU{s:A4}(hd:C3 s){d:Pk}(hp:I4 s d=0)(hk:(B4 s d.col).kind=2){q:List Int}(h:p7 s q):∃v,jv s d q v:=by
 obtain⟨h1,h2,h3,h4⟩:=PT hd.ok hp
 obtain⟨v,c,hv,hc,wJ⟩:=h.get (i:=d.col.toNat) (by omega)
 have nt:B4 s d.col=c:=C0 hc
 rw[nt]at hk
 have qr:c=Cg∨c=JV:=by
  rcases hd.col hc with ⟨h0,_⟩|⟨_,h⟩|⟨_,nm,hm⟩
  ·omega
  ·exact h
  ·have:=hm.kind;omega
 obtain⟨hf,pZ,nZ⟩:=hd.lst qr
 have rK:=Ch hf
 have qd:=Al pZ (B9 s c).2
 have zW:A8 s d.col=C4 E5 (B9 s c).2-1:=by
  unfold A8 F2 N0
  rw[if_pos hd.ok,if_neg (by omega),nt,if_pos hk,qd]
 obtain⟨n,hnv,yI⟩:∃n:Nat,v=n∧n∈I5 E5 (B9 s c).2 (C4 E5 (B9 s c).2-1):=by
  rcases wJ with ⟨h5,_⟩|⟨_,n,h5,h6⟩|⟨h5,_⟩
  ·omega
  ·exact⟨n,h5,by rw[qd,BJ pZ]at h6;exact h6⟩
  ·omega
 subst hnv
 have rn:=(Hq (column:=d.col) (level:=d.lev) hd.ok h1 hc hk h3 h4 (x:=n) (by unfold H4;rw[nt,qd,BJ pZ];exact yI)).1
 have ht:=List.all_eq_true.1 fk _ hf
 simp only[Uo,Bool.and_eq_true,decide_eq_true_eq,List.all_eq_true,List.mem_range,List.any_eq_true]at ht
 obtain⟨⟨m,hm1,qj⟩,hu⟩:=ht d.lev.toNat (by omega) n yI
 rw[Int.toNat_of_nonneg h3]at hm1 qj hu
 refine⟨n,hv,?_,fun y hy=>?_⟩
 ·rw[rn,Gj pZ,qj]
  unfold Ei
  rw[nt,BJ pZ]
  exact List.mem_map.2 ⟨m,hm1,rfl⟩
 ·unfold Ei at hy
  rw[nt,BJ pZ,List.mem_map]at hy
  obtain⟨z,hz,rfl⟩:=hy
  rw[nt,rn,Gj pZ,cW pZ]
  exact hu z hz
theorem Qw{s:A4}{x:H6}(h:V0 s x){i:Int}{cnd:B0}{cols:List Int}(hi:i∈R3 s x cnd cols):∃(k:Nat) (r q:List Int),i=k∧x.rows[k]?=some r∧p7 s q∧r=r.headD 0::q.tail:=by
 obtain⟨k,r,h1,h2⟩:=CG hi
 obtain⟨q,h3,h4,_⟩:=h.row r (List.mem_of_getElem? h2)
 exact⟨k,r,q,h1,h2,h3,h4⟩
theorem Fx{s:A4}(hd:C3 s){x:H6}(h:V0 s x){dims:List Pk}(sx:J4 s dims=0){mea:Int}(hm:mea=-1∨P6 s mea 3=true){k:Nat}{r q:List Int}(h1:x.rows[k]?=some r)(h2:p7 s q)(h3:r=r.headD 0::q.tail):
  j9 s x dims mea k=⟨r.headD 0,if 0≤mea then q.getD mea.toNat 0 else 0,dims.map fun d=>F9 s d.col d.lev (q.getD d.col.toNat 0)⟩:=by
 have hg:x.rows.getD ((k:Nat):Int).toNat []=r:=by rw[Int.toNat_natCast];exact D2 h1
 have e1:Bn x k=r.headD 0:=by unfold Bn;rw[hg]
 have e2:Cu s x mea k=if 0≤mea then q.getD mea.toNat 0 else 0:=by
  unfold Cu
  by_cases h0:0≤mea
  ·rw[if_pos h0,if_pos h0]
   have hb:P6 s mea 3=true:=hm.elim (fun h=>by omega) id
   have oD:=KZ hd.ok hb
   have rU:=Aq hb
   obtain⟨v,c,hv,hc,wJ⟩:=h2.get (i:=mea.toNat) (by omega)
   obtain⟨n,hn,_,ul⟩:=hd.chain (i:=mea.toNat) (by omega) hc
   unfold Jc
   rw[hg,h.picks,h3,D2 hv]
   have hk:=Qr hd h2 (r.headD 0) (i:=mea.toNat) (by omega) (by omega) hv (lev:=A8 s mea.toNat) (by omega) (Int.le_refl _)
   rw[Int.toNat_of_nonneg h0]at hk hn ul
   show (V6 s mea (A8 s mea) ((K9 s).zip (r.headD 0::q.tail).tail)).1=v
   rw[hk,hn,(ul v wJ).1]
  ·rw[if_neg h0,if_neg h0]
 have e3:Bm s x dims k=dims.map fun d=>F9 s d.col d.lev (q.getD d.col.toNat 0):=by
  unfold Bm
  refine List.map_congr_left fun d qb=>?_
  obtain⟨h5,h6,h7,h8⟩:=PT hd.ok ((o7 sx).2.2 d qb).1
  obtain⟨v,c,hv,hc,wJ⟩:=h2.get (i:=d.col.toNat) (by omega)
  rw[hg,h.picks,h3,D2 hv]
  have hk:=Qr hd h2 (r.headD 0) (i:=d.col.toNat) (by omega) (by omega) hv (lev:=d.lev) h7 (by rw[Int.toNat_of_nonneg (by omega)];exact h8)
  rw[Int.toNat_of_nonneg (show 0≤d.col by omega)]at hk
  show (V6 s d.col d.lev ((K9 s).zip (r.headD 0::q.tail).tail)).1=_
  rw[hk]
 unfold j9
 rw[e1,e2,e3]
def W0(s:A4)(x:H6)(dims:List Pk)(mea:Int)(cnd:B0):List O4:=(R3 s x cnd (V7 mea)).map (j9 s x dims mea)
theorem cZ{s:A4}(hd:C3 s){x:H6}(h:V0 s x){dims:List Pk}(sx:J4 s dims=0){mea:Int}(hm:mea=-1∨P6 s mea 3=true){cnd:B0}:∀y∈W0 s x dims mea cnd,y.codes.length=dims.length∧∀(i:Nat) d,dims[i]?=some d→∃a,y.codes[i]?=some a∧a∈Ei s d:=by
 intro y hy
 unfold W0 at hy
 rw[List.mem_map]at hy
 obtain⟨i,hi,rfl⟩:=hy
 obtain⟨k,r,q,rfl,h1,h2,h3⟩:=Qw h hi
 rw[Fx hd h sx hm h1 h2 h3]
 refine⟨List.length_map ..,fun j d hj=>?_⟩
 obtain⟨h4,h5⟩:=(o7 sx).2.2 d (List.mem_of_getElem? hj)
 obtain⟨v,hv⟩:=MU hd h4 h5 h2
 refine⟨F9 s d.col d.lev v,?_,hv.mem⟩
 dsimp only
 rw[List.getElem?_map,hj]
 show some (F9 s d.col d.lev (q.getD d.col.toNat 0))=_
 rw[D2 hv.get]
theorem Up{s:A4}:∀{ds:List Pk},(∀d∈ds,(X9 s d).length≤11)→(I8 s ds).length≤11 ^ ds.length
 |[],_=>by simp[I8]
 |d::r,h=>by
  have h1:=Up (s:=s) (ds:=r) fun x hx=>h x (List.mem_cons_of_mem _ hx)
  have h2:(I8 s (d::r)).length=(X9 s d).length*(I8 s r).length:=Du _ _
  rw[h2,List.length_cons,Nat.pow_succ,Nat.mul_comm (11 ^ r.length)]
  exact Nat.mul_le_mul (h d (List.mem_cons_self ..)) h1
structure OP(s:A4)(dims:List Pk)(mea:Int)(cnd:B0):Prop where
 dims:J4 s dims=0
 mea:mea=-1∨P6 s mea 3=true
 cnd:H0 s cnd=0
theorem MW{s:A4}(hd:C3 s)(l:List UInt8)(a:Nat):OP s (EH l s a).1.1 (EH l s a).1.2.1 (EH l s a).1.2.2:=by
 refine⟨XH l _ hd,?_,(Hk hd l 2 _ (by decide)).1⟩
 show (EG l s a).1=-1∨P6 s (EG l s a).1 3=true
 unfold EG
 split
 ·exact .inr (XB hd l _)
 ·exact .inl rfl
theorem ca{s:A4}(hd:C3 s){dims:List Pk}{mea:Int}{cnd:B0}(h:OP s dims mea cnd):O3 s (AD dims mea cnd)=0:=OK hd.ok (show D5 [116]=true by decide) rfl h.cnd h.dims h.mea rfl rfl
theorem DA{s:A4}(hd:C3 s){dims:List Pk}(h:J4 s dims=0):(I8 s dims).length≤1331:=by
 obtain⟨h1,h2,h3⟩:=o7 h
 have hl:=Up (s:=s) (ds:=dims) fun d qb=>by
  obtain⟨h4,h5⟩:=h3 d qb
  obtain⟨h6,h7,_,_⟩:=PT hd.ok h4
  obtain⟨c,hc⟩:∃c,s.cols[d.col.toNat]?=some c:=⟨_,List.getElem?_eq_getElem (by omega)⟩
  have nt:B4 s d.col=c:=C0 hc
  rw[nt]at h5
  have qr:c=Cg∨c=JV:=by
   rcases hd.col hc with ⟨h0,_⟩|⟨_,h⟩|⟨_,nm,hm⟩
   ·omega
   ·exact h
   ·have:=hm.kind;omega
  have nZ:=(hd.lst qr).2.2
  unfold X9
  rw[List.length_cons,List.length_map,nt]
  have:(I5 (B9 s c).1 (B9 s c).2 d.lev).length≤(B9 s c).2.length:=by
   unfold I5
   split
   ·exact JJ _ _ _
   ·exact Nat.zero_le _
  omega
 have:11 ^ dims.length≤11 ^ 3:=Nat.pow_le_pow_right (by decide) h2
 have e:11 ^ 3=1331:=by decide
 omega
theorem As{s:A4}(hd:C3 s){x:H6}(h:V0 s x){dims:List Pk}{mea:Int}{cnd:B0}(ha:OP s dims mea cnd):
  i6 s x dims mea cnd=0∧Cv s x dims mea cnd=⟨dims,mea,(I8 s dims).map fun l=>F0 l (W0 s x dims mea cnd)⟩:=by
 have hx:=Dh hd h
 have hq:=ca hd ha
 have AC7:z4 x.picks (Bl s (Ct dims mea cnd))=true:=by
  rw[h.picks]
  unfold Bl
  split
  ·rename_i hr
   unfold Hx at hr
   exact jV hd (Bool.and_eq_true _ _▸hr).2
  ·exact Nj fun n hn=>by cases hn
 have wF:Y0 s dims [[]]=some (I8 s dims):=by
  rw[js,if_neg (by have:=DA hd ha.dims;omega)]
 have hE:i6 s x dims mea cnd=0:=by
  unfold i6
  rw[if_neg (by omega),if_neg (by omega),if_neg (by rw[AC7];decide),wF]
  rfl
 refine⟨hE,?_⟩
 unfold Cv
 rw[if_pos hE,wF]
 show (⟨dims,mea,U5 s x dims mea (I8 s dims) (R3 s x cnd (V7 mea))⟩:LP)=_
 rw[fj]
 rfl
def Q8(l:List Int):Bool:=l.all fun c=>decide (c≠-1)
theorem Qx:∀{x l:List Int},x.length=l.length→Q8 l=true→I7 x l=true→x=l
 |[],[],_,_,_=>rfl
 |a::x,[],h,_,_=>by simp at h
 |[],c::l,h,_,_=>by simp at h
 |a::x,c::l,h,hw,hi=>by
  unfold Q8 at hw
  rw[List.all_cons,Bool.and_eq_true,decide_eq_true_eq]at hw
  rw[EE,Bool.and_eq_true,decide_eq_true_eq]at hi
  have:=Qx (by simpa using h) hw.2 hi.2
  rcases hi.1 with h1|h1
  ·exact absurd h1 hw.1
  ·rw[h1,this]
abbrev Uf(Ls:List O4):Prop:=Ls.Pairwise fun a b=>a.key≠b.key
theorem key_inj:∀{Ls:List O4},Uf Ls→∀{x y:O4},x∈Ls→y∈Ls→x.key=y.key→x=y
 |[],_,x,y,h,_,_=>by cases h
 |a::r,h,x,y,hx,hy,e=>by
  obtain⟨h1,h2⟩:=List.pairwise_cons.1 h
  rcases List.mem_cons.1 hx with rfl|qc
  ·rcases List.mem_cons.1 hy with rfl|tY
   ·rfl
   ·exact absurd e (h1 y tY)
  ·rcases List.mem_cons.1 hy with rfl|tY
   ·exact absurd e.symm (h1 x qc)
   ·exact key_inj h2 qc tY e
theorem Gt{l:List Int}{Ls:List O4}{x:O4}:x∈CI l Ls↔x∈Ls∧I7 x.codes l=true:=List.mem_filter
theorem jw{Ls:List O4}(hk:Uf Ls){x:O4}(hx:x∈Ls)(l:List Int):(((F0 l Ls).rows).any fun y=>decide (y=x.key))=I7 x.codes l:=by
 rw[(M2 l Ls).rows,List.any_map]
 by_cases hi:I7 x.codes l=true
 ·rw[hi,List.any_eq_true]
  exact⟨x,Gt.2 ⟨hx,hi⟩,by simp⟩
 ·rw[show I7 x.codes l=false by simpa using hi,List.any_eq_false]
  intro y hy h
  obtain⟨h1,h2⟩:=Gt.1 hy
  have:=key_inj hk h1 hx (by simpa using h)
  subst this
  exact hi h2
theorem fq{Ls:List O4}(hk:Uf Ls){l:List Int}(hl:∀x∈Ls,x.codes.length=l.length)(hw:Q8 l=true){key:Int}(h:key∈(F0 l Ls).rows)(l':List Int):(((F0 l' Ls).rows).any fun y=>decide (y=key))=I7 l l':=by
 rw[(M2 l Ls).rows,List.mem_map]at h
 obtain⟨x,h1,rfl⟩:=h
 obtain⟨h2,h3⟩:=Gt.1 h1
 rw[jw hk h2,Qx (hl x h2) hw h3]
theorem OQ{α:Type}{op:Int→Int→Int}(h:Jx op)(hz:∀a,op 0 a=a)(f:α→Int):∀(a b:List α),F5 op f (a++b)=op (F5 op f a) (F5 op f b)
 |[],b=>(hz _).symm
 |x::r,b=>by rw[List.cons_append,F5,OQ h hz f r b,F5,h.assoc]
theorem Uq{α β:Type}{op:Int→Int→Int}(h:Jx op)(hz:∀a,op 0 a=a)(f:β→Int)(g:α→List β):∀l:List α,F5 op f (l.flatMap g)=F5 op (fun x=>F5 op f (g x)) l
 |[]=>rfl
 |x::r=>by rw[List.flatMap_cons,OQ h hz,Uq h hz f g r,F5]
theorem Gu{α β:Type}{op:Int→Int→Int}(f:β→Int)(g:α→β):∀l:List α,F5 op f (l.map g)=F5 op (fun x=>f (g x)) l
 |[]=>rfl
 |x::r=>by rw[List.map_cons,F5,Gu f g r,F5]
theorem GU(a:Int):(0:Int)+a=a:=by omega
theorem Qy{s:A4}{A:Pk→List Int}(hA:∀d,X9 s d=-1::A d)(hn:∀d,(A d).Nodup)(hp:∀d,∀c∈A d,0≤c):∀(ds:List Pk) (x:List Int),x.length=ds.length→(∀(i:Nat) d,ds[i]?=some d→∃a,x[i]?=some a∧a∈A d) →
  F5 (·+·) (fun l=>if Q8 l=true∧I7 x l=true then 1 else 0) (I8 s ds)=1
 |[],x,h,_=>by
  obtain rfl:x=[]:=List.length_eq_zero_iff.1 (by simpa using h)
  rfl
 |d::r,[],h,_=>by simp at h
 |d::r,a::x,h,hx=>by
  obtain⟨a',h1,h2⟩:=hx 0 d rfl
  simp at h1
  subst h1
  have ih:=Qy hA hn hp r x (by simpa using h) fun i e he=>hx (i+1) e (by simpa using he)
  unfold I8
  rw[Uq Y8 GU,Y3 (g:=fun c=>if c≠-1∧c=a then 1 else 0),hA]
  ·rw[F5,if_neg (by simp),GU]
   refine PR Y8 (GU 1) (hn d) h2 ?_ fun c _ hne=>?_
   ·rw[if_pos]
    exact⟨by have:=hp d a h2;omega,rfl⟩
   ·rw[if_neg fun h=>hne h.2]
  ·intro c _
   rw[Gu]
   by_cases hc:c≠-1∧c=a
   ·rw[if_pos hc]
    refine(Y3 fun m _=>?_).trans ih
    have e:(Q8 (c::m)=true∧I7 (a::x) (c::m)=true)↔(Q8 m=true∧I7 x m=true):=by
     unfold Q8
     rw[List.all_cons,EE,decide_eq_true hc.1,decide_eq_true (show c=-1∨c=a from .inr hc.2),Bool.true_and,Bool.true_and]
    by_cases hm:Q8 m=true∧I7 x m=true
    ·rw[if_pos hm,if_pos (e.2 hm)]
    ·rw[if_neg hm,if_neg fun h=>hm (e.1 h)]
   ·rw[if_neg hc]
    refine MT Y8 fun m _=>?_
    rw[if_neg]
    rintro ⟨h3,h4⟩
    unfold Q8 at h3
    rw[List.all_cons,Bool.and_eq_true,decide_eq_true_eq]at h3
    rw[EE,Bool.and_eq_true,decide_eq_true_eq]at h4
    rcases h4.1 with h5|h5
    ·exact h3.1 h5
    ·exact hc ⟨h3.1,h5⟩
theorem RJ(n:Nat){α:Type}:∀l:List α,F5 (·+·) (fun _=>(n:Int)) l=n*l.length
 |[]=>by simp[F5]
 |a::r=>by rw[F5,RJ n r,List.length_cons];rw[Int.natCast_add,Int.mul_add];omega
def Dg(cells:List F1):Int:=F5 (·+·) (fun c:F1=>if Q8 c.codes=true then (c.rows.length:Int)else 0) cells
theorem all_seen{s:A4}{A:Pk→List Int}(hA:∀d,X9 s d=-1::A d)(hn:∀d,(A d).Nodup)(hp:∀d,∀c∈A d,0≤c){ds:List Pk}{Ls:List O4}(hx:∀y∈Ls,y.codes.length=ds.length∧∀(i:Nat) d,ds[i]?=some d→∃a,y.codes[i]?=some a∧a∈A d):
  Dg ((I8 s ds).map fun l=>F0 l Ls)=Ls.length:=by
 unfold Dg
 rw[Gu,Y3 (g:=fun l=>F5 (·+·) (fun x:O4=>if Q8 l=true∧I7 x.codes l=true then 1 else 0) Ls),MS Y8]
 ·rw[Y3 (g:=fun _=>((1:Nat):Int)) fun x hxm=>Qy hA hn hp ds x.codes (hx x hxm).1 (hx x hxm).2,RJ]
  omega
 ·intro l _
  have hf:=M2 l Ls
  rw[hf.codes,hf.rows,List.length_map]
  by_cases hw:Q8 l=true
  ·rw[if_pos hw,XN]
   exact Y3 fun x _=>by simp[hw]
  ·rw[if_neg hw,MT Y8 fun x _=>by rw[if_neg fun h=>hw h.1]]
theorem XO:∀(x:List Int) {α:Type} (ds:List α),I7 x (ds.map fun _=>(-1:Int))=true
 |[],_,[]=>rfl
 |[],_,d::r=>rfl
 |a::x,_,[]=>rfl
 |a::x,_,d::r=>by rw[List.map_cons,EE,XO x r,decide_eq_true (.inl rfl)];rfl
theorem cb{α:Type}(ds:List α)(Ls:List O4):(F0 (ds.map fun _=>(-1:Int)) Ls).cnt=Ls.length:=by
 rw[(M2 _ Ls).cnt]
 congr 1
 unfold CI
 rw[List.filter_eq_self.2 fun x _=>XO x.codes ds]
theorem XP:∀F:List O4,Ae (F5 (·+·) (fun x:O4=>x.val) F)≤F5 (·+·) (fun x:O4=>Ae x.val) F
 |[]=>by simp[F5,Ae]
 |a::r=>by
  have:=XP r
  simp only[F5]
  generalize F5 (·+·) (fun x:O4=>x.val) r=p at *
  generalize F5 (·+·) (fun x:O4=>Ae x.val) r=q at *
  unfold Ae at *
  omega
theorem ft(l:List Int)(Ls:List O4):max (F0 l Ls).sum (-(F0 l Ls).sum)≤(F0 l Ls).amo:=by
 have h:=M2 l Ls
 rw[h.sum,h.amo]
 exact XP _
theorem Ur{α:Type}{p:α→Bool}:∀{k j:Nat} {l:List α} {x:α},l[j]?=some x→p x=true→((k+j:Nat):Int)∈N6 p k l
 |k,j,[],x,h,_=>by simp at h
 |k,0,a::r,x,h,hp=>by
  simp at h
  subst h
  rw[N6,if_pos hp]
  exact List.mem_cons_self ..
 |k,j+1,a::r,x,h,hp=>by
  have ih:=Ur (k:=k+1) (j:=j) (l:=r) (by simpa using h) hp
  rw[show k+1+j=k+(j+1) by omega]at ih
  rw[N6]
  split
  ·exact List.mem_cons_of_mem _ ih
  ·exact ih
theorem RK{α:Type}{p:α→Bool}:∀{k:Nat} {l:List α},(N6 p k l).Pairwise (·<·)∧∀i∈N6 p k l,(k:Int)≤i
 |k,[]=>⟨List.Pairwise.nil,fun i h=>by cases h⟩
 |k,a::r=>by
  obtain⟨h1,h2⟩:=RK (p:=p) (k:=k+1) (l:=r)
  rw[N6]
  split
  ·refine⟨List.pairwise_cons.2 ⟨fun i hi=>?_,h1⟩,fun i hi=>?_⟩
   ·have:=h2 i hi
    omega
   ·rcases List.mem_cons.1 hi with rfl|hi
    ·exact Int.le_refl _
    ·have:=h2 i hi
     omega
  ·exact⟨h1,fun i hi=>by have:=h2 i hi;omega⟩
theorem Us{α:Type}{p q a:α→Bool}{g:Int→Int}(hg:∀i,0≤g i):∀(k:Nat) (l:List α),(∀r∈l,¬(p r=true∧q r=true))→(∀r∈l,a r=true) →
  F5 (·+·) g (N6 p k l)+F5 (·+·) g (N6 q k l)≤F5 (·+·) g (N6 a k l)
 |k,[],_,_=>by simp[N6,F5]
 |k,x::r,h1,h2=>by
  have ih:=Us (p:=p) (q:=q) (a:=a) hg (k+1) r (fun y hy=>h1 y (List.mem_cons_of_mem _ hy)) fun y hy=>h2 y (List.mem_cons_of_mem _ hy)
  have hx:=h1 x (List.mem_cons_self ..)
  have hgk:=hg k
  rw[N6,N6,N6,if_pos (h2 x (List.mem_cons_self ..))]
  by_cases hp:p x=true
  ·rw[if_pos hp,if_neg fun h=>hx ⟨hp,h⟩]
   simp only[F5]
   omega
  ·rw[if_neg hp]
   split
   ·simp only[F5]
    omega
   ·simp only[F5]
    omega
theorem IE(l:List Int)(f:Int→O4)(is:List Int):(F0 l (is.map f)).cnt=F5 (·+·) (fun i=>if I7 (f i).codes l=true then 1 else 0) is:=by
 rw[(M2 l _).cnt,XN,Gu]
theorem Ut{l:List Int}{Ls:List O4}{key:Int}:key∈(F0 l Ls).rows↔∃x∈Ls,I7 x.codes l=true∧x.key=key:=by
 rw[(M2 l Ls).rows,List.mem_map]
 constructor
 ·rintro ⟨x,h1,h2⟩
  obtain⟨h3,h4⟩:=Gt.1 h1
  exact⟨x,h3,h4,h2⟩
 ·rintro ⟨x,h1,h2,h3⟩
  exact⟨x,Gt.2 ⟨h1,h2⟩,h3⟩
theorem Ke{l:List Int}{Ls:List O4}{key:Int}:(((F0 l Ls).rows).any fun y=>decide (y=key))=true↔∃x∈Ls,I7 x.codes l=true∧x.key=key:=by
 rw[←Ut,List.any_eq_true]
 constructor
 ·rintro ⟨y,h1,h2⟩
  rw[←of_decide_eq_true h2];exact h1
 ·intro h
  exact⟨key,h,by simp⟩
def Bp(L:List Int)(k:Nat):List Int:=L.filter fun i=>decide (i<(k:Int))
theorem ce{L:List Int}(k:Nat):L.Pairwise (·<·)→Bp L (k+1)=Bp L k++(if (k:Int)∈L then [(k:Int)]else []):=by
 induction L with
 |nil=>intro _;rfl
 |cons a r ih =>
  intro h
  obtain⟨h1,h2⟩:=List.pairwise_cons.1 h
  have ih:=ih h2
  unfold Bp at *
  rw[List.filter_cons,List.filter_cons]
  by_cases c1:a<(k:Int)
  ·rw[if_pos (decide_eq_true (by omega)),if_pos (decide_eq_true c1),ih,List.cons_append]
   congr 2
   have e:((k:Int)∈a::r)↔(k:Int)∈r:=by
    rw[List.mem_cons]
    exact⟨fun h=>h.elim (fun h=>by omega) id,.inr⟩
   by_cases hk:(k:Int)∈r
   ·rw[if_pos hk,if_pos (e.2 hk)]
   ·rw[if_neg hk,if_neg fun h=>hk (e.1 h)]
  ·have ns:∀n:Nat,(n=k∨n=k+1)→r.filter (fun i=>decide (i<(n:Int)))=[]:=fun n hn=>by
    rw[List.filter_eq_nil_iff]
    intro i hi h
    have:=h1 i hi
    have:=of_decide_eq_true h
    omega
   rw[ns k (.inl rfl),ns (k+1) (.inr rfl),if_neg (show ¬decide (a<(k:Int))=true by rw[decide_eq_true_iff];exact c1)]
   by_cases c2:a=(k:Int)
   ·subst c2
    rw[if_pos (decide_eq_true (by omega)),if_pos (List.mem_cons_self ..)]
    rfl
   ·rw[if_neg (by rw[decide_eq_true_iff];omega),if_neg]
    ·rfl
    ·rw[List.mem_cons]
     rintro (h|h)
     ·exact c2 h.symm
     ·have:=h1 _ h
      omega
theorem fu{L:List Int}{n:Nat}(h:∀i∈L,i<(n:Int)):Bp L n=L:=List.filter_eq_self.2 fun i hi=>decide_eq_true (h i hi)
theorem cg{L:List Int}(hL:L.Pairwise (·<·))(l:List Int)(f:Int→O4)(k:Nat):
  F0 l ((Bp L (k+1)).map f)=if (k:Int)∈L∧I7 (f k).codes l=true then L2 (f k).key (f k).val true (F0 l ((Bp L k).map f))else F0 l ((Bp L k).map f):=by
 have hc:=(M2 l ((Bp L k).map f)).codes
 rw[ce k hL]
 by_cases hk:(k:Int)∈L
 ·rw[if_pos hk,List.map_append]
  have e:F0 l ((Bp L k).map f++[(k:Int)].map f)=At (F0 l ((Bp L k).map f)) (f k):=by unfold F0;rw[List.foldl_append];rfl
  rw[e]
  unfold At
  rw[hc]
  by_cases hi:I7 (f k).codes l=true
  ·rw[if_pos hi,if_pos ⟨hk,hi⟩]
  ·rw[if_neg hi,if_neg fun h=>hi h.2]
 ·rw[if_neg hk,List.append_nil,if_neg fun h=>hk h.1]
theorem XQ(v c:Int):I7 [v] [c]=decide (c=-1∨c=v):=by rw[EE];simp[I7]
theorem Zd{A:List Int}(hn:A.Nodup)(hp:∀c∈A,0≤c){und:Int→Bool}{b:Int}{is:List Int}{f g:Int→O4}{V W:Int→Int}(hf:∀i∈is,(f i).codes=[V i])(hg:∀i∈is,(g i).codes=[W i])(hV:∀i∈is,V i∈A)(hu:∀i∈is,b≠-1→und (V i)=decide (W i=b)):
  F5 (·+·) (fun z:F1=>if z.codes.headD 0≠-1∧(b=-1∨und (z.codes.headD 0)=true)then z.cnt else 0) ((-1::A).map fun c=>F0 [c] (is.map f))=(F0 [b] (is.map g)).cnt:=by
 have yT:=fun c=>(M2 [c] (is.map f)).codes
 rw[Gu,F5,yT,if_neg fun h=>h.1 rfl,GU,Y3 (g:=fun c=>F5 (·+·) (fun i=>if (b=-1∨und c=true)∧c=V i then 1 else 0) is),MS Y8,IE]
 ·refine Y3 fun i hi=>?_
  rw[hg i hi,XQ]
  have h1:F5 (·+·) (fun c=>if (b=-1∨und c=true)∧c=V i then (1:Int)else 0) A=if b=-1∨und (V i)=true then 1 else 0:=by
   refine PR Y8 (by split<;>rfl) hn (hV i hi) ?_ fun c _ hne=>if_neg fun h=>hne h.2
   by_cases hb:b=-1∨und (V i)=true
   ·rw[if_pos ⟨hb,rfl⟩,if_pos hb]
   ·rw[if_neg fun h=>hb h.1,if_neg hb]
  rw[h1]
  by_cases hb:b=-1
  ·rw[if_pos (.inl hb),if_pos (decide_eq_true (.inl hb))]
  ·rw[hu i hi hb]
   by_cases hw:W i=b
   ·rw[if_pos (.inr (decide_eq_true hw)),if_pos (decide_eq_true (.inr hw.symm))]
   ·rw[if_neg (fun h=>h.elim hb fun h=>hw (of_decide_eq_true h)),if_neg (by rw[decide_eq_true_iff];exact fun h=>h.elim hb fun h=>hw h.symm)]
 ·intro c hc
  rw[yT,IE]
  show (if c≠-1∧(b=-1∨und c=true)then _ else _)=_
  have h0:=hp c hc
  by_cases hb:b=-1∨und c=true
  ·rw[if_pos ⟨by omega,hb⟩]
   refine Y3 fun i hi=>?_
   rw[hf i hi,XQ]
   by_cases hv:c=V i
   ·rw[if_pos (decide_eq_true (.inr hv)),if_pos ⟨hb,hv⟩]
   ·rw[if_neg (by rw[decide_eq_true_iff];exact fun h=>h.elim (fun h=>by omega) hv),if_neg fun h=>hv h.2]
  ·rw[if_neg fun h=>hb h.2]
   exact(MT Y8 fun i _=>if_neg fun h=>hb h.1).symm
theorem mB(o:Int)(x:B0):AV.agg [.i o,.i 0,.i 0,.i 0,.i 0,.sl 6 [J2 x]]=E0 (.mk o 0 0 0 0 [x]):=by
 rw[←Gf];rfl
theorem jx{s:A4}{a:B0}(h:H0 s a=0)(ht:P2 a≤38)(hd:P9 a≤9):H0 s (.mk 7 0 0 0 0 [a])=0:=by
 obtain⟨h1,_,_,h4⟩:=m6 h
 have:=ij 7 a
 exact ii h1 (by omega) (by omega) (ig h4)
end Go.Proofs.YtiphlhoclaogjaaGreatDoor
