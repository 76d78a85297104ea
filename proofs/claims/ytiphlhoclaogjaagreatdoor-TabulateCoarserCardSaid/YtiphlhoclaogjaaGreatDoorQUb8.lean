/- The law's values of a row at levels. Chapter 5: picks that are right: needs, and finer ones. -/
import Derived.Test.YtiphlhoclaogjaaGreatDoorQTa2
import Derived.Test.YtiphlhoclaogjaaGreatDoorQCd1
import Derived.Test.YtiphlhoclaogjaaGreatDoorQTx0
import Derived.Test.YtiphlhoclaogjaaGreatDoorQCf1
import Derived.Test.YtiphlhoclaogjaaGreatDoorQGf3
import Derived.Test.YtiphlhoclaogjaaGreatDoorQUb1
import Derived.Test.YtiphlhoclaogjaaGreatDoorQTa5
import Derived.Test.YtiphlhoclaogjaaGreatDoorQTa0
set_option linter.unusedVariables false
set_option linter.unnecessarySimpa false
set_option linter.unusedSimpArgs false
set_option maxHeartbeats 64000000
namespace Go.Proofs.YtiphlhoclaogjaaGreatDoor
open Go Go.Av
attribute [local irreducible] C7 B1 D1 C8 DQ D0 C6 St.le A3 B8
set_option maxRecDepth 100000
theorem Ze{s:A4}{c:B0}(hr:C5 s=0):∀p∈L3 s c,1≤p.col∧p.col<s.cols.length∧0≤p.lev∧p.lev≤A8 s p.col:=by
 intro p hp
 obtain⟨hc,h1,h2,h3,h4⟩:=Te hp
 obtain⟨_,_,_,oz⟩:=m6 hc
 -- the level is that of some atom about the column
 have ob:p.lev≤A8 s p.col∧1≤p.col:=by
  by_cases hex:∃a∈X5 c,a.col=p.col
  ·obtain⟨a,ha,hac⟩:=hex
   obtain⟨wK,hao⟩:=CB c oz a ha
   obtain⟨x,hx,c1,c2,_⟩:=n9 hr wK hao
   have vR:∀col,A8 s col=F2 s col:=fun col=>by rw[A8,if_pos hr]
   refine⟨?_,by omega⟩
   rw[h3]
   refine Nd (B:=A8 s p.col) ?_ _ fun b hb hbc=>?_
   ·have:=(Wg hr wK hao).2
    rw[vR,←hac];exact this
   ·obtain⟨qE,hbo⟩:=CB c oz b hb
    have:=(Fm hr qE hbo).1
    rw[vR]
    rw[show p.col=b.col by omega]
    exact this
  ·exfalso
   have hz:o9 s (X5 c) p.col.toNat≤0:=Nd (by omega) _ fun b hb hbc=>absurd ⟨b,hb,by omega⟩ hex
   omega
 exact⟨ob.2,h2,by omega,ob.1⟩
structure ji(s:A4)(N F:List Pk):Prop where
 len:F.length=N.length
 at':∀(i:Nat) n p,N[i]?=some n→F[i]?=some p→p.col=n.col∧n.lev≤p.lev∧p.lev≤A8 s n.col
theorem ji.get{s:A4}{N F:List Pk}(h:ji s N F){k:Nat}{p:Pk}(hp:F[k]?=some p):∃n,N[k]?=some n∧p.col=n.col∧n.lev≤p.lev∧p.lev≤A8 s n.col:=by
 have nf:k<N.length:=by have:=(List.getElem?_eq_some_iff.1 hp).1;rw[←h.len];exact this
 exact⟨_,List.getElem?_eq_getElem nf,h.at' k _ p (List.getElem?_eq_getElem nf) hp⟩
theorem ZY(s:A4)(x:H6)(cnd:B0)(cols:List Int):(R3 s x cnd cols).Pairwise (·<·):=by
 unfold R3
 split
 ·exact List.Pairwise.nil
 ·refine List.Pairwise.filter _ ?_
  unfold Ax
  split
  ·exact RK.1
  ·exact List.Pairwise.nil
theorem Kf{s:A4}{x:H6}{dims:List Pk}{mea:Int}{k:Nat}{r:List Int}(h:x.rows[k]?=some r):(j9 s x dims mea k).key=r.headD 0:=by
 show Bn x k=_
 unfold Bn
 rw[Int.toNat_natCast,D2 h]
theorem Uu{s:A4}{x:H6}(h:Bq x.rows){dims:List Pk}{mea:Int}{i j:Nat}{r q:List Int}(hi:x.rows[i]?=some r)(hj:x.rows[j]?=some q)(e:(j9 s x dims mea i).key=(j9 s x dims mea j).key):i=j:=by
 rw[Kf hi,Kf hj]at e
 by_cases h1:i<j
 ·have:=Kd h hi hj h1;omega
 ·by_cases h2:j<i
  ·have:=Kd h hj hi h2;omega
  ·omega
theorem Zf{s:A4}{x:H6}(h:V0 s x)(dims:List Pk)(mea:Int)(cnd:B0):Uf (W0 s x dims mea cnd):=by
 unfold W0
 refine List.pairwise_map.2 ((ZY s x cnd (V7 mea)).imp_of_mem fun {a b} ha hb uq e=>?_)
 obtain⟨i,r,rfl,hi⟩:=CG ha
 obtain⟨j,q,rfl,hj⟩:=CG hb
 have:=Uu h.asc hi hj e
 omega
theorem Ka{s:A4}(hd:C3 s){x:H6}(h:V0 s x){cnd:B0}(hc:H0 s cnd=0):R3 s x cnd []=N6 (DR s cnd x.picks) 0 x.rows:=by
 have hx:=Dh hd h
 unfold R3
 have e:(Ax s x cnd).filter (fun i=>!Ly s x.picks [] (x.rows.getD i.toNat []))=Ax s x cnd:=List.filter_eq_self.2 fun i _=>rfl
 rw[if_neg (by omega),e]
 unfold Ax
 rw[if_pos]
 refine⟨hc,?_⟩
 rw[h.picks]
 refine Nj fun q hq=>?_
 obtain⟨h1,h2,h3,h4⟩:=Ze hd.ok q hq
 have hg:=Aa s (k:=s.cols.length-1) (i:=(q.col-1).toNat) (by omega)
 rw[show (((q.col-1).toNat:Nat):Int)+1=q.col by omega]at hg
 exact⟨_,List.mem_of_getElem? hg,rfl,h4⟩
theorem jy{s:A4}(hd:C3 s){x:H6}(h:V0 s x):∀r∈x.rows,DR s EK x.picks r=true:=by
 intro r hr
 obtain⟨k,hk⟩:=List.getElem?_of_mem hr
 have hf:=(CE (Dh hd h)).2.2.2 k r hk
 unfold j8 at hf
 rw[Bool.and_eq_true]at hf
 unfold DR Lv
 rw[if_pos hf.2]
 unfold BQ
 rw[Eo]
 rfl
theorem ZZ(s:A4)(c:B0)(picks:List Pk)(r:List Int):¬(DR s c picks r=true∧DR s (.mk 7 0 0 0 0 [c]) picks r=true):=by
 rintro ⟨h1,h2⟩
 unfold DR Lv at h1 h2
 have h1:=of_decide_eq_true h1
 have h2:=of_decide_eq_true h2
 split at h1
 ·rename_i ho
  rw[if_pos ho]at h2
  unfold BQ at h1 h2
  rw[Eo]at h2
  have:-(v5 (fun a=>Q9 s a (((List.range s.cols.length).map (v9 s (picks.zip r.tail))).getD a.col.toNat 0)) c)=1:=h2
  omega
 ·omega
structure jz(l:List Int)(A Y N:List O4):Prop where
 cnt:(F0 l Y).cnt+(F0 l N).cnt≤(F0 l A).cnt
 keys:∀key∈(F0 l Y).rows,((F0 l N).rows.any fun y=>decide (y=key))=false∧((F0 l A).rows.any fun y=>decide (y=key))=true
theorem fv{s:A4}(hd:C3 s){x:H6}(h:V0 s x)(dims:List Pk){c:B0}(hc:H0 s c=0)(hn:H0 s (.mk 7 0 0 0 0 [c])=0)(l:List Int):
  jz l (W0 s x dims (-1) EK) (W0 s x dims (-1) c) (W0 s x dims (-1) (.mk 7 0 0 0 0 [c])):=by
 have hm:V7 (-1)=[]:=rfl
 unfold W0
 rw[hm,Ka hd h hc,Ka hd h hn,Ka hd h (Dt hd.ok)]
 have oU:=jy hd h
 refine⟨?_,fun key hk=>?_⟩
 ·rw[IE,IE,IE]
  exact Us (fun i=>by split<;>omega) 0 x.rows (fun r _=>ZZ s c x.picks r) oU
 ·obtain⟨y,hy,hi,hk⟩:=Ut.1 hk
  rw[List.mem_map]at hy
  obtain⟨i,oW,rfl⟩:=hy
  obtain⟨j,rfl,r,hr,hp⟩:=Dp oW
  rw[Nat.zero_add]at *
  refine⟨?_,Ke.2 ⟨_,List.mem_map.2 ⟨_,by have:=Ur (k:=0) hr (oU r (List.mem_of_getElem? hr));rwa[Nat.zero_add]at this,rfl⟩,hi,hk⟩⟩
  cases hb:((F0 l ((N6 (DR s (.mk 7 0 0 0 0 [c]) x.picks) 0 x.rows).map (j9 s x dims (-1)))).rows.any fun y=>decide (y=key))with
  |false=>rfl
  |true =>
   exfalso
   obtain⟨z,hz,_,nr⟩:=Ke.1 hb
   rw[List.mem_map]at hz
   obtain⟨i2,sd,rfl⟩:=hz
   obtain⟨j2,rfl,r2,oq,hp2⟩:=Dp sd
   rw[Nat.zero_add]at *
   have:=Uu h.asc hr oq (hk.trans nr.symm)
   subst this
   rw[hr]at oq
   cases oq
   exact ZZ s c x.picks r ⟨hp,hp2⟩
theorem kA{s:A4}{x:H6}(h:Bq x.rows)(dims:List Pk)(mea:Int)(cnd:B0)(l:List Int){j:Nat}{r:List Int}(hr:x.rows[j]?=some r):
  ((F0 l (W0 s x dims mea cnd)).rows.any fun y=>decide (y=r.headD 0))=decide ((j:Int)∈R3 s x cnd (V7 mea)∧I7 (j9 s x dims mea j).codes l=true):=by
 rw[←Kf (s:=s) (dims:=dims) (mea:=mea) hr]
 by_cases hc:(j:Int)∈R3 s x cnd (V7 mea)∧I7 (j9 s x dims mea j).codes l=true
 ·rw[decide_eq_true hc]
  exact Ke.2 ⟨_,List.mem_map.2 ⟨_,hc.1,rfl⟩,hc.2,rfl⟩
 ·rw[decide_eq_false hc]
  cases hb:((F0 l (W0 s x dims mea cnd)).rows.any fun y=>decide (y=(j9 s x dims mea j).key))with
  |false=>rfl
  |true =>
   exfalso
   obtain⟨z,hz,hi,hk⟩:=Ke.1 hb
   unfold W0 at hz
   rw[List.mem_map]at hz
   obtain⟨i,oW,rfl⟩:=hz
   obtain⟨i,q,rfl,hq⟩:=CG oW
   have:=Uu h hq hr hk
   subst this
   exact hc ⟨oW,hi⟩
def Ds(s:A4)(x:H6)(dims:List Pk)(mea:Int)(cnd:B0)(l:List Int)(k:Nat):F1:=F0 l ((Bp (R3 s x cnd (V7 mea)) k).map (j9 s x dims mea))
theorem Zg(s:A4)(x:H6)(dims:List Pk)(mea:Int)(cnd:B0)(l:List Int):Ds s x dims mea cnd l 0=o6 l:=by
 unfold Ds Bp
 rw[List.filter_eq_nil_iff.2]
 ·rfl
 ·intro i hi h
  obtain⟨k,r,rfl,_⟩:=CG hi
  have:=of_decide_eq_true h
  omega
theorem ch(s:A4)(x:H6)(dims:List Pk)(mea:Int)(cnd:B0)(l:List Int):Ds s x dims mea cnd l x.rows.length=F0 l (W0 s x dims mea cnd):=by
 unfold Ds
 rw[fu]
 ·rfl
 ·intro i hi
  obtain⟨k,r,rfl,hk⟩:=CG hi
  have:=D4 hk
  omega
theorem Zh{s:A4}{x:H6}(h:Bq x.rows)(dims:List Pk)(mea:Int)(cnd:B0)(l:List Int){k:Nat}{r:List Int}(hr:x.rows[k]?=some r):
  Ds s x dims mea cnd l (k+1)=if ((F0 l (W0 s x dims mea cnd)).rows.any fun y=>decide (y=r.headD 0))=true then L2 (r.headD 0) (j9 s x dims mea k).val true (Ds s x dims mea cnd l k)else Ds s x dims mea cnd l k:=by
 unfold Ds
 rw[cg (ZY s x cnd (V7 mea)),kA h dims mea cnd l hr,Kf hr]
 simp only[decide_eq_true_eq]
theorem ci{s:A4}(hd:C3 s){x:H6}(h:V0 s x){dims:List Pk}(sx:J4 s dims=0){mea:Int}(hb:P6 s mea 3=true){k:Nat}{r:List Int}(hr:x.rows[k]?=some r):
  1≤mea∧r[0]?=some (r.headD 0)∧∃v,r[mea.toNat]?=some v∧(j9 s x dims mea k).val=v∧-1099511627776≤v∧v≤100:=by
 obtain⟨q,h1,h2,_⟩:=h.row r (List.mem_of_getElem? hr)
 have hm:=KZ hd.ok hb
 have qj:=Aq hb
 obtain⟨v,c,hv,hc,wJ⟩:=h1.get (i:=mea.toNat) (by omega)
 refine⟨hm,by rw[h2];rfl,v,?_,?_,?_⟩
 ·obtain⟨j,hj⟩:∃j,mea.toNat=j+1:=⟨mea.toNat-1,by omega⟩
  rw[hj]at hv ⊢
  rw[h2,List.getElem?_cons_succ,Jv,hv]
 ·rw[Fx hd h sx (.inr hb) hr h1 h2]
  dsimp only
  rw[if_pos (by omega),D2 hv]
 ·have hk:c.kind=3:=by
   obtain⟨_,_,x3,hx3,qi⟩:=qj
   rw[hc]at hx3
   cases hx3
   exact qi
  rcases hd.col hc with ⟨h0,_⟩|⟨_,rfl|rfl⟩|⟨_,nm,hM⟩
  ·omega
  ·cases hk
  ·cases hk
  ·have rj:=hM.low
   have qp:=hM.high
   rcases wJ with ⟨h5,_⟩|⟨h5,_⟩|⟨_,h5⟩
   ·omega
   ·omega
   ·rcases h5 with h5|h5
    ·omega
    ·omega
theorem PU{s:A4}(hd:C3 s):(B4 s 1).kind=2∧(B4 s 1).lst=0∧s.cols[1]?=some (B4 s 1):=by
 have hl:=hd.lens
 obtain⟨c,hc⟩:∃c,s.cols[1]?=some c:=⟨_,List.getElem?_eq_getElem (by omega)⟩
 have nt:B4 s 1=c:=C0 (by simpa using hc)
 obtain⟨b,ms,hb,_⟩:=hd.cs
 rw[nt]
 have h2:=hc
 rw[hb]at h2
 cases b<;>(simp[M9]at h2;subst h2;exact⟨rfl,rfl,hc⟩)
theorem IM{s:A4}(hd:C3 s){a:Int}(h0:0≤a)(h1:a≤A8 s 1):J4 s [⟨1,a⟩]=0:=by
 have hl:=hd.lens
 obtain⟨hk,_,_⟩:=PU hd
 unfold J4
 rw[if_neg (by simp)]
 unfold E4
 have hf:=hd.fin (c:=1) (by omega) (by omega)
 have hp:I4 s ⟨1,a⟩=0:=by
  unfold I4 j3
  rw[if_pos hd.ok]
  dsimp only
  rw[if_neg (by omega),if_neg (by omega)]
 have hx:Q0 s [⟨1,a⟩] 0 ⟨1,a⟩=0:=by
  unfold Q0
  rw[if_neg (fun h=>h hp),if_neg (by dsimp only;omega),if_neg (by simp)]
 rw[if_pos hx]
 rfl
theorem OH(s:A4)(d:Pk):I8 s [d]=(X9 s d).map fun c=>[c]:=by
 unfold I8 I8
 generalize X9 s d=L
 induction L with
 |nil=>rfl
 |cons a r ih=>rw[List.flatMap_cons,ih];rfl
theorem cj{s:A4}(hd:C3 s){x:H6}(h:V0 s x){a:Int}(h0:0≤a)(h1:a≤A8 s 1)(cnd:B0){b:Int}(hb:b∈X9 s ⟨1,a⟩):
  F5 (·+·) (fun z:F1=>if z.codes.headD 0≠-1∧(b=-1∨M6 (B9 s (B4 s 1)).1 (B9 s (B4 s 1)).2 (z.codes.headD 0) b=true)then z.cnt else 0) ((I8 s [⟨1,A8 s 1⟩]).map fun l=>F0 l (W0 s x [⟨1,A8 s 1⟩] (-1) cnd))=(F0 [b] (W0 s x [⟨1,a⟩] (-1) cnd)).cnt:=by
 have hl:=hd.lens
 have hf:=hd.fin (c:=1) (by omega) (by omega)
 have hF:=IM hd hf.1 (Int.le_refl _)
 have hA:=IM hd h0 h1
 have nl:∀i∈R3 s x cnd (V7 (-1)),∃v,(j9 s x [⟨1,A8 s 1⟩] (-1) i).codes=[v]∧v∈Ei s ⟨1,A8 s 1⟩∧(j9 s x [⟨1,a⟩] (-1) i).codes=[F9 s 1 a v]∧∀y∈Ei s ⟨1,a⟩,M6 (B9 s (B4 s 1)).1 (B9 s (B4 s 1)).2 v y=decide (F9 s 1 a v=y):=fun i hi=>by
  obtain⟨k,r,q,rfl,g1,g2,g3⟩:=Qw h hi
  have e1:=Fx hd h hF (mea:=-1) (.inl rfl) g1 g2 g3
  have e2:=Fx hd h hA (mea:=-1) (.inl rfl) g1 g2 g3
  obtain⟨p1,p2⟩:=(o7 hF).2.2 _ (List.mem_cons_self ..)
  obtain⟨p3,p4⟩:=(o7 hA).2.2 _ (List.mem_cons_self ..)
  obtain⟨v,hv⟩:=MU hd p1 p2 g2
  obtain⟨w,hw⟩:=MU hd p3 p4 g2
  have wX:v=w:=by
   have h5:=hv.get
   have h6:=hw.get
   dsimp only at h5 h6
   rw[h5]at h6
   exact Option.some.inj h6
  subst wX
  have hq:q.getD (1:Int).toNat 0=v:=D2 hv.get
  obtain⟨u,c,hu,hc,huc⟩:=g2.get (i:=1) (by omega)
  obtain⟨n,hn,_,ul⟩:=hd.chain (i:=1) (by omega) hc
  have huv:u=v:=by
   have h5:q[1]?=some v:=hv.get
   rw[hu]at h5
   exact Option.some.inj h5
  subst huv
  have yU:F9 s 1 (A8 s 1) u=u:=by
   have:=(ul u huc).1
   rw[←hn]at this
   exact this
  refine⟨u,?_,?_,?_,hw.und⟩
  ·rw[e1]
   show [F9 s 1 (A8 s 1) (q.getD (1:Int).toNat 0)]=[u]
   rw[hq,yU]
  ·have:=hv.mem
   dsimp only at this
   rwa[yU]at this
  ·rw[e2]
   show [F9 s 1 a (q.getD (1:Int).toNat 0)]=[F9 s 1 a u]
   rw[hq]
 rw[OH,List.map_map]
 show F5 (·+·) _ ((X9 s ⟨1,A8 s 1⟩).map fun c=>F0 [c] (W0 s x [⟨1,A8 s 1⟩] (-1) cnd))=_
 rw[PS]
 unfold W0
 refine Zd (A:=Ei s ⟨1,A8 s 1⟩) (und:=fun z=>M6 (B9 s (B4 s 1)).1 (B9 s (B4 s 1)).2 z b) (V:=fun i=>(j9 s x [⟨1,A8 s 1⟩] (-1) i).codes.headD 0) (W:=fun i=>(j9 s x [⟨1,a⟩] (-1) i).codes.headD 0) (Qv s _) cY (fun i hi=>?_) (fun i hi=>?_) (fun i hi=>?_) fun i hi hne=>?_
 ·obtain⟨v,q1,_,_,_⟩:=nl i hi
  rw[q1];rfl
 ·obtain⟨v,_,_,q3,_⟩:=nl i hi
  rw[q3];rfl
 ·obtain⟨v,q1,q2,_,_⟩:=nl i hi
  rw[q1];exact q2
 ·obtain⟨v,q1,_,q3,q4⟩:=nl i hi
  rw[q1,q3]
  refine q4 b ?_
  rw[PS]at hb
  rcases List.mem_cons.1 hb with hb|hb
  ·exact absurd hb hne
  ·exact hb
theorem fw{s:A4}{d:Cq}{picks:List Pk}(h:p9 s d picks=0):∀p∈picks,0≤p.col∧p.col<s.cols.length:=by
 intro p hp
 unfold p9 at h
 split at h
 ·contradiction
 ·split at h
  ·contradiction
  ·rename_i h2
   obtain⟨k,hk⟩:=List.getElem?_of_mem hp
   have:=CD (Decidable.of_not_not h2) k p hk
   omega
theorem ck(s:A4)(hd:C3 s)(rows:List (List Int))(d:Cq)(picks:List Pk)(hl:picks.length≤1000)(secret:Int):A3 Tryz.prog 38 [.agg (R5 s rows),Jj d,.sl 2 (picks.map B6),.i secret] (.tup [f4 (Jt s rows d picks secret (p9 s d picks)),.i (FU s rows secret (p9 s d picks))]) :=
 Vx s rows d picks secret (p9 s d picks) hl (Vs s hd d picks) fw
abbrev qa:Nat:=26
abbrev fx:List AV:=[.v (.slice none 0 0),.v (.slice none 0 0),.v (.slice none 0 0),.v (.slice none 0 0),.i 0]
abbrev mh:List AV:=[.str [],.i 0,.v (.slice none 0 0),.v (.slice none 0 0)]
abbrev jj:List AV:=[.str [97,108,108,95,114,111,119,115],.str [115,114,99],.i 1,.i 0,.i 0,.i 0,.i 0,z8,.i 1,.i 1,.i 0,.sl 17 [[.str [113],.i 1,.i 1,.i 0,.i 0,.i 0,.i 0,z8,.sl 2 [[.i 1,.i 0]],.i (-1),z8,.i 0,.i 0,.i 0,.i 0,.i 0,z8]]]
def EJ(l:List UInt8)(a:Nat)(most:Int):(A4×List (List Int)×H6)×Nat :=
 (((Ab l a most).1.1,(Ab l a most).1.2,Jt (Ab l a most).1.1 (Ab l a most).1.2 V9 (K9 (Ab l a most).1.1) (IG l (Ab l a most).2).1 (p9 (Ab l a most).1.1 V9 (K9 (Ab l a most).1.1))),(IG l (Ab l a most).2).2)
theorem FT(l:List UInt8)(a:Nat)(most:Int)(hl:l.length≤400)(hm:0≤most)(qj:most≤1000):B8 Tryz.prog 13 1 (X0 l a) [.ref 0 0,.i most] 1 (X0 l (EJ l a most).2) (.tup [.agg (R5 (EJ l a most).1.1 (EJ l a most).1.2.1),f4 (EJ l a most).1.2.2]):=by
 have h1:=fb l a most hl hm qj
 have hd:=(XI l a hm).1
 unfold EJ
 dsimp only
 generalize Ab l a most=q at *
 obtain⟨⟨s,rows⟩,b⟩:=q
 dsimp only at *
 have h2:=fS s hd
 have h3:=XG l b hl
 have tA:(K9 s).length≤1000:=by
  have:=hd.lens
  have:=Bo s (s.cols.length-1)
  unfold K9
  omega
 generalize IG l b=z at *
 obtain⟨zR,b2⟩:=z
 dsimp only at *
 have h4:=AW (l':=[.agg (R5 s rows),.agg jj,.sl 2 ((K9 s).map B6),.i zR]) (ck s hd rows V9 (K9 s) tA zR) ⟨.refl _,jn,.refl _,.refl _,trivial⟩
 generalize Jt s rows V9 (K9 s) zR (p9 s V9 (K9 s))=X at *
 generalize FU s rows zR (p9 s V9 (K9 s))=xe at *
 generalize K9 s=P at *
 clear hd tA
 refine a8 Tryz.func13 31 fun E h0=>?_
 repeat'((first|refine nc [0] [0] h1 rfl rfl rfl ⟨rfl,trivial⟩ ?_|(refine G9 3 ?_;refine S9 (id:=3) (σ':=⟨[(0,.ref 0 0),(4,.ref 1 0),(5,.ref 2 0),(6,.iptr (R5 s rows)),(7,.iptr jj),(8,.sl 2 (P.map B6))],5,[(0,some (.box [.sl 1 (l.map N9),.i b])),(1,some (.box fx)),(2,some (.box mh))]⟩) (A6 h0) ?_;refine H9 (id:=3) ⟨[(4,.ref 1 0),(5,.ref 2 0),(6,.iptr (R5 s rows)),(9,.ref 5 0)],6,[(0,some (.box [.sl 1 (l.map N9),.i b2])),(1,some (.box fx)),(2,some (.box mh)),(5,some (.box (Nl X)))]⟩ ?_ ?_)|(refine G9 4 ?_;refine S9 (id:=4) (σ':=⟨[(4,.ref 1 0),(5,.ref 2 0),(6,.iptr (R5 s rows)),(9,.iptr (Nl X))],6,[(0,some (.box [.sl 1 (l.map N9),.i b2])),(1,some (.box fx)),(2,some (.box mh))]⟩) (A6 h0) ?_;refine H9 (id:=4) ⟨[(4,.ref 1 0),(5,.ref 2 0)],6,[(0,some (.box [.sl 1 (l.map N9),.i b2])),(1,some (.box (R5 s rows))),(2,some (.box (Nl X)))]⟩ ?_ ?_) |refine S2 ?_|(refine T6 ?_ ?_<;>intro h<;>try exact V1 h)|intro el nX nY|intro el nX|exact T4|refine T5 ?_ ?_|intro ex|refine A1 h2 ?_|refine nc [0] [0] h3 rfl rfl rfl ⟨rfl,trivial⟩ ?_|refine A1 h4 ?_)<;>try conv=>whnf)
 all_goals first
  |(exfalso;omega)
  |exact B3 h0 rfl ⟨rfl,rfl,rfl,rfl,trivial⟩ ⟨rfl,rfl,rfl,rfl,trivial⟩ rfl rfl rfl
  |exact B3 h0 rfl ⟨rfl,rfl,trivial⟩ ⟨rfl,rfl,rfl,trivial⟩ rfl rfl rfl
  |exact M0 (rvs:=[.cell 4 lr,.cell 5 qa]) (vs:=[.agg (R5 s rows),f4 X]) ⟨1,_,_,rfl,rfl,inferInstance,rfl,rfl,2,_,_,rfl,rfl,inferInstance,rfl,rfl,trivial⟩ rfl rfl (A6 h0) rfl
theorem Ki(l:List UInt8)(a:Nat){most:Int}(h0:0≤most)(h1:most≤200):C3 (EJ l a most).1.1∧V0 (EJ l a most).1.1 (EJ l a most).1.2.2:=by
 obtain⟨hd,hs⟩:=XI l a h0
 exact⟨hd,(fg hd hs (by omega) (jl l _)).2⟩
theorem cl{s:A4}(hd:C3 s)(l:List UInt8)(a:Nat):H0 s (.mk 7 0 0 0 0 [(EH l s a).1.2.2])=0:=by
 obtain⟨h1,h2⟩:=Hk hd l 2 (W6 l (EG l s a).2 s).2 (by decide)
 obtain⟨_,_,h3⟩:=Hj hd l 2 (W6 l (EG l s a).2 s).2
 show H0 s (.mk 7 0 0 0 0 [(R1 l s 2 (W6 l (EG l s a).2 s).2).1])=0
 exact jx h1 (by omega) (by omega)
theorem FV{s:A4}(hd:C3 s){x:H6}{dims:List Pk}{mea:Int}(hm:mea=-1∨P6 s mea 3=true){cnd:B0}:∀y∈W0 s x dims mea cnd,-1099511627776≤y.val∧y.val≤1099511627776:=by
 intro y hy
 unfold W0 at hy
 rw[List.mem_map]at hy
 obtain⟨i,_,rfl⟩:=hy
 refine UP hd.ok ?_ x i
 rcases hm with hm|hm
 ·exact .inl hm
 ·rw[Nx _ _ _ (by decide)]at hm
  exact .inr (of_decide_eq_true hm)
theorem IP{s:A4}{x:H6}(h:V0 s x)(dims:List Pk)(mea:Int)(cnd:B0):(W0 s x dims mea cnd).length≤200:=by
 unfold W0
 rw[List.length_map]
 exact Nat.le_trans (KW s x cnd (V7 mea)) h.len
structure Gq(c:F1):Prop where
 cnt:0≤c.cnt∧c.cnt≤200
 sum:-1000000000000000≤c.sum∧c.sum≤1000000000000000
 amo:0≤c.amo∧c.amo≤1000000000000000
 fst:0≤c.fst∧c.fst≤1000000000000000
 snd:0≤c.snd∧c.snd≤1000000000000000
 rows:c.rows.length≤200
theorem Fv{Ls:List O4}(hl:Ls.length≤200)(hv:∀y∈Ls,-1099511627776≤y.val∧y.val≤1099511627776)(l:List Int):Gq (F0 l Ls):=by
 obtain⟨h1,h2,_⟩:=Ul (codes:=l) hv Ls.length (Nat.le_refl _)
 rw[List.take_length]at h1 h2
 have h3:=(M2 l Ls).two
 obtain⟨_,g1,g2,g3,g4⟩:=h1
 obtain⟨o1,o2⟩:=h2
 exact⟨by omega,by omega,by omega,by omega,by omega,by omega⟩
theorem cm{α:Type}{f:α→Int}{B:Int}:∀{l:List α},(∀x∈l,-B≤f x∧f x≤B)→-(B*l.length)≤F5 (·+·) f l∧F5 (·+·) f l≤B*l.length
 |[],_=>by simp[F5]
 |a::r,h=>by
  have h1:=h a (List.mem_cons_self ..)
  have h2:=cm (f:=f) (B:=B) (l:=r) fun x hx=>h x (List.mem_cons_of_mem _ hx)
  rw[F5,List.length_cons]
  rw[Int.natCast_add,Int.mul_add]
  omega
theorem Vv{α:Type}{op:Int→Int→Int}(h:Jx op)(f:α→Int){l:List α}{k:Nat}{x:α}(hx:l[k]?=some x):F5 op f (l.take (k+1))=op (F5 op f (l.take k)) (f x):=by
 rw[I0 hx,Ad h]
structure CellW(s:A4)(D:List Pk)(cells:List F1)(c:F1):Prop where
 len:c.codes.length=D.length
 rows:(c.rows.length:Int)=c.cnt
 snd:c.snd≤c.fst
 two:c.fst+c.snd≤c.amo
 bd:Gq c
 place:∀(i:Nat) d,D[i]?=some d→c.codes[i]?=some (-1)→∃C:Int→F1,ju c C (Ei s d)∧∀q∈Ei s d,Gq (C q)∧∃n:Nat,F3 (fun z:F1=>decide (z.codes=c.codes.set i q)) cells 0=n∧cells[n]?=some (C q)
theorem fc{l:List F1}{k:Nat}{c:F1}(h:l[k]?=some c):Dg (l.take (k+1))=Dg (l.take k)+(if Q8 c.codes=true then (c.rows.length:Int)else 0):=Vv Y8 _ h
theorem lu{l:List F1}(h:∀c∈l,c.rows.length≤200)(k:Nat):0≤Dg (l.take k)∧Dg (l.take k)≤200*l.length:=by
 have key:∀l:List F1,(∀c∈l,c.rows.length≤200)→0≤Dg l∧Dg l≤200*l.length:=by
  intro l
  induction l with
  |nil=>intro _;exact⟨Int.le_refl _,by simp[Dg,F5]⟩
  |cons a r ih =>
   intro h
   have h1:=h a (List.mem_cons_self ..)
   have h2:=ih fun c hc=>h c (List.mem_cons_of_mem _ hc)
   unfold Dg at *
   rw[F5,List.length_cons]
   split<;>omega
 have h1:=key (l.take k) fun c hc=>h c (List.mem_of_mem_take hc)
 have h2:(l.take k).length≤l.length:=by rw[List.length_take];omega
 omega
structure nN(s:A4)(D:List Pk)(M:Int)(cells:List F1):Prop where
 len:1≤cells.length∧cells.length≤1331
 row:∀c∈cells,c.codes.length=D.length∧c.rows.length≤200
 first:∃c,cells[0]?=some c∧c.cnt=Dg cells
 has:∀(i:Nat) c,cells[i]?=some c→Q8 c.codes=true→∀key∈c.rows,∀(n:Nat) o,cells[n]?=some o→(o.rows.any fun y=>decide (y=key))=Nz ⟨D,M,cells⟩ i n
theorem Zi{s:A4}(hd:C3 s){x:H6}(hX:V0 s x){D:List Pk}{M:Int}{C:B0}(ha:OP s D M C):
  ∃cells,Cv s x D M C=⟨D,M,cells⟩∧i6 s x D M C=0∧nN s D M cells:=by
 obtain⟨hE,hT⟩:=As hd hX ha
 have hb:=fun l=>Fv (IP hX D M C) (FV hd ha.mea) l
 have vD:=cZ hd hX ha.dims ha.mea (cnd:=C)
 have uT:=Zf hX D M C
 have hh:=Qu s D
 refine⟨_,hT,hE,?_,fun c hc=>?_,?_,fun i c hc hw key hk n o ho=>?_⟩
 ·rw[List.length_map]
  have:=DA hd ha.dims
  have:=D4 hh
  omega
 ·rw[List.mem_map]at hc
  obtain⟨l,hl,rfl⟩:=hc
  exact⟨by rw[(M2 l _).codes];exact II hl,(hb l).rows⟩
 ·refine⟨F0 (D.map fun _=>(-1:Int)) (W0 s x D M C),by rw[List.getElem?_map,hh];rfl,?_⟩
  rw[all_seen (A:=Ei s) (PS s) (Qv s) (fun d=>cY) vD]
  exact cb D _
 ·have wa:=hc
  rw[List.getElem?_map,Option.map_eq_some_iff]at hc ho
  obtain⟨l,hl,rfl⟩:=hc
  obtain⟨l',oL,rfl⟩:=ho
  have h1:=(M2 l (W0 s x D M C)).codes
  have h2:=(M2 l' (W0 s x D M C)).codes
  have h3:=II (List.mem_of_getElem? hl)
  have h4:=II (List.mem_of_getElem? oL)
  rw[h1]at hw
  rw[fq uT (fun y hy=>by rw[(vD y hy).1,h3]) hw hk l']
  have ox:=D4 hl
  have hnn:=D4 oL
  rw[Wt (x:=F0 l (W0 s x D M C)) (y:=F0 l' (W0 s x D M C)) (by simp only[List.length_map];omega) (by rw[Int.toNat_natCast];exact wa) (by rw[Int.toNat_natCast,List.getElem?_map,oL];rfl),h1,h2,if_pos ⟨h3,h4⟩]
structure nM(A Y N:List F1):Prop where
 len:A.length≤1331∧Y.length=A.length∧N.length=A.length
 get:∀(k:Nat) a y n,A[k]?=some a→Y[k]?=some y→N[k]?=some n→y.cnt+n.cnt≤a.cnt∧Gq a∧Gq y∧Gq n∧∀key∈y.rows,(n.rows.any fun z=>decide (z=key))=false∧(a.rows.any fun z=>decide (z=key))=true
theorem fe{s:A4}(hd:C3 s){x:H6}(hX:V0 s x){D:List Pk}(hD:J4 s D=0){C:B0}(hc:H0 s C=0)(hn:H0 s (.mk 7 0 0 0 0 [C])=0):
  ∃A Y N,Cv s x D (-1) EK=⟨D,-1,A⟩∧i6 s x D (-1) EK=0∧Cv s x D (-1) C=⟨D,-1,Y⟩∧i6 s x D (-1) C=0∧Cv s x D (-1) (.mk 7 0 0 0 0 [C])=⟨D,-1,N⟩∧i6 s x D (-1) (.mk 7 0 0 0 0 [C])=0∧nM A Y N:=by
 obtain⟨e1,t1⟩:=As hd hX ⟨hD,.inl rfl,Dt hd.ok⟩
 obtain⟨e2,t2⟩:=As hd hX ⟨hD,.inl rfl,hc⟩
 obtain⟨e3,t3⟩:=As hd hX ⟨hD,.inl rfl,hn⟩
 refine⟨_,_,_,t1,e1,t2,e2,t3,e3,⟨by rw[List.length_map];exact DA hd hD,by simp only[List.length_map],by simp only[List.length_map]⟩,fun k a y n ha hy yv=>?_⟩
 rw[List.getElem?_map,Option.map_eq_some_iff]at ha hy yv
 obtain⟨l,hl,rfl⟩:=ha
 obtain⟨l2,oM,rfl⟩:=hy
 obtain⟨l3,pT,rfl⟩:=yv
 rw[hl]at oM pT
 cases oM
 cases pT
 obtain⟨h1,h2⟩:=fv hd hX D hc hn l
 have hb:=fun C l=>Fv (IP hX D (-1) C) (FV hd (.inl rfl)) l
 exact⟨h1,hb _ l,hb _ l,hb _ l,h2⟩
def cQ(z:Int×Int×Int)(a:Int):Int×Int×Int:=(z.1+a,if z.2.1<a then (a,z.2.1)else if z.2.2<a then (z.2.1,a)else z.2)
def cR(c:F1):Int×Int×Int:=(c.amo,c.fst,c.snd)
theorem gV(key v:Int)(c:F1):cR (L2 key v true c)=cQ (cR c) (Ae v):=by
 unfold L2 cR cQ
 rw[if_neg (by decide)]
 dsimp only[Ae]
 split
 ·rfl
 ·split<;>rfl
structure nW(rows:List (List Int))(m:Int)(c:F1)(K:Nat→Int×Int×Int):Prop where
 zero:K 0=(0,0,0)
 last:K rows.length=(c.amo,c.fst,c.snd)
 bd:∀j,j≤rows.length→(0≤(K j).1∧(K j).1≤1000000000000000)∧(0≤(K j).2.1∧(K j).2.1≤1000000000000000)∧(0≤(K j).2.2∧(K j).2.2≤1000000000000000)
 row:∀(j:Nat) r,rows[j]?=some r→∃key v,r[0]?=some key∧r[m.toNat]?=some v∧(-1099511627776≤v∧v≤1099511627776)∧K (j+1)=if (c.rows.any fun y=>decide (y=key))=true then cQ (K j) (Ae v)else K j
 sum:max c.sum (-c.sum)≤c.amo
 cel:Gq c
theorem nL{s:A4}(hd:C3 s){x:H6}(hX:V0 s x){D:List Pk}{M:Int}{C:B0}(hD:J4 s D=0)(hm:P6 s M 3=true)(hc:H0 s C=0):
  ∃cells,Cv s x D M C=⟨D,M,cells⟩∧i6 s x D M C=0∧cells.length≤1331∧∀(k:Nat) c,cells[k]?=some c→∃K,nW x.rows M c K:=by
 have ha:OP s D M C:=⟨hD,.inr hm,hc⟩
 obtain⟨hE,hT⟩:=As hd hX ha
 refine⟨_,hT,hE,by rw[List.length_map];exact DA hd hD,fun k c hc=>?_⟩
 rw[List.getElem?_map,Option.map_eq_some_iff]at hc
 obtain⟨l,hl,rfl⟩:=hc
 have hb:=Fv (IP hX D M C) (FV hd ha.mea) l
 refine⟨fun j=>cR (Ds s x D M C l j),?_,?_,fun j hj=>?_,fun j r hr=>?_,ft l _,hb⟩
 ·rw[Zg];rfl
 ·rw[ch];rfl
 ·have zO:∀i∈Bp (R3 s x C (V7 M)) j,i∈R3 s x C (V7 M):=fun i hi=>(List.mem_filter.1 hi).1
  have h2:Gq (Ds s x D M C l j):=by
   refine Fv ?_ (fun y hy=>?_) l
   ·rw[List.length_map]
    refine Nat.le_trans (List.length_filter_le _ _) ?_
    exact Nat.le_trans (KW s x C (V7 M)) hX.len
   ·rw[List.mem_map]at hy
    obtain⟨i,hi,rfl⟩:=hy
    exact FV hd ha.mea _ (List.mem_map.2 ⟨i,zO i hi,rfl⟩)
  exact⟨h2.amo,h2.fst,h2.snd⟩
 ·obtain⟨h1,h2,v,h3,h4,h5,h6⟩:=ci hd hX hD hm hr
  refine⟨_,v,h2,h3,⟨h5,by omega⟩,?_⟩
  rw[Zh hX.asc D M C l hr]
  split
  ·rw[gV,h4]
  ·rfl
structure qN(und:Int→Int→Bool)(F G:List F1):Prop where
 len:F.length≤1331∧G.length≤1331
 fine:∀(k:Nat) z,F[k]?=some z→Gq z∧∃c,z.codes=[c]
 coarse:∀(k:Nat) y,G[k]?=some y→Gq y∧∃b,y.codes=[b]∧F5 (·+·) (fun z:F1=>if z.codes.headD 0≠-1∧(b=-1∨und (z.codes.headD 0) b=true)then z.cnt else 0) F=y.cnt
theorem lw{s:A4}(hd:C3 s){x:H6}(hX:V0 s x){a:Int}(h0:0≤a)(h1:a≤A8 s 1){C:B0}(hc:H0 s C=0):
  ∃F G,Cv s x [⟨1,A8 s 1⟩] (-1) C=⟨[⟨1,A8 s 1⟩],-1,F⟩∧i6 s x [⟨1,A8 s 1⟩] (-1) C=0∧Cv s x [⟨1,a⟩] (-1) C=⟨[⟨1,a⟩],-1,G⟩∧i6 s x [⟨1,a⟩] (-1) C=0∧qN (M6 (B9 s (B4 s 1)).1 (B9 s (B4 s 1)).2) F G:=by
 have hl:=hd.lens
 have hf:=hd.fin (c:=1) (by omega) (by omega)
 have hF:=IM hd hf.1 (Int.le_refl _)
 have hA:=IM hd h0 h1
 obtain⟨e1,t1⟩:=As hd hX ⟨hF,.inl rfl,hc⟩
 obtain⟨e2,t2⟩:=As hd hX ⟨hA,.inl rfl,hc⟩
 have hb:=fun D l=>Fv (IP hX D (-1) C) (FV hd (.inl rfl)) l
 refine⟨_,_,t1,e1,t2,e2,⟨by rw[List.length_map];exact DA hd hF,by rw[List.length_map];exact DA hd hA⟩,fun k z hz=>?_,fun k y hy=>?_⟩
 ·rw[List.getElem?_map,Option.map_eq_some_iff]at hz
  obtain⟨l,hl,rfl⟩:=hz
  refine⟨hb _ l,?_⟩
  rw[(M2 l _).codes]
  have hm:=List.mem_of_getElem? hl
  rw[OH,List.mem_map]at hm
  obtain⟨c,_,rfl⟩:=hm
  exact⟨c,rfl⟩
 ·rw[List.getElem?_map,Option.map_eq_some_iff]at hy
  obtain⟨l,hl,rfl⟩:=hy
  refine⟨hb _ l,?_⟩
  rw[(M2 l _).codes]
  have hm:=List.mem_of_getElem? hl
  rw[OH,List.mem_map]at hm
  obtain⟨b,hbm,rfl⟩:=hm
  exact⟨b,rfl,cj hd hX h0 h1 C hbm⟩
end Go.Proofs.YtiphlhoclaogjaaGreatDoor
