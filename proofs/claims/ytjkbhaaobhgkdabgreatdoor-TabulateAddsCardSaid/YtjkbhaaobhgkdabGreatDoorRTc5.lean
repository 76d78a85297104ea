/- Chapter 18: a drawn source is valid, and the extract of all its columns and rows is right: plain. -/
import Derived.Test.YtjkbhaaobhgkdabGreatDoorRCA
import Derived.Test.YtjkbhaaobhgkdabGreatDoorRQd0
import Derived.Test.YtjkbhaaobhgkdabGreatDoorRCe6
import Derived.Test.YtjkbhaaobhgkdabGreatDoorRTb1
import Derived.Test.YtjkbhaaobhgkdabGreatDoorRTa9
import Derived.Test.YtjkbhaaobhgkdabGreatDoorRTa7
import Derived.Test.YtjkbhaaobhgkdabGreatDoorRTa2
import Derived.Test.YtjkbhaaobhgkdabGreatDoorRTx4
import Derived.Test.YtjkbhaaobhgkdabGreatDoorRQn2
import Derived.Test.YtjkbhaaobhgkdabGreatDoorRC7
import Derived.Test.YtjkbhaaobhgkdabGreatDoorRCf1
import Derived.Test.YtjkbhaaobhgkdabGreatDoorRSx
import Derived.Test.YtjkbhaaobhgkdabGreatDoorRTa5
set_option linter.unusedVariables false
set_option linter.unnecessarySimpa false
set_option linter.unusedSimpArgs false
set_option maxHeartbeats 64000000
namespace Go.Proofs.YtjkbhaaobhgkdabGreatDoor
open Go Go.Av
attribute [local irreducible] D0 B0 D2 C7 DQ D1 C8 St.le A3 B6
set_option maxRecDepth 100000
abbrev EW(l:List (List Int)):Prop:=l.Pairwise fun a b=>a.headD 0<b.headD 0
theorem II{l:List (List Int)}{x:List Int}(h:EW l)(hx:∀y∈l,y.headD 0<x.headD 0):EW (l++[x]):=by
 refine List.pairwise_append.2 ⟨h,List.pairwise_singleton ..,fun a ha b hb=>?_⟩
 rw[List.mem_singleton]at hb
 subst hb
 exact hx a ha
theorem Km{row:List Int}:∀(l:List (List Int)) (out:List (List Int)) (done:Bool),EW out→EW l→(∀x∈out,∀y∈l,x.headD 0<y.headD 0)→(done=false→∀x∈out,x.headD 0<row.headD 0)→(done=true→∀y∈l,row.headD 0<y.headD 0) →
  EW (l.foldl (o5 row) (out,done)).1∧((l.foldl (o5 row) (out,done)).2=false→∀x∈(l.foldl (o5 row) (out,done)).1,x.headD 0<row.headD 0)
 |[],out,done,h1,_,_,h4,_=>⟨h1,h4⟩
 |x::r,out,done,h1,h2,h3,h4,h5=>by
  obtain⟨h6,h7⟩:=List.pairwise_cons.1 h2
  have h3x:=fun y hy=>h3 y hy x (List.mem_cons_self ..)
  have yg:=fun y hy z hz=>h3 y hy z (List.mem_cons_of_mem _ hz)
  rw[List.foldl_cons,o5]
  by_cases c1:x.headD 0=row.headD 0
  ·rw[if_pos c1]
   exact Km r out done h1 h7 yg h4 fun hd y hy=>h5 hd y (List.mem_cons_of_mem _ hy)
  ·rw[if_neg c1]
   by_cases c2:row.headD 0<x.headD 0∧done=false
   ·rw[if_pos c2]
    have h8:=h4 c2.2
    refine Km r _ true (II (II h1 h8) fun y hy=>?_) h7 (fun y hy z hz=>?_) (fun h=>by cases h) fun _ y hy=>Int.lt_trans c2.1 (h6 y hy)
    ·rcases List.mem_append.1 hy with hy|hy
     ·exact h3x y hy
     ·rw[List.mem_singleton]at hy;subst hy;exact c2.1
    ·have h9:=h6 z hz
     rcases List.mem_append.1 hy with hy|hy
     ·rcases List.mem_append.1 hy with hy|hy
      ·exact yg y hy z hz
      ·rw[List.mem_singleton]at hy;subst hy;exact Int.lt_trans c2.1 h9
     ·rw[List.mem_singleton]at hy;subst hy;exact h9
   ·rw[if_neg c2]
    refine Km r _ done (II h1 h3x) h7 (fun y hy z hz=>?_) (fun hd y hy=>?_) fun hd y hy=>h5 hd y (List.mem_cons_of_mem _ hy)
    ·rcases List.mem_append.1 hy with hy|hy
     ·exact yg y hy z hz
     ·rw[List.mem_singleton]at hy;subst hy;exact h6 z hz
    ·rcases List.mem_append.1 hy with hy|hy
     ·exact h4 hd y hy
     ·rw[List.mem_singleton]at hy
      rw[hy]
      have:¬row.headD 0<x.headD 0:=fun h=>c2 ⟨h,hd⟩
      omega
theorem Uj{l:List (List Int)}(h:EW l)(row:List Int):EW (o6 l row):=by
 obtain⟨h1,h2⟩:=Km (row:=row) l [] false List.Pairwise.nil h (fun x hx=>by cases hx) (fun _ x hx=>by cases hx) (fun hd=>by cases hd)
 unfold o6
 dsimp only
 split
 ·exact h1
 ·rename_i hf
  exact II h1 (h2 (by simpa using hf))
theorem Uk{l:List (List Int)}{row x:List Int}(h:x∈o6 l row):x=row∨x∈l:=by
 have key:∀(l:List (List Int)) (q:List (List Int)×Bool),x∈(l.foldl (o5 row) q).1→x=row∨x∈l∨x∈q.1:=by
  intro l
  induction l with
  |nil=>intro q hq;exact .inr (.inr hq)
  |cons a r ih =>
   rintro ⟨out,done⟩ hq
   rw[List.foldl_cons,o5]at hq
   rcases ih _ hq with h|h|h
   ·exact .inl h
   ·exact .inr (.inl (List.mem_cons_of_mem _ h))
   ·split at h
    ·exact .inr (.inr h)
    ·split at h
     ·dsimp only at h
      simp only[List.mem_append,List.mem_singleton]at h
      rcases h with (h|h)|h
      ·exact .inr (.inr h)
      ·exact .inl h
      ·exact .inr (.inl (by rw[h];exact List.mem_cons_self ..))
     ·dsimp only at h
      simp only[List.mem_append,List.mem_singleton]at h
      rcases h with h|h
      ·exact .inr (.inr h)
      ·exact .inr (.inl (by rw[h];exact List.mem_cons_self ..))
 unfold o6 at h
 dsimp only at h
 split at h
 ·rcases key l _ h with h|h|h
  ·exact .inl h
  ·exact .inr h
  ·cases h
 ·rcases List.mem_append.1 h with h|h
  ·rcases key l _ h with h|h|h
   ·exact .inl h
   ·exact .inr h
   ·cases h
  ·exact .inl (by simpa using h)
structure OM(s:A4)(n:Nat)(rows:List (List Int)):Prop where
 asc:EW rows
 ok:∀r∈rows,o9 s r
 len:rows.length≤n
theorem ON{s:A4}(hd:C4 s)(l:List UInt8):∀(n m:Nat) (x:List (List Int)×Nat),OM s m x.1→OM s (m+n) (CX l s n x).1
 |0,m,x,h=>h
 |n+1,m,x,h=>by
  have:=ON hd l n (m+1) (o6 x.1 (j5 l x.2 s).1,(j5 l x.2 s).2) ⟨Uj h.asc _,fun r hr=>?_,?_⟩
  ·rw[show m+(n+1)=m+1+n by omega]
   exact this
  ·rcases Uk hr with rfl|hr
   ·exact iW hd l x.2
   ·exact h.ok r hr
  ·have h1:=Hr x.1 (j5 l x.2 s).1
   have h2:=h.len
   dsimp only
   omega
theorem XF(l:List UInt8)(a:Nat){most:Int}(h0:0≤most):C4 (Az l a most).1.1∧OM (Az l a most).1.1 most.toNat (Az l a most).1.2:=by
 have hd:=Nm l a
 have hn:=F9 l (Bz l a).2 (n:=most+1) (by omega)
 have h:=ON hd l (B3 l (Bz l a).2 (most+1)).1 0 ([],(B3 l (Bz l a).2 (most+1)).2) ⟨List.Pairwise.nil,(fun r hr=>by cases hr),Nat.le_refl _⟩
 refine⟨hd,h.asc,h.ok,Nat.le_trans h.len ?_⟩
 omega
theorem XG{l:List (List Int)}(h:EW l){i j:Nat}{x y:List Int}(hx:l[i]?=some x)(hy:l[j]?=some y)(sT:i<j):x.headD 0<y.headD 0:=by
 have h1:=D6 hx
 have h2:=D6 hy
 have:=List.pairwise_iff_getElem.1 h i j h1 h2 sT
 rw[List.getElem?_eq_getElem h1]at hx
 rw[List.getElem?_eq_getElem h2]at hy
 rw[Option.some.inj hx,Option.some.inj hy]at this
 exact this
theorem jc{s:A4}(hd:C4 s){n:Nat}{rows:List (List Int)}(h:OM s n rows)(hn:n≤200):EV s rows=true:=by
 refine decide_eq_true ⟨hd.ok,Nat.le_trans h.len hn,x9 fun i r hr=>?_⟩
 rw[Nat.zero_add]
 unfold Jy
 rw[if_neg (by have:=iX hd.ok (h.ok r (List.mem_of_getElem? hr));omega),if_neg]
 rintro ⟨h0,h1⟩
 obtain⟨q,hq⟩:∃q,rows[i-1]?=some q:=⟨_,List.getElem?_eq_getElem (by have:=D6 hr;omega)⟩
 rw[D3 hq]at h1
 have:=XG h.asc hq hr (by omega)
 omega
theorem lb{s:A4}(hd:C4 s){r:List Int}(h:o9 s r):1≤r.headD 0∧r.headD 0≤60:=by
 have hl:=hd.lens
 obtain⟨c,hc⟩:∃c,s.cols[0]?=some c:=⟨_,List.getElem?_eq_getElem (by omega)⟩
 have h1:=h.2 0 c hc
 have hk:c.kind=1:=by
  rcases hd.col hc with ⟨_,rfl⟩|⟨h,_⟩|⟨h,_⟩
  ·rfl
  ·omega
  ·omega
 have h2:r.getD 0 0=r.headD 0:=by cases r<;>rfl
 rw[h2]at h1
 rcases h1 with ⟨_,h3,h4⟩|⟨h3,_⟩|⟨h3,_⟩
 ·exact⟨h3,h4⟩
 ·omega
 ·omega
def U4:DD:=⟨[97,108,108,95,114,111,119,115],[115,114,99],KB,1,1,0,[⟨[113],1,KB,[⟨1,0⟩],-1,[],zC⟩]⟩
theorem jd:NL gI (Jp U4):=EE ⟨.refl _,.refl _,.refl _,.refl _,.refl _,.refl _,.refl _,.nil 6,.refl _,.refl _,.refl _,gE ⟨⟨.refl _,.refl _,.refl _,.refl _,.refl _,.refl _,.refl _,.nil 6,.refl _,.refl _,.nil 1,.refl _,.refl _,.refl _,.refl _,.refl _,.nil 6,trivial⟩,trivial⟩,trivial⟩
theorem OO{s:A4}(hd:C4 s):N4 s ⟨[113],1,KB,[⟨1,0⟩],-1,[],zC⟩=0:=by
 have hl:=hd.lens
 obtain⟨c,hc⟩:∃c,s.cols[1]?=some c:=⟨_,List.getElem?_eq_getElem (by omega)⟩
 obtain⟨b,ms,hb,_⟩:=hd.cs
 have hk:c.kind=2:=by
  rw[hb]at hc
  cases b<;>(simp[M8]at hc;subst hc;rfl)
 refine OL hd.ok (by decide) rfl (KC hd.ok) ?_ (.inl rfl) rfl rfl
 unfold L0
 rw[if_neg (by simp)]
 unfold E8
 have hf:=hd.fin (c:=1) (by omega) (by omega)
 have hp:I4 s ⟨1,0⟩=0:=by
  unfold I4 l8
  rw[if_pos hd.ok]
  dsimp only
  rw[if_neg (by omega),if_neg (by omega)]
 have hx:P9 s [⟨1,0⟩] 0 ⟨1,0⟩=0:=by
  unfold P9
  rw[if_neg (fun h=>h hp),if_neg (by rw[B7 (by simpa using hc)];omega),if_neg (by simp)]
 rw[if_pos hx]
 rfl
theorem ZS{s:A4}(hd:C4 s):Df s U4=0:=by
 unfold Df U4
 dsimp only
 rw[if_neg (by have:=hd.ok;omega),if_neg (by decide),if_neg (by have:=KC hd.ok;omega),if_neg (by omega),if_neg (by simp)]
 unfold E8
 have hx:OD s [⟨[113],1,KB,[⟨1,0⟩],-1,[],zC⟩] 0 ⟨[113],1,KB,[⟨1,0⟩],-1,[],zC⟩=0:=by
  unfold OD
  rw[if_neg (by have:=OO hd;omega),if_neg (by simp)]
 rw[if_pos hx]
 rfl
theorem je{s:A4}(hd:C4 s):p0 s U4 (K7 s)=0:=by
 have hl:=hd.lens
 have hp:=Qr hd
 have hq:=OO hd
 unfold p0
 rw[if_neg (by have:=ZS hd;omega),if_neg (by omega),if_pos]
 unfold U4
 rw[List.all_cons,List.all_nil,Bool.and_true]
 unfold Ub
 rw[decide_eq_true hq,decide_eq_true hp,Bool.true_and,Bool.true_and]
 have hz:IG s ⟨[113],1,KB,[⟨1,0⟩],-1,[],zC⟩=[]:=by
  have hu:∀(k:Nat),z6 s ⟨[113],1,KB,[⟨1,0⟩],-1,[],zC⟩ [] k=[]:=by
   intro k
   induction k with
   |zero=>rfl
   |succ k ih =>
    unfold z6
    rw[if_neg,ih]
    unfold Jw
    rw[decide_eq_false (by dsimp only;omega)]
    simp
  have hn:L5 s KB=[]:=by
   unfold L5
   rw[if_pos (KC hd.ok),show Y5 KB=[]from rfl,Wf]
   exact Ja _ _
  have oq:H7 s 1 0≤0:=by
   unfold H7
   split
   ·omega
   ·obtain⟨c,hc⟩:∃c,s.cols[1]?=some c:=⟨_,List.getElem?_eq_getElem (by omega)⟩
    obtain⟨n,hB⟩:=hd.blk (by omega) hc
    have:=(Ga hB 0 (Nat.zero_le _)).1
    rw[B7 (by simpa using hc)]
    show ((P7 s c 0:Nat):Int)≤0
    omega
  unfold IG
  rw[if_pos hq]
  have:ZJ s ⟨[113],1,KB,[⟨1,0⟩],-1,[],zC⟩=[]:=by
   unfold ZJ ZI M3
   dsimp only
   rw[hn,if_neg (by omega)]
   show a6 [] 1 (H7 s 1 0)=[]
   unfold a6 M7
   rw[decide_eq_true oq,if_pos rfl]
  rw[this,hu]
 rw[hz]
 exact Td fun n hn=>by cases hn
structure DL(s:A4)(x:K3):Prop where
 prj:D5 x.prj=true
 ver:x.ver=0
 picks:x.picks=K7 s
 asc:EW x.rows
 row:∀r∈x.rows,∃q,o9 s q∧r=r.headD 0::q.tail∧0≤r.headD 0∧r.headD 0≤1048575
 len:x.rows.length≤200
theorem Qu{l:List Int}(k:Nat):l.tail[k]?=l[k+1]?:=by cases l<;>simp
theorem o9.get{s:A4}{q:List Int}(h:o9 s q){i:Nat}(hi:i<s.cols.length):∃v c,q[i]?=some v∧s.cols[i]?=some c∧c9 s c v:=by
 obtain⟨h1,h2⟩:=h
 obtain⟨v,hv⟩:∃v,q[i]?=some v:=⟨_,List.getElem?_eq_getElem (by omega)⟩
 obtain⟨c,hc⟩:∃c,s.cols[i]?=some c:=⟨_,List.getElem?_eq_getElem hi⟩
 have:=h2 i c hc
 rw[D3 hv]at this
 exact⟨v,c,hv,hc,this⟩
theorem fK{s:A4}(hd:C4 s){q:List Int}(h:o9 s q):((K7 s).map fun p=>I0 s p.col p.lev (q.getD p.col.toNat 0))=q.tail:=by
 have hl:=hd.lens
 have si:=CH s (s.cols.length-1)
 refine List.ext_getElem? fun i=>?_
 rw[List.getElem?_map,Qu]
 by_cases hi:i<s.cols.length-1
 ·unfold K7
  rw[CI s hi]
  obtain⟨v,c,hv,hc,wF⟩:=h.get (i:=i+1) (by omega)
  obtain⟨n,hn,_,uq⟩:=hd.chain (i:=i+1) (by omega) hc
  rw[hv]
  show some (I0 s ((i:Int)+1) (B9 s ((i:Int)+1)) (q.getD ((i:Int)+1).toNat 0))=some v
  rw[show ((i:Int)+1)=((i+1:Nat):Int) by omega,Int.toNat_natCast,D3 hv,hn,(uq v wF).1]
 ·rw[List.getElem?_eq_none (by unfold K7;omega),List.getElem?_eq_none (by have:=h.1;omega)]
  rfl
theorem fL{s:A4}(hd:C4 s){n:Nat}{rows:List (List Int)}(h:OM s n rows)(hn:n≤200){secret:Int}(hs:0≤secret∧secret<1152921504606846976):
  Fh s rows secret (p0 s U4 (K7 s))=0∧DL s (Jz s rows U4 (K7 s) secret (p0 s U4 (K7 s))):=by
 have hv:=jc hd h hn
 have hE:Fh s rows secret (p0 s U4 (K7 s))=0:=by
  unfold Fh
  rw[if_neg (by rw[hv];decide),if_neg (by have:=je hd;omega),if_neg (by omega)]
 refine⟨hE,?_⟩
 have hX:Jz s rows U4 (K7 s) secret (p0 s U4 (K7 s))=⟨U4.prj,0,K7 s,U3 s rows (K7 s) secret (o7 s rows U4)⟩:=if_pos hE
 rw[hX]
 have nT:∀id∈o7 s rows U4,id∈DK s U4 rows:=fun id hid=>by
  unfold o7 at hid
  split at hid
  ·exact hid
  ·cases hid
 have hne:∀(k:Nat) r,rows[k]?=some r→∃z,r[0]?=some z:=fun k r hk=>by
  have:=(h.ok r (List.mem_of_getElem? hk)).1
  have:=hd.lens
  exact⟨_,List.getElem?_eq_getElem (by omega)⟩
 have nk:∀id∈DK s U4 rows,∃q,o9 s q∧n6 s rows (K7 s) secret id=Fg secret id::q.tail∧0≤Fg secret id∧Fg secret id≤1048575:=fun id hid=>by
  obtain⟨j,r,h1,h2⟩:=Uh hne hid
  have h3:=h.ok r (List.mem_of_getElem? h2)
  have hb:Jx secret id=true:=by
   unfold DK at hid
   rw[List.mem_map]at hid
   obtain⟨r0,h4,rfl⟩:=hid
   have:=lb hd (h.ok r0 (List.mem_filter.1 h4).1)
   exact decide_eq_true ⟨hs.1,hs.2,by omega,by omega⟩
  refine⟨r,h3,?_,jY hb⟩
  unfold n6
  rw[h1,Int.toNat_natCast,D3 h2,fK hd h3]
 have key:∀(ids:List Int) (pa:List (List Int)),(∀id∈ids,id∈DK s U4 rows)→EW pa→(∀r∈pa,∃q,o9 s q∧r=r.headD 0::q.tail∧0≤r.headD 0∧r.headD 0≤1048575) →
   EW (ids.foldl (fun pa id=>o6 pa (n6 s rows (K7 s) secret id)) pa)∧(∀r∈ids.foldl (fun pa id=>o6 pa (n6 s rows (K7 s) secret id)) pa,∃q,o9 s q∧r=r.headD 0::q.tail∧0≤r.headD 0∧r.headD 0≤1048575) ∧
    (ids.foldl (fun pa id=>o6 pa (n6 s rows (K7 s) secret id)) pa).length≤pa.length+ids.length:=by
  intro ids
  induction ids with
  |nil=>intro pa _ h1 h2;exact⟨h1,h2,Nat.le_refl _⟩
  |cons id r ih =>
   intro pa h0 h1 h2
   rw[List.foldl_cons]
   obtain⟨g1,g2,g3⟩:=ih (o6 pa (n6 s rows (K7 s) secret id)) (fun i hi=>h0 i (List.mem_cons_of_mem _ hi)) (Uj h1 _) fun y hy=>by
    rcases Uk hy with rfl|hy
    ·obtain⟨q,q1,q2,q3⟩:=nk id (h0 id (List.mem_cons_self ..))
     refine⟨q,q1,?_,?_⟩
     ·rw[q2];rfl
     ·rw[q2];exact q3
    ·exact h2 y hy
   refine⟨g1,g2,?_⟩
   have:=Hr pa (n6 s rows (K7 s) secret id)
   rw[List.length_cons]
   omega
 obtain⟨k1,k2,k3⟩:=key (o7 s rows U4) [] nT List.Pairwise.nil (fun r hr=>by cases hr)
 refine⟨(show D5 U4.prj=true by decide),rfl,rfl,k1,k2,?_⟩
 have rQ:(o7 s rows U4).length≤rows.length:=by
  unfold o7
  split
  ·exact MZ s U4 rows
  ·exact Nat.zero_le _
 have:=h.len
 refine Nat.le_trans k3 ?_
 rw[List.length_nil]
 omega
theorem KD{s:A4}{q:List Int}{k:Int}{i:Nat}{v:Int}(hi:i+1<s.cols.length)(hv:q[i+1]?=some v):((K7 s).zip (k::q.tail).tail)[i]?=some (⟨(i:Int)+1,B9 s ((i:Int)+1)⟩,v):=by
 rw[List.getElem?_zip_eq_some]
 refine⟨?_,?_⟩
 ·unfold K7
  rw[CI s (by omega)]
 ·show q.tail[i]?=some v
  rw[Qu,hv]
theorem Vw{s:A4}(hd:C4 s){x:K3}(h:DL s x):V4 s x=0:=by
 have hp:=Qr hd
 have hl:=hd.lens
 have si:=CH s (s.cols.length-1)
 unfold V4
 rw[if_neg (by have:=hd.ok;omega),if_neg (by rw[h.prj];decide),if_neg (by have:=h.ver;omega),if_neg (by rw[h.picks];omega),if_neg (by have:=h.len;omega)]
 refine x9 fun i r hr=>?_
 rw[Nat.zero_add]
 obtain⟨q,h1,h2,h3,h4⟩:=h.row r (List.mem_of_getElem? hr)
 have hf:De s x.picks r=true:=by
  unfold De
  rw[h.picks,decide_eq_true,Bool.true_and]
  ·unfold Cw
   rw[List.all_eq_true]
   rintro ⟨p,v⟩ hm
   obtain⟨j,hj⟩:=List.mem_iff_getElem?.1 hm
   have uD:j+1<s.cols.length:=by
    have:=D6 hj
    rw[List.length_zip]at this
    unfold K7 at this
    omega
   obtain⟨w,c,hw,hc,wB⟩:=h1.get (i:=j+1) uD
   rw[h2,KD uD hw]at hj
   cases hj
   obtain⟨n,hn,_,uq⟩:=hd.chain (i:=j+1) (by omega) hc
   have:=(jU hd (i:=j+1) (by omega) hc hn wB (m:=n) (Nat.le_refl _)).1
   rw[(uq _ wB).1]at this
   dsimp only
   rw[show ((j:Int)+1)=((j+1:Nat):Int) by omega,hn]
   exact this
  ·have nO:r.length=q.length:=by
    rw[h2]
    have:=h1.1
    cases q with
    |nil=>simp at this;omega
    |cons a t=>simp
   refine⟨?_,h3,h4⟩
   have:=h1.1
   unfold K7
   omega
 unfold EP
 rw[if_neg (by rw[hf];decide),if_neg]
 rintro ⟨h0,h5⟩
 obtain⟨y,hy⟩:∃y,x.rows[i-1]?=some y:=⟨_,List.getElem?_eq_getElem (by have:=D6 hr;omega)⟩
 rw[D3 hy]at h5
 have:=XG h.asc hy hr (by omega)
 omega
theorem XH{s:A4}{col lev:Int}:∀{pv:List (Pk×Int)} {i:Nat} {p:Pk} {v:Int},pv[i]?=some (p,v)→p.col=col→(∀(j:Nat) y,j<i→pv[j]?=some y→y.1.col≠col)→U2 s col lev pv=Z0 s col p.lev v lev
 |[],i,p,v,h,_,_=>by simp at h
 |(a,b)::r,0,p,v,h,hc,_=>by
  simp at h
  obtain⟨rfl,rfl⟩:=h
  rw[U2,if_pos hc]
 |(a,b)::r,i+1,p,v,h,hc,hn=>by
  rw[U2,if_neg (hn 0 (a,b) (by omega) rfl)]
  exact XH (by simpa using h) hc fun j y hj hy=>hn (j+1) y (by omega) (by simpa using hy)
theorem Qv{s:A4}(hd:C4 s){q:List Int}(h:o9 s q)(k:Int){i:Nat}(hi:0<i)(oS:i<s.cols.length){v:Int}(hv:q[i]?=some v){lev:Int}(h0:0≤lev)(h1:lev≤B9 s i):
  U2 s i lev ((K7 s).zip (k::q.tail).tail)=(I0 s i lev v,true):=by
 obtain⟨j,rfl⟩:∃j,i=j+1:=⟨i-1,by omega⟩
 obtain⟨w,c,hw,hc,wB⟩:=h.get oS
 rw[hv]at hw
 cases hw
 obtain⟨n,hn,_,uq⟩:=hd.chain (i:=j+1) (by omega) hc
 obtain⟨h2,_,h3⟩:=uq v wB
 obtain⟨m,rfl⟩:=Int.eq_ofNat_of_zero_le h0
 have h4:=h3 n m (by omega) (Nat.le_refl _)
 unfold YF at h4
 rw[if_pos hd.ok,h2]at h4
 rw[XH (KD oS hv) (by dsimp only;omega) fun a y ha hy=>?_]
 ·dsimp only
  rw[show ((j:Int)+1)=((j+1:Nat):Int) by omega,hn]
  exact h4
 ·obtain⟨u,_,hu,_⟩:=h.get (i:=a+1) (by omega)
  rw[KD (by omega) hu]at hy
  cases hy
  dsimp only
  omega
def J5(s:A4):List Pk→List (List Int)
 |[]=>[[]]
 |d::r=>(j6 s d).flatMap fun c=>(J5 s r).map fun l=>c::l
def OP(own:List Int)(R:List (List Int)):List (List Int):=own.flatMap fun c=>R.map fun l=>c::l
theorem EI(R:List (List Int)):∀own:List Int,(OP own R).length=own.length*R.length
 |[]=>by simp[OP]
 |a::r=>by
  have:=EI R r
  unfold OP at this ⊢
  rw[List.flatMap_cons,List.length_append,this,List.length_map,List.length_cons,Nat.succ_mul,Nat.add_comm]
theorem Ma{s:A4}:∀{ds:List Pk} {l:List Int},l∈J5 s ds→l.length=ds.length
 |[],l,h=>by simp[J5]at h;subst h;rfl
 |d::r,l,h=>by
  unfold J5 at h
  rw[List.mem_flatMap]at h
  obtain⟨c,_,h2⟩:=h
  rw[List.mem_map]at h2
  obtain⟨m,h3,rfl⟩:=h2
  simp[Ma h3]
structure b9 where
 key:Int
 val:Int
 codes:List Int
def DM(c:F3)(l:b9):F3:=if N1 l.codes c.codes=true then M2 l.key l.val true c else c
def L1(codes:List Int)(ls:List b9):F3:=ls.foldl DM (v6 codes)
structure Gh(c:F3):Prop where
 lo:0≤c.snd
 le:c.snd≤c.fst
theorem Gh.add{c:F3}(h:Gh c)(key v:Int)(b:Bool):Gh (M2 key v b c):=by
 obtain⟨h1,h2⟩:=h
 generalize hm:max v (-v)=a
 have:0≤a:=by omega
 unfold M2
 rw[hm]
 split
 ·exact⟨h1,h2⟩
 ·split
  ·exact⟨by dsimp only;omega,by dsimp only;omega⟩
  ·split
   ·exact⟨by dsimp only;omega,by dsimp only;omega⟩
   ·exact⟨h1,h2⟩
theorem IJ(key v:Int)(b:Bool)(c:F3):(M2 key v b c).codes=c.codes:=by
 unfold M2
 split
 ·rfl
 ·split
  ·rfl
  ·split<;>rfl
theorem ZT{codes:List Int}{ls:List b9}{k:Nat}{l:b9}(h:ls[k]?=some l):L1 codes (ls.take (k+1))=DM (L1 codes (ls.take k)) l:=by
 unfold L1
 rw[I3 h,List.foldl_append]
 rfl
theorem Ul{codes:List Int}{ls:List b9}(hv:∀l∈ls,-1099511627776≤l.val∧l.val≤1099511627776):∀k:Nat,k≤ls.length→EU codes.length k (L1 codes (ls.take k))∧Gh (L1 codes (ls.take k))∧(L1 codes (ls.take k)).codes=codes
 |0,_=>⟨⟨rfl,by simp[L1,v6],by simp[L1,v6],by simp[L1,v6],by simp[L1,v6]⟩,⟨by simp[L1,v6],by simp[L1,v6]⟩,rfl⟩
 |k+1,hk=>by
  obtain⟨l,hl⟩:∃l,ls[k]?=some l:=⟨_,List.getElem?_eq_getElem (by omega)⟩
  obtain⟨h1,h2,h3⟩:=Ul (codes:=codes) hv k (by omega)
  rw[ZT hl]
  unfold DM
  split
  ·exact⟨h1.add (hv l (List.mem_of_getElem? hl)) true,h2.add _ _ _,by rw[IJ];exact h3⟩
  ·exact⟨h1.more,h2,h3⟩
theorem HB{key v:Int}{c:F3}(h:c.fst<max v (-v)):M2 key v true c={ c with cnt:=c.cnt+1,rows:=c.rows++[key],sum:=c.sum+v,amo:=c.amo+max v (-v),fst:=max v (-v),snd:=c.fst }:=by
 unfold M2;rw[if_neg (by decide),if_pos h]
theorem HC{key v:Int}{c:F3}(h:¬c.fst<max v (-v))(ho:c.snd≤c.fst):M2 key v true c={ c with cnt:=c.cnt+1,rows:=c.rows++[key],sum:=c.sum+v,amo:=c.amo+max v (-v),snd:=max c.snd (max v (-v)) }:=by
 unfold M2;rw[if_neg (by decide),if_neg h]
 split
 ·rw[show max c.snd (max v (-v))=max v (-v) by omega]
 ·rw[show max c.snd (max v (-v))=c.snd by omega]
end Go.Proofs.YtjkbhaaobhgkdabGreatDoor
