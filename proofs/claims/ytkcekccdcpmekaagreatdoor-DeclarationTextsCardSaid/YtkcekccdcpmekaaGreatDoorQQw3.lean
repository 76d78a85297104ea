/- Chapter 16: which statement a line is, and which program a text is. -/
import Derived.Test.YtkcekccdcpmekaaGreatDoorQXl
import Derived.Test.YtkcekccdcpmekaaGreatDoorQQr0
set_option linter.unusedVariables false
set_option linter.unnecessarySimpa false
set_option linter.unusedSimpArgs false
set_option maxHeartbeats 64000000
namespace Go.Proofs.YtkcekccdcpmekaaGreatDoor
open Go Go.Av
attribute [local irreducible] E8 B5 E5 E1 DQ E7 E9 St.le A4 A9
set_option maxRecDepth 100000
theorem SK{c:UInt8}:∀{n u:List UInt8},n.all (B3 c)=true→(n++c::u).takeWhile (B3 c)=n∧(n++c::u).dropWhile (B3 c)=c::u
 |[],u,_=>by
  have e:B3 c c=false:=by unfold B3;simp
  rw[List.nil_append,List.takeWhile_cons,List.dropWhile_cons,e]
  exact⟨rfl,rfl⟩
 |a::r,u,h=>by
  rw[List.all_cons,Bool.and_eq_true]at h
  obtain⟨h1,h2⟩:=SK (u:=u) h.2
  rw[List.cons_append,List.takeWhile_cons,List.dropWhile_cons,h.1,h1,h2]
  exact⟨rfl,rfl⟩
theorem Ua{c:UInt8}:∀{n:List UInt8},n.all (B3 c)=true→n.takeWhile (B3 c)=n∧n.dropWhile (B3 c)=[]
 |[],_=>⟨rfl,rfl⟩
 |a::r,h=>by
  rw[List.all_cons,Bool.and_eq_true]at h
  obtain⟨h1,h2⟩:=Ua h.2
  rw[List.takeWhile_cons,List.dropWhile_cons,h.1,h1,h2]
  exact⟨rfl,rfl⟩
theorem KK{c:UInt8}:∀{t:List UInt8},t.dropWhile (B3 c)≠[]→t.dropWhile (B3 c)=c::(t.dropWhile (B3 c)).drop 1
 |[],h=>absurd rfl h
 |a::r,h=>by
  rw[List.dropWhile_cons]at h ⊢
  by_cases ha:B3 c a=true
  ·rw[if_pos ha]at h ⊢
   exact KK h
  ·rw[if_neg ha]
   unfold B3 at ha
   have:a=c:=by simpa using ha
   rw[this];rfl
theorem My(c:UInt8)(t:List UInt8):(t.takeWhile (B3 c)).all (B3 c)=true:=by
 induction t with
 |nil=>rfl
 |cons a r ih =>
  rw[List.takeWhile_cons]
  by_cases h:B3 c a=true
  ·rw[if_pos h,List.all_cons,h,ih];rfl
  ·rw[if_neg h];rfl
theorem Fo(c:UInt8)(t:List UInt8):t.takeWhile (B3 c)++t.dropWhile (B3 c)=t:=List.takeWhile_append_dropWhile
structure StmR(s:A5)(x:jk):Prop where
 ne:x.name≠[]
 sp:x.name.all (B3 32)=true
 rig:jz s x.x=true
theorem Br(kp:List UInt8):∀{a b:List (List UInt8)},a≠[]→b≠[]→I8 kp (a++b)=I8 kp a++kp++I8 kp b
 |[],_,h,_=>absurd rfl h
 |[x],b,_,hb=>k8 kp x hb
 |x::y::r,b,_,hb=>by
  rw[List.cons_append,k8 kp x (by simp),Br kp (by simp) hb,k8 kp x (by simp)]
  simp only[List.append_assoc]
theorem AF{c:UInt8}{t:List UInt8}{ps:List (List UInt8)}(hne:ps≠[])(h:∀p∈ps,p.all (B3 c)=true)(e:t=I8 [c] ps):D3 [c] t=ps:=by
 subst e
 exact eS hne h
theorem s7(c:UInt8)(t:List UInt8):D3 [c] t≠[]∧(∀p∈D3 [c] t,p.all (B3 c)=true)∧t=I8 [c] (D3 [c] t) :=
 ⟨Np [c] _ t,UX _ t (Nat.le_refl _),(Hz _ t).symm⟩
theorem Cm(c:UInt8)(a b:List UInt8):D3 [c] (a++[c]++b)=D3 [c] a++D3 [c] b:=by
 obtain⟨a1,a2,a3⟩:=s7 c a
 obtain⟨b1,b2,b3⟩:=s7 c b
 refine AF (by simp[a1]) (fun p hp=>?_) ?_
 ·rcases List.mem_append.1 hp with h|h
  ·exact a2 p h
  ·exact b2 p h
 ·rw[Br _ a1 b1,←a3,←b3]
def P0(t:List UInt8):Prop:=∀w∈D3 [32] t,w≠l7
theorem Fp{a b:List UInt8}(ha:P0 a)(hb:P0 b):P0 (a++[32]++b):=fun w hw=>by
 rw[Cm]at hw
 rcases List.mem_append.1 hw with h|h
 ·exact ha w h
 ·exact hb w h
theorem X8{w:List UInt8}(hn:w.all (B3 32)=true)(hw:w≠l7):P0 w:=fun x hx=>by
 rw[show D3 [32] w=[w]from AF (by simp) (fun p hp=>by rw[List.mem_singleton.1 hp];exact hn) rfl]at hx
 rw[List.mem_singleton.1 hx];exact hw
theorem SL{a:List UInt8}(x:UInt8)(hx:x≠32)(oH:x≠119)(ha:P0 a):P0 (x::a):=fun w hw=>by
 obtain⟨a1,a2,a3⟩:=s7 32 a
 unfold P0 at ha
 generalize D3 [32] a=ps at *
 match ps,a1 with
 |p::r,_ =>
  have e:x::a=I8 [32] ((x::p)::r):=by
   rw[a3]
   cases r with
   |nil=>rfl
   |cons y l=>rfl
  rw[AF (ps:=(x::p)::r) (by simp) (fun q hq=>by
   rcases List.mem_cons.1 hq with rfl|h
   ·rw[List.all_cons,a2 p (by simp)]
    unfold B3
    rw[decide_eq_false hx];rfl
   ·exact a2 q (by simp[h])) e]at hw
  rcases List.mem_cons.1 hw with rfl|h
  ·intro e2
   exact oH (List.cons.inj e2).1
  ·exact ha w (by simp[h])
theorem bL{a:List UInt8}(y:UInt8)(hy:y≠32)(vV:y≠101)(ha:P0 a):P0 (a++[y]):=fun w hw=>by
 obtain⟨a1,a2,a3⟩:=s7 32 a
 unfold P0 at ha
 generalize D3 [32] a=ps at *
 rcases List.eq_nil_or_concat ps with h|⟨l,p,h⟩
 ·exact absurd h a1
 ·rw[List.concat_eq_append]at h
  subst h
  have key:a++[y]=I8 [32] (l++[p++[y]]):=by
   rw[a3]
   cases l with
   |nil=>rfl
   |cons x r=>rw[Br _ (by simp) (by simp),Br _ (by simp) (by simp),List.append_assoc];rfl
  rw[AF (ps:=l++[p++[y]]) (by simp) (fun q hq=>by
   rcases List.mem_append.1 hq with h|h
   ·exact a2 q (by simp[h])
   ·rw[List.mem_singleton.1 h,List.all_append,a2 p (by simp)]
    unfold B3
    rw[List.all_cons,decide_eq_false hy];rfl) key]at hw
  rcases List.mem_append.1 hw with h|h
  ·exact ha w (by simp[h])
  ·rw[List.mem_singleton.1 h]
   intro e2
   have h3:(p++[y]).getLast?=some 101:=by rw[e2];rfl
   rw[List.getLast?_append]at h3
   simp at h3
   exact vV h3
theorem SM{t:List UInt8}(h:P0 t)(x y:List UInt8):[32]++t≠x++D6++y:=fun e=>by
 have hW:D3 [32] l7=[l7]:=AF (by simp) (fun p hp=>by rw[List.mem_singleton.1 hp];rfl) rfl
 cases x with
 |nil =>
  have e2:t=l7++[32]++y:=by simpa using e
  refine h l7 ?_ rfl
  rw[e2,Cm,hW];simp
 |cons b x =>
  have e2:t=x++[32]++(l7++[32]++y):=by
   have:=(List.cons.inj (show 32::t=b::(x++D6++y)from by simpa using e)).2
   rw[this];simp
  refine h l7 ?_ rfl
  rw[e2,Cm,Cm,hW];simp
theorem Ub{l:List UInt8}(h:l.all L1=true):l.all (B3 32)=true:=by
 rw[List.all_eq_true]at h ⊢
 intro b hb
 have:=of_decide_eq_true (h b hb)
 unfold B3
 by_cases e:b=32
 ·subst e;revert this;decide
 ·rw[decide_eq_false e];rfl
theorem Oz{n:List UInt8}(h:D8 n=true):P0 n:=by
 obtain⟨h1,h2,_⟩:=EZ h
 exact X8 (Ub h1) fun e=>h2 (by rw[e];decide)
theorem Gc:P0 []:=X8 (by rfl) (by decide)
theorem SN{s:A5}(hr:C8 s=0)(k:Int):P0 (S9 s k):=by
 unfold S9 C7
 rw[List.getD_eq_getElem?_getD]
 cases hx:s.cols[k.toNat]? with
 |none=>exact Gc
 |some x=>exact Oz (Ap hr hx).1
theorem bM{s:A5}(hr:C8 s=0)(i k:Int):P0 (BW s i k):=by
 unfold BW E2
 rw[List.getD_eq_getElem?_getD,List.getD_eq_getElem?_getD]
 cases hl:s.lists[(C7 s i).lst.toNat]? with
 |none=>exact Gc
 |some l =>
  rw[Option.getD_some]
  cases hx:l.2[k.toNat]? with
  |none=>exact Gc
  |some x=>exact Oz (LO hr (List.mem_of_getElem? hl) hx)
theorem PA(n:Int):P0 (Lib.itoa n):=by
 have key:∀u,(Lib.decDigits u).all (B3 32)=true∧Lib.decDigits u≠l7:=fun u=>by
  obtain⟨_,d2,_⟩:=AO u
  refine⟨Ub (by rw[List.all_eq_true]at d2 ⊢;exact fun c hc=>Gy (d2 c hc)),fun e=>?_⟩
  rw[e]at d2
  revert d2;decide
 unfold Lib.itoa
 split
 ·exact SL 45 (by decide) (by decide) (X8 (key _).1 (key _).2)
 ·exact X8 (key _).1 (key _).2
theorem PB{s:A5}(hr:C8 s=0)(x:A1):P0 (C6 s x):=by
 refine T8 (p:=fun x=>P0 (C6 s x)) (fun x ih=>?_) x
 have hc:P0 ([]:List UInt8):=X8 (by rfl) (by decide)
 have kid:∀i:Nat,P0 ((x.kids.map (C6 s)).getD i []):=fun i=>by
  rw[List.getD_eq_getElem?_getD,List.getElem?_map]
  cases hk:x.kids[i]? with
  |none=>exact hc
  |some k=>exact ih k (List.mem_of_getElem? hk)
 have uI:∀(w:List UInt8),w.all (B3 32)=true→w≠l7→∀{a b:List UInt8},P0 a→P0 b→P0 (a++(32::(w++[32]))++b):=fun w h1 h2 a b ha hb=>by
  have:=Fp (Fp ha (X8 h1 h2)) hb
  simpa only[List.append_assoc,List.cons_append,List.nil_append]using this
 have lz:=SN hr x.col
 have uz:=bM hr x.col x.code
 have two:∀(w:List UInt8),w.all (B3 32)=true→w≠l7→P0 ([40]++(x.kids.map (C6 s)).getD 0 []++(32::(w++[32]))++(x.kids.map (C6 s)).getD 1 []++[41]):=fun w h1 h2=>by
  have:=uI w h1 h2 (SL 40 (by decide) (by decide) (kid 0)) (bL 41 (by decide) (by decide) (kid 1))
  simpa only[List.append_assoc,List.cons_append,List.nil_append]using this
 rw[HC]
 split
 ·exact uI [117,110,100,101,114] (by decide) (by decide) lz uz
 split
 ·exact uI [116,111] (by decide) (by decide) (uI [102,114,111,109] (by decide) (by decide) lz (PA _)) (PA _)
 split
 ·have:=Fp lz (X8 (w:=[109,105,115,115,105,110,103]) (by decide) (by decide))
  simpa only[List.append_assoc,List.cons_append,List.nil_append]using this
 split
 ·exact two [97,110,100] (by decide) (by decide)
 split
 ·exact two [111,114] (by decide) (by decide)
 split
 ·have:=Fp (X8 (w:=[110,111,116]) (by decide) (by decide)) (kid 0)
  simpa only[List.append_assoc,List.cons_append,List.nil_append]using this
 ·exact X8 (by decide) (by decide)
theorem KL{s sub:List UInt8}{i:Nat}(h:Lib.occAt s sub i=true):s.drop i=sub++s.drop (i+sub.length):=by
 have:=LW h
 rw[List.drop_drop]at this
 exact this
theorem WR{x y:List UInt8}(h:P0 y):Lib.lastIndex (x++D6++y) D6=x.length:=by
 unfold Lib.lastIndex
 have hl:(x++D6++y).length=x.length+7+y.length:=by simp only[List.length_append,List.length_cons,List.length_nil]
 have h7:D6.length=7:=rfl
 rw[if_pos (by omega),hl,h7]
 have hx:Lib.occAt (x++D6++y) D6 x.length=true:=by
  unfold Lib.occAt
  rw[List.append_assoc,List.drop_left,List.isPrefixOf_iff_prefix]
  exact List.prefix_append _ _
 rcases Lib.lastOcc_spec (x++D6++y) D6 (x.length+7+y.length-7+1)with ⟨_,h2⟩|⟨i,h1,h2,h3,h4⟩
 ·rw[h2 x.length (by omega)]at hx;cases hx
 ·have mw:x.length≤i:=by
   refine Decidable.of_not_not fun hn=>?_
   rw[h4 x.length (by omega) (by omega)]at hx;cases hx
  rw[h2]
  refine Decidable.of_not_not fun hne=>?_
  obtain⟨j,hj⟩:∃j,i=x.length+(j+1):=⟨i-x.length-1,by omega⟩
  have h5:=KL h3
  rw[hj,List.append_assoc,←List.drop_drop,List.drop_left]at h5
  generalize List.drop _ (x++(D6++y))=z at h5
  match j,h5 with
  |0,h5=>cases (List.cons.inj h5).1
  |1,h5=>cases (List.cons.inj h5).1
  |2,h5=>cases (List.cons.inj h5).1
  |3,h5=>cases (List.cons.inj h5).1
  |4,h5=>cases (List.cons.inj h5).1
  |5,h5=>exact SM h [] z h5
  |j+6,h5 =>
   have e:(D6++y).drop (j+6+1)=y.drop j:=by
    show ([32,119,104,101,114,101,32]++y).drop (j+7)=y.drop j
    rw[Nat.add_comm,←List.drop_drop];rfl
   rw[e]at h5
   refine SM h ([32]++y.take j) z ?_
   rw[List.append_assoc,List.append_assoc,←h5,List.take_append_drop]
theorem bN{t:List UInt8}(h:0≤Lib.lastIndex t D6):t=t.take (Lib.lastIndex t D6).toNat++D6++t.drop ((Lib.lastIndex t D6).toNat+7):=by
 unfold Lib.lastIndex at h ⊢
 split at h
 ·rename_i hl
  rw[if_pos hl]
  rcases Lib.lastOcc_spec t D6 (t.length-D6.length+1)with ⟨h1,_⟩|⟨i,h1,h2,h3,_⟩
  ·rw[h1]at h;cases h
  ·have h5:=KL h3
   have h7:D6.length=7:=rfl
   rw[h7]at h5
   rw[h2,Int.toNat_natCast,List.append_assoc,←h5,List.take_append_drop]
 ·cases h
theorem Mz(kp:List UInt8):∀(a:List UInt8) (l:List (List UInt8)),I8 kp (a::l)=a++l.flatMap (fun w=>kp++w)
 |a,[]=>by simp[I8]
 |a,b::r=>by rw[I8,Mz kp b r,List.flatMap_cons];simp only[List.append_assoc]
theorem bO(c:UInt8)(t:List UInt8):BQ [c] t=if t.dropWhile (B3 c)=[]then none else some (t.takeWhile (B3 c),(t.dropWhile (B3 c)).drop 1):=by
 by_cases h:t.dropWhile (B3 c)=[]
 ·rw[if_pos h]
  have e:=Fo c t
  rw[h,List.append_nil]at e
  refine Nq ?_
  rw[←e];exact My c t
 ·rw[if_neg h]
  have e:=Fo c t
  rw[KK h]at e
  have:=IA (a:=c) (w:=[]) (y:=(t.dropWhile (B3 c)).drop 1) (My c t)
  rw[show t.takeWhile (B3 c)++([c]++(t.dropWhile (B3 c)).drop 1)=t from e]at this
  exact this
theorem SO(c:UInt8)(n:Nat)(t:List UInt8):(M0 [c] (n+1) t).getD 0 []=t.takeWhile (B3 c):=by
 rw[M0,bO]
 by_cases h:t.dropWhile (B3 c)=[]
 ·rw[if_pos h]
  have e:=Fo c t
  rw[h,List.append_nil]at e
  exact e.symm
 ·rw[if_neg h];rfl
theorem PC(c:UInt8)(t:List UInt8):(D3 [c] t).getD 0 []=t.takeWhile (B3 c):=by
 unfold D3
 cases t with
 |nil=>rfl
 |cons a r=>exact SO c r.length (a::r)
theorem Uc{c:UInt8}:∀(ps:List (List UInt8)) (e:List UInt8),(∀p∈ps,p.all (B3 c)=true)→M0 [c] ps.length (I8 [c] (ps++[e]))=ps++[e]
 |[],e,_=>rfl
 |p::r,e,h=>by
  rw[List.cons_append,k8 _ _ (by simp),List.append_assoc,List.length_cons,M0,IA (h p (by simp))]
  dsimp only
  rw[Uc r e fun x hx=>h x (by simp[hx])]
theorem SP{z:List UInt8}(h:(L3 z).2=true):z=Lib.itoa (L3 z).1∧L3 z=((L3 z).1,true):=by
 refine⟨?_,Prod.ext rfl h⟩
 unfold L3 at h ⊢
 cases ha:Lib.atoiAll z with
 |ok n=>rw[ha]at h;exact(of_decide_eq_true h).2.2.symm
 |range=>rw[ha]at h;cases h
 |_=>rw[ha]at h;cases h
def CS(s:A5)(c:Int):Prop:=0≤c∧c<s.cols.length
def NA(s:A5)(d:Pk):Prop:=CS s d.col∧L3 (Lib.itoa d.lev)=(d.lev,true)
theorem HF{s:A5}(hr:C8 s=0){c:Int}(h:CS s c):F0 s (H6 s c)=c:=by
 obtain⟨nm,h1,_,h3⟩:=iJ hr h.1 h.2
 rw[h1];exact h3
theorem Ud{s:A5}{w:List UInt8}(h:0≤F0 s w):CS s (F0 s w)∧H6 s (F0 s w)=w:=by
 obtain⟨h1,h2⟩:=GI h
 refine⟨⟨h,h2⟩,?_⟩
 unfold H6
 rw[if_neg (by omega)];exact h1
theorem SQ{s:A5}(hr:C8 s=0):∀{l:List Int},(∀c∈l,CS s c)→l8 s (l.map (H6 s))=l∧Bo s (l.map (H6 s))=false
 |[],_=>⟨rfl,rfl⟩
 |c::r,h=>by
  have hc:=h c (by simp)
  have h0:=hc.1
  obtain⟨h1,h2⟩:=SQ hr (l:=r) fun x hx=>h x (by simp[hx])
  rw[List.map_cons]
  refine⟨?_,?_⟩
  ·rw[l8,HF hr hc,if_neg (by omega),h1]
  ·unfold Bo at h2 ⊢
   rw[List.any_cons,HF hr hc,h2,decide_eq_false (by omega)];rfl
theorem SR{s:A5}:∀{l:List (List UInt8)},Bo s l=false→(l8 s l).map (H6 s)=l∧∀c∈l8 s l,CS s c
 |[],_=>⟨rfl,fun _ h=>by cases h⟩
 |w::r,h=>by
  unfold Bo at h
  rw[List.any_cons,Bool.or_eq_false_iff]at h
  have h0:=of_decide_eq_false h.1
  obtain⟨h1,h2⟩:=SR (s:=s) (l:=r) h.2
  obtain⟨f1,f2⟩:=Ud (s:=s) (w:=w) (by omega)
  rw[l8,if_neg h0,List.map_cons,h1,f2]
  refine⟨rfl,fun c hc=>?_⟩
  rcases List.mem_cons.1 hc with rfl|hc
  ·exact f1
  ·exact h2 c hc
theorem PD{s:A5}(hr:C8 s=0){l:List Int}(h:∀c∈l,CS s c)(hl:1≤l.length):G5 s (l.map (H6 s))=(l,true):=by
 obtain⟨h1,h2⟩:=SQ hr h
 unfold G5
 rw[h2,if_neg (by simp),h1,List.length_map,decide_eq_true (by omega)]
theorem PE{s:A5}{l:List (List UInt8)}(h:(G5 s l).2=true):(G5 s l).1.map (H6 s)=l∧(∀c∈(G5 s l).1,CS s c)∧1≤l.length:=by
 unfold G5 at h ⊢
 split at h
 ·cases h
 ·rename_i hb
  rw[if_neg hb]
  obtain⟨h1,h2⟩:=SR (s:=s) (l:=l) (by simpa using hb)
  exact⟨h1,h2,of_decide_eq_true h⟩
theorem bP{s:A5}(hr:C8 s=0)(c:Int):(H6 s c).all (B3 47)=true:=by
 have key:∀l:List UInt8,l.all L1=true→l.all (B3 47)=true:=fun l h=>by
  rw[List.all_eq_true]at h ⊢
  intro b hb
  have:=of_decide_eq_true (h b hb)
  unfold B3
  by_cases e:b=47
  ·subst e;revert this;decide
  ·rw[decide_eq_false e];rfl
 unfold H6
 split
 ·rfl
 ·unfold S9 C7
  rw[List.getD_eq_getElem?_getD]
  cases hx:s.cols[c.toNat]? with
  |none=>rfl
  |some x=>exact key _ (EZ (Ap hr hx).1).1
theorem fD{s:A5}(hr:C8 s=0){d:Pk}(h:NA s d):JY s (P8 s d)=d∧W9 s (P8 s d)=false:=by
 have e:P8 s d=H6 s d.col++47::Lib.itoa d.lev:=by unfold P8;rw[List.append_assoc];rfl
 obtain⟨t1,t2⟩:=SK (u:=Lib.itoa d.lev) (bP hr d.col)
 have h0:=h.1.1
 unfold JY W9
 rw[e,t1,t2,HF hr h.1]
 show (⟨d.col,(L3 (Lib.itoa d.lev)).1⟩:Pk)=d∧(decide (d.col<0) || !(L3 (Lib.itoa d.lev)).2)=false
 rw[h.2,decide_eq_false (by omega)]
 exact⟨rfl,rfl⟩
theorem fE{s:A5}{w:List UInt8}(h:W9 s w=false):P8 s (JY s w)=w∧NA s (JY s w):=by
 unfold W9 at h
 rw[Bool.or_eq_false_iff]at h
 have h0:=of_decide_eq_false h.1
 obtain⟨n1,n2⟩:=SP (z:=(w.dropWhile (B3 47)).drop 1) (by simpa using h.2)
 obtain⟨f1,f2⟩:=Ud (s:=s) (w:=w.takeWhile (B3 47)) (by omega)
 have hd:w.dropWhile (B3 47)≠[]:=fun e=>by
  rw[e]at n2
  exact absurd (congrArg Prod.snd n2) (by decide)
 have hc:=Fo 47 w
 rw[KK hd]at hc
 unfold JY
 refine⟨?_,f1,?_⟩
 ·unfold P8
  dsimp only
  rw[f2,←n1,List.append_assoc]
  exact hc
 ·dsimp only
  rw[←n1];exact n2
theorem Ue{s:A5}(hr:C8 s=0):∀{l:List Pk},(∀d∈l,NA s d)→j4 s (l.map (P8 s))=l∧(l.map (P8 s)).any (W9 s)=false
 |[],_=>⟨rfl,rfl⟩
 |d::r,h=>by
  obtain⟨e1,e2⟩:=fD hr (h d (by simp))
  obtain⟨h1,h2⟩:=Ue hr (l:=r) fun x hx=>h x (by simp[hx])
  rw[List.map_cons]
  refine⟨?_,?_⟩
  ·rw[j4,e2,if_neg (by simp),e1,h1]
  ·rw[List.any_cons,e2,h2];rfl
theorem Uf{s:A5}:∀{l:List (List UInt8)},l.any (W9 s)=false→(j4 s l).map (P8 s)=l∧(∀d∈j4 s l,NA s d)∧(j4 s l).length=l.length
 |[],_=>⟨rfl,(fun _ h=>by cases h),rfl⟩
 |w::r,h=>by
  rw[List.any_cons,Bool.or_eq_false_iff]at h
  obtain⟨h1,h2,h3⟩:=Uf (s:=s) (l:=r) h.2
  obtain⟨f1,f2⟩:=fE h.1
  rw[j4,if_neg (by rw[h.1];simp),List.map_cons,h1,f1,List.length_cons,h3]
  refine⟨rfl,fun c hc=>?_,rfl⟩
  rcases List.mem_cons.1 hc with rfl|hc
  ·exact f2
  ·exact h2 c hc
structure ik(s:A5)(q:E3):Prop where
 name:O4 q.name=true
 no32:q.name.all (B3 32)=true
 flt:G6 s q.flt=0
 kind:q.kind=1∧(1≤q.dims.length∧q.dims.length≤3∧∀d∈q.dims,NA s d)∧(q.mea=-1∨CS s q.mea)∧q.trms=[]∧q.evt=zX
  ∨ q.kind=2∧CS s q.mea∧(1≤q.trms.length∧q.trms.length≤3∧∀c∈q.trms,CS s c)∧q.dims=[]∧q.evt=zX
  ∨ q.kind=3∧CS s q.mea∧G6 s q.evt=0∧q.dims=[]∧q.trms=[]
def cm(q:E3):List UInt8:=if q.kind=1 then AP else if q.kind=2 then W8 else X7
def AX(s:A5)(q:E3):List (List UInt8) :=
 if q.kind=1 then [q.name,AW]++q.dims.map (P8 s)++(if 0≤q.mea then [W7,H6 s q.mea]else [])
 else if q.kind=2 then [q.name,N8,H6 s q.mea,DS]++q.trms.map (H6 s)
 else [q.name,N8,H6 s q.mea,X6]++[C6 s q.evt]
theorem NB(s:A5)(q:E3):GK s q=cm q++[32]++I8 [32] (AX s q):=by
 have e1:Y3 s=fun d=>[32]++P8 s d:=by
  funext d;unfold Y3 P8;simp only[List.append_assoc]
 have e2:n8 s=fun c=>[32]++H6 s c:=by
  funext c;unfold n8;rfl
 unfold GK cm AX
 rw[e1,e2]
 split
 ·split<;>simp[Mz,List.flatMap_map]
 split
 ·simp[Mz,List.flatMap_map]
 ·simp[Mz]
structure Wds(s:A5)(q:E3)(t:List UInt8):Prop where
 w:t.takeWhile (B3 32)=cm q
 r:I0 t=I8 [32] (AX s q)++D6++C6 s q.flt
 i:H7 t=(I8 [32] (AX s q)).length
 a:F3 t=I8 [32] (AX s q)
 f:W4 s t=K5 s (C6 s q.flt)
theorem SS{s:A5}(hr:C8 s=0)(d:Pk):(P8 s d).all (B3 32)=true:=by
 have h1:∀c,(H6 s c).all (B3 32)=true:=fun c=>by
  unfold H6
  split
  ·rfl
  ·unfold S9 C7
   rw[List.getD_eq_getElem?_getD]
   cases hx:s.cols[c.toNat]? with
   |none=>rfl
   |some x=>exact Ub (EZ (Ap hr hx).1).1
 have h2:∀n,(Lib.itoa n).all (B3 32)=true:=fun n=>by
  unfold Lib.itoa
  split
  ·obtain⟨_,d2,_⟩:=AO n.natAbs
   rw[List.all_cons,Ub (by rw[List.all_eq_true]at d2 ⊢;exact fun c hc=>Gy (d2 c hc))]
   rfl
  ·obtain⟨_,d2,_⟩:=AO n.toNat
   exact Ub (by rw[List.all_eq_true]at d2 ⊢;exact fun c hc=>Gy (d2 c hc))
 unfold P8
 rw[List.all_append,List.all_append,h1,h2];rfl
theorem KM{s:A5}(hr:C8 s=0)(c:Int):(H6 s c).all (B3 32)=true:=by
 unfold H6
 split
 ·rfl
 ·unfold S9 C7
  rw[List.getD_eq_getElem?_getD]
  cases hx:s.cols[c.toNat]? with
  |none=>rfl
  |some x=>exact Ub (EZ (Ap hr hx).1).1
theorem bQ(s:A5):W9 s W7=true:=by
 unfold W9
 rw[show (W7.dropWhile (B3 47)).drop 1=[]from rfl,show (L3 []).2=false from rfl]
 simp
theorem bR{s:A5}(hr:C8 s=0){nm:List UInt8}{ds:List Pk}{m:Int}(f:A1)(h1:1≤ds.length∧ds.length≤3∧∀d∈ds,NA s d)(h2:m=-1∨CS s m):
  Ax s ([nm,AW]++ds.map (P8 s)++(if 0≤m then [W7,H6 s m]else [])) ⟨nm,0,f,[],0,[],zX⟩=(⟨nm,1,f,ds,m,[],zX⟩,true):=by
 obtain⟨e1,e2⟩:=Ue hr h1.2.2
 have hE:∀m':Int,Fj s ⟨nm,0,f,[],0,[],zX⟩ m' (ds.map (P8 s))=(⟨nm,1,f,ds,m',[],zX⟩,true):=fun m'=>by
  unfold Fj
  rw[e1,e2,List.length_map,decide_eq_true ⟨h1.1,h1.2.1⟩];rfl
 unfold Ax
 rcases h2 with h2|h2
 ·subst h2
  rw[if_neg (show ¬(0:Int)≤-1 by decide),List.append_nil]
  have hd:([nm,AW]++ds.map (P8 s)).drop 2=ds.map (P8 s):=rfl
  rw[if_neg,hd,if_neg,hE]
  ·rintro ⟨g1,g2⟩
   have hm:B1 (ds.map (P8 s)) ((ds.map (P8 s)).length-2)∈ds.map (P8 s):=by
    unfold B1
    rw[List.getD_eq_getElem?_getD,List.getElem?_eq_getElem (by omega),Option.getD_some]
    exact List.getElem_mem _
   rw[g2]at hm
   rw[List.any_eq_false]at e2
   exact e2 _ hm (bQ s)
  ·rintro (g|g)
   ·rw[List.length_append,List.length_map]at g
    have:([nm,AW]:List (List UInt8)).length=2:=rfl
    omega
   ·exact g rfl
 ·have h0:=h2.1
  rw[if_pos h0]
  have hd:([nm,AW]++ds.map (P8 s)++[W7,H6 s m]).drop 2=ds.map (P8 s)++[W7,H6 s m]:=rfl
  have hl:(ds.map (P8 s)++[W7,H6 s m]).length=ds.length+2:=by rw[List.length_append,List.length_map];rfl
  have hc:=PD hr (l:=[m]) (fun c hc=>by rw[List.mem_singleton.1 hc];exact h2) (by simp)
  rw[List.map_singleton]at hc
  have qi:(ds.map (P8 s)++[W7,H6 s m]).drop (ds.length+1)=[H6 s m]:=by
   rw[List.drop_append,List.length_map,List.drop_eq_nil_of_le (by rw[List.length_map];omega),show ds.length+1-ds.length=1 by omega];rfl
  have qx:(ds.map (P8 s)++[W7,H6 s m]).take ds.length=ds.map (P8 s):=by
   rw[List.take_append,List.length_map,Nat.sub_self,List.take_zero,List.append_nil,List.take_of_length_le (by rw[List.length_map];omega)]
  have hw:B1 (ds.map (P8 s)++[W7,H6 s m]) ds.length=W7:=by
   unfold B1
   rw[List.getD_eq_getElem?_getD,List.getElem?_append_right (by rw[List.length_map];omega),List.length_map,Nat.sub_self];rfl
  rw[if_neg,hd,hl,show ds.length+2-2=ds.length by omega,show ds.length+2-1=ds.length+1 by omega,if_pos ⟨by omega,hw⟩,qi,qx,hc,if_neg (by simp)]
  ·exact hE m
  ·rintro (g|g)
   ·rw[List.length_append,List.length_append,List.length_map]at g
    have:([nm,AW]:List (List UInt8)).length=2:=rfl
    omega
   ·exact g rfl
end Go.Proofs.YtkcekccdcpmekaaGreatDoor
