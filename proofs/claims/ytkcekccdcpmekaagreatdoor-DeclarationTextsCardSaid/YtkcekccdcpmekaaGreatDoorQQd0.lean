/- Chapter 17: drawn expressions are right; less than what is needed does not do. -/
import Derived.Test.YtkcekccdcpmekaaGreatDoorQF6
import Derived.Test.YtkcekccdcpmekaaGreatDoorQCm1
set_option linter.unusedVariables false
set_option linter.unnecessarySimpa false
set_option linter.unusedSimpArgs false
set_option maxHeartbeats 64000000
namespace Go.Proofs.YtkcekccdcpmekaaGreatDoor
open Go Go.Av
attribute [local irreducible] E8 B5 E5 E1 DQ E7 E9 St.le A4 A9
set_option maxRecDepth 100000
theorem Nr:∀(l:List Nat) (lo hi:Nat),List.Pairwise (fun a b:Nat=>a<b) l→(∀x∈l,lo≤x∧x<hi)→lo≤hi→l.length≤hi-lo
 |[],_,_,_,_,_=>Nat.zero_le _
 |x::r,lo,hi,hp,hm,_=>by
  obtain⟨h1,h2⟩:=hm x (by simp)
  have:=Nr r (x+1) hi (List.pairwise_cons.1 hp).2 (fun y hy=>⟨(List.pairwise_cons.1 hp).1 y hy,(hm y (by simp[hy])).2⟩) h2
  rw[List.length_cons];omega
theorem Ed(s:A5)(kind:Int)(k:Nat):List.Pairwise (fun a b:Nat=>a<b) (H9 s kind k):=List.Pairwise.filter _ List.pairwise_lt_range
theorem F7.cnt{s:A5}(hd:F7 s):(H9 s 2 s.cols.length).length≤3∧(H9 s 3 s.cols.length).length≤3:=by
 obtain⟨b,ms,h1,h2,h3,h4⟩:=hd.cs
 have hb:(Q7 b).length≤3:=by cases b<;>decide
 have hl:s.cols.length=(Q7 b).length+ms.length:=by rw[h1,List.length_append]
 have key:∀i,i<s.cols.length→(i<(Q7 b).length∧(C7 s i).kind≠3)∨((Q7 b).length≤i∧(C7 s i).kind=3):=by
  intro i hi
  have hg:s.cols[i]?=some (s.cols[i]'hi):=List.getElem?_eq_getElem hi
  rw[show C7 s (i:Int)=s.cols[i]'hi from D4 (by simpa using hg)]
  generalize s.cols[i]'hi=c at *
  rw[h1,List.getElem?_append]at hg
  split at hg
  ·rename_i h5
   refine .inl ⟨h5,?_⟩
   have hm:=List.mem_of_getElem? hg
   cases b
   ·have hm:c∈[Nd,GX]:=hm
    simp only[List.mem_cons,List.not_mem_nil,or_false]at hm
    rcases hm with rfl|rfl<;>decide
   ·have hm:c∈[Nd,GX,Nf]:=hm
    simp only[List.mem_cons,List.not_mem_nil,or_false]at hm
    rcases hm with rfl|rfl|rfl<;>decide
  ·rename_i h5
   exact .inr ⟨by omega,(h4 _ c hg).kind⟩
 constructor
 ·have:=Nr (H9 s 2 s.cols.length) 0 (Q7 b).length (Ed s 2 _) (fun x hx=>by
   obtain⟨p1,p2⟩:=AC.1 hx
   rcases key x p1 with h|h
   ·exact⟨Nat.zero_le _,h.1⟩
   ·rw[p2]at h;exact absurd h.2 (by decide)) (by omega)
  omega
 ·have:=Nr (H9 s 3 s.cols.length) (Q7 b).length s.cols.length (Ed s 3 _) (fun x hx=>by
   obtain⟨p1,p2⟩:=AC.1 hx
   rcases key x p1 with h|h
   ·exact absurd p2 h.2
   ·exact⟨h.1,p1⟩) (by omega)
  omega
theorem iN(l:List UInt8)(a:Nat){s:A5}(hd:F7 s){c:Nat}(h:c∈H9 s 2 s.cols.length):Gv s ⟨c,(B8 l a (J2 s c+1)).1⟩=0:=by
 obtain⟨h1,h2⟩:=AC.1 h
 have hf:=Rv hd h
 have kj:=I7 l a (n:=J2 s c+1) (by omega)
 have hc:1≤(c:Int):=by
  rcases Nat.eq_zero_or_pos c with hz|hz
  ·exfalso
   subst hz
   have hc:s.cols[0]?=some (s.cols[0]'h1):=List.getElem?_eq_getElem h1
   rw[show C7 s ((0:Nat):Int)=s.cols[0]'h1 from D4 (by simpa using hc)]at h2
   rcases hd.col hc with ⟨_,e⟩|⟨h,_⟩|⟨h,_⟩
   ·rw[e]at h2;cases h2
   ·omega
   ·omega
  ·omega
 exact eW hd hc (by dsimp only;omega) (by dsimp only;omega) (by dsimp only;omega)
structure Rx(s:A5)(x:List Pk):Prop where
 ok:∀q∈x,Gv s q=0∧(C7 s q.col).kind=2
 asc:List.Pairwise (fun p q:Pk=>p.col<q.col) x
theorem Ns(l:List UInt8){s:A5}(hd:F7 s):∀(cs:List Nat) (x:List Pk×Nat),(∀c∈cs,c∈H9 s 2 s.cols.length)→List.Pairwise (fun a b:Nat=>a<b) cs→Rx s x.1→(∀q∈x.1,∀c∈cs,q.col<(c:Int))→Rx s (DV l s cs x).1∧(DV l s cs x).1.length=x.1.length+cs.length
 |[],x,_,_,h,_=>⟨h,rfl⟩
 |c::r,x,hm,hp,h,hx=>by
  have hc:=hm c (by simp)
  have hk:=iN l x.2 hd hc
  obtain⟨h1,h2⟩:=Ns l hd r (x.1++[⟨c,(B8 l x.2 (J2 s c+1)).1⟩],(B8 l x.2 (J2 s c+1)).2) (fun c' qO=>hm c' (by simp[qO])) (List.pairwise_cons.1 hp).2 ⟨fun q hq=>by
    rcases List.mem_append.1 hq with hq|hq
    ·exact h.ok q hq
    ·simp only[List.mem_singleton]at hq
     subst hq
     exact⟨hk,(AC.1 hc).2⟩,List.pairwise_append.2 ⟨h.asc,List.pairwise_singleton _ _,fun p hp q hq=>by
      simp only[List.mem_singleton]at hq
      subst hq
      exact hx p hp c (by simp)⟩⟩ (fun q hq c' qO=>by
    rcases List.mem_append.1 hq with hq|hq
    ·exact hx q hq c' (by simp[qO])
    ·simp only[List.mem_singleton]at hq
     subst hq
     have:=(List.pairwise_cons.1 hp).1 c' qO
     dsimp only;omega)
  refine⟨h1,?_⟩
  show (DV l s r _).1.length=_
  rw[h2,List.length_append,List.length_cons,List.length_cons,List.length_nil];omega
theorem TO(l:List UInt8)(a:Nat){s:A5}(hd:F7 s):AB s (CD l a s).1=0:=by
 have h2:=hd.two.1
 have h3:=hd.cnt.1
 have key:Rx s (CD l a s).1∧1≤(CD l a s).1.length∧(CD l a s).1.length≤3:=by
  unfold CD
  split
  ·have kj:=I7 l (B8 l a 2).2 (n:=(H9 s 2 s.cols.length).length) (by omega)
   obtain⟨q1,q2⟩:=Ns l hd ((H9 s 2 s.cols.length).drop (B8 l (B8 l a 2).2 (H9 s 2 s.cols.length).length).1) ([],(B8 l (B8 l a 2).2 (H9 s 2 s.cols.length).length).2) (fun c hc=>List.mem_of_mem_drop hc) ((Ed s 2 _).drop) ⟨fun q hq=>absurd hq (List.not_mem_nil),.nil⟩ (fun q hq=>absurd hq (List.not_mem_nil))
   refine⟨q1,?_⟩
   rw[q2,List.length_drop,List.length_nil];omega
  ·obtain⟨q1,q2⟩:=Ns l hd (H9 s 2 s.cols.length) ([],(B8 l a 2).2) (fun c hc=>hc) (Ed s 2 _) ⟨fun q hq=>absurd hq (List.not_mem_nil),.nil⟩ (fun q hq=>absurd hq (List.not_mem_nil))
   refine⟨q1,?_⟩
   rw[q2,List.length_nil];omega
 generalize (CD l a s).1=x at *
 obtain⟨hx,hl⟩:=key
 unfold AB
 rw[if_neg (by omega)]
 refine Au fun i d hi=>?_
 rw[Nat.zero_add]
 obtain⟨o1,o2⟩:=hx.ok d (List.mem_of_getElem? hi)
 have op:c8 s d=0:=by unfold c8;rw[if_pos hd.ok];exact o1
 have lu:((x.take i).any fun y=>decide (y.col=d.col))=false:=List.any_eq_false.2 fun y hy=>by
  obtain⟨j,hj,rfl⟩:=List.getElem_of_mem hy
  rw[List.length_take]at hj
  rw[List.getElem_take]
  have kj:=S8 hi
  have:=List.pairwise_iff_getElem.1 hx.asc j i (by omega) kj (by omega)
  have e:x[i]'kj=d:=by rw[List.getElem?_eq_getElem kj]at hi;exact Option.some.inj hi
  rw[e]at this
  simp only[decide_eq_true_eq];omega
 unfold Ar
 rw[if_neg (by omega),if_neg (by omega),lu,if_neg (by decide)]
theorem Nt(l:List UInt8)(m:Int)(hi:Nat):∀(cs:List Nat) (x:List Int×Nat),List.Pairwise (fun a b:Nat=>a<b) cs→(∀c∈cs,∀q∈x.1,q<(c:Int))→List.Pairwise (fun a b:Int=>a<b) x.1→(∀q∈x.1,q≠m) →
  List.Pairwise (fun a b:Int=>a<b) (Am l m cs x).1∧(∀q∈(Am l m cs x).1,q≠m∧(q∈x.1∨∃c∈cs,q=(c:Int)))∧(Am l m cs x).1.length≤x.1.length+cs.length
 |[],x,_,_,h,hm=>⟨h,fun q hq=>⟨hm q hq,.inl hq⟩,Nat.le_refl _⟩
 |c::r,x,hp,hx,h,hm=>by
  have qL:∀a,(c:Int)≠m→List.Pairwise (fun a b:Int=>a<b) (Am l m r (x.1++[(c:Int)],a)).1∧(∀q∈(Am l m r (x.1++[(c:Int)],a)).1,q≠m∧(q∈x.1∨∃c'∈c::r,q=(c':Int)))∧(Am l m r (x.1++[(c:Int)],a)).1.length≤x.1.length+(c::r).length:=fun a qn=>by
   obtain⟨h1,h2,h3⟩:=Nt l m hi r (x.1++[(c:Int)],a) (List.pairwise_cons.1 hp).2 (fun c' qO q hq=>by
     rcases List.mem_append.1 hq with hq|hq
     ·exact hx c' (by simp[qO]) q hq
     ·simp only[List.mem_singleton]at hq
      have:=(List.pairwise_cons.1 hp).1 c' qO
      omega) (List.pairwise_append.2 ⟨h,List.pairwise_singleton _ _,fun p hp q hq=>by
     simp only[List.mem_singleton]at hq
     have:=hx c (by simp) p hp
     omega⟩) (fun q hq=>by
     rcases List.mem_append.1 hq with hq|hq
     ·exact hm q hq
     ·simp only[List.mem_singleton]at hq;omega)
   refine⟨h1,fun q hq=>⟨(h2 q hq).1,?_⟩,by rw[List.length_append,List.length_cons,List.length_nil]at h3;rw[List.length_cons];omega⟩
   rcases(h2 q hq).2 with h4|⟨c',h4,h5⟩
   ·rcases List.mem_append.1 h4 with h4|h4
    ·exact .inl h4
    ·simp only[List.mem_singleton]at h4;exact .inr ⟨c,by simp,h4⟩
   ·exact .inr ⟨c',by simp[h4],h5⟩
  have tX:∀a,List.Pairwise (fun a b:Int=>a<b) (Am l m r (x.1,a)).1∧(∀q∈(Am l m r (x.1,a)).1,q≠m∧(q∈x.1∨∃c'∈c::r,q=(c':Int)))∧(Am l m r (x.1,a)).1.length≤x.1.length+(c::r).length:=fun a=>by
   obtain⟨h1,h2,h3⟩:=Nt l m hi r (x.1,a) (List.pairwise_cons.1 hp).2 (fun c' qO q hq=>hx c' (by simp[qO]) q hq) h hm
   refine⟨h1,fun q hq=>⟨(h2 q hq).1,?_⟩,by rw[List.length_cons];dsimp only at h3;omega⟩
   rcases(h2 q hq).2 with h4|⟨c',h4,h5⟩
   ·exact .inl h4
   ·exact .inr ⟨c',by simp[h4],h5⟩
  rw[Am]
  split
  ·split
   ·exact qL _ (by assumption)
   ·split
    ·exact qL _ (by assumption)
    ·exact tX _
  ·exact tX _
theorem Ry(l:List UInt8)(a:Nat){s:A5}(hd:F7 s)(m:Int)(hne:0<((Ec l a s m).1.length:Int)):Aa s m (Ec l a s m).1=0:=by
 have h3:=hd.cnt.2
 obtain⟨q1,q2,q3⟩:=Nt l m 0 (H9 s 3 s.cols.length) ([],a) (Ed s 3 _) (fun c hc q hq=>by cases hq) .nil (fun q hq=>by cases hq)
 unfold Ec at hne ⊢
 generalize (Am l m (H9 s 3 s.cols.length) ([],a)).1=x at *
 rw[List.length_nil]at q3
 unfold Aa
 rw[if_neg (by omega)]
 refine Au fun i c hi=>?_
 rw[Nat.zero_add]
 obtain⟨o1,o2⟩:=q2 c (List.mem_of_getElem? hi)
 have hb:u5 s c 3=true:=by
  rcases o2 with h|⟨k,h,rfl⟩
  ·cases h
  ·obtain⟨p1,p2⟩:=AC.1 h
   unfold u5
   rw[decide_eq_true_iff]
   exact⟨by omega,by omega,p2⟩
 have lu:((x.take i).any fun y=>decide (y=c))=false:=List.any_eq_false.2 fun y hy=>by
  obtain⟨j,hj,rfl⟩:=List.getElem_of_mem hy
  rw[List.length_take]at hj
  rw[List.getElem_take]
  have kj:=S8 hi
  have:=List.pairwise_iff_getElem.1 q1 j i (by omega) kj (by omega)
  have e:x[i]'kj=c:=by rw[List.getElem?_eq_getElem kj]at hi;exact Option.some.inj hi
  rw[e]at this
  simp only[decide_eq_true_eq];omega
 unfold As
 rw[hb,if_neg (by decide),lu,if_neg (by rintro (h|h);exact o1 h;cases h)]
def Di:A1:=.mk 1 0 0 0 0 []
def Nu(l:List UInt8)(s:A5)(nm:List UInt8)(c:A1)(m:Int)(a:Nat):E3×Nat:=(⟨nm,1,c,(CD l a s).1,m,[],zC⟩,(CD l a s).2)
def GZ(l:List UInt8)(s:A5)(nm:List UInt8)(a:Nat):E3×Nat :=
 let n:=B8 l a 3
 let c:=L9 l s n.1 n.2
 let m:=AN l c.2 s 3
 let w:=B8 l m.2 4
 if (w.1:Int)=1 then Nu l s nm c.1 m.1 w.2
 else if (w.1:Int)=2 then
  let t:=Ec l w.2 s m.1
  if 0<(t.1.length:Int)then (⟨nm,2,c.1,[],m.1,t.1,zC⟩,t.2)else Nu l s nm c.1 (-1) t.2
 else if (w.1:Int)=3 then
  if 0≤(C7 s m.1).low then
   let v:=L9 l s 1 w.2
   (⟨nm,3,c.1,[],m.1,[],v.1⟩,v.2)
  else Nu l s nm c.1 (-1) w.2
 else Nu l s nm c.1 (-1) w.2
def v8(l:List UInt8)(s:A5):Nat→List E3×Nat→List E3×Nat
 |0,x=>x
 |n+1,x =>
  let q:=GZ l s ([113]++O0 (n+1)) x.2
  v8 l s n (x.1++[q.1],q.2)
def N0(l:List UInt8)(s:A5)(a:Nat):G0×Nat :=
 let p:=B8 l a 3
 let c:=L9 l s 1 p.2
 let z:=B8 l c.2 999
 let u:=B8 l z.2 3
 let v:=B8 l u.2 3
 let coh:=if (u.1:Int)=3-1 then Di else c.1
 if (v.1:Int)=3-1 then
  let o:=B8 l v.2 4
  let r:=B8 l o.2 (2+(o.1:Int))
  (⟨[112]++O0 p.1,[115,114,99],coh,1+r.1,2+o.1,z.1,[]⟩,r.2)
 else (⟨[112]++O0 p.1,[115,114,99],coh,1,1,z.1,[]⟩,v.2)
def U7(l:List UInt8)(s:A5)(a:Nat):G0×Nat :=
 let h:=N0 l s a
 let n:=B8 l h.2 3
 let x:=v8 l s (1+n.1) ([],n.2)
 ({ h.1 with qs:=x.1 },x.2)
theorem WG{s:A5}(hr:C8 s=0){q:E3}(h1:D8 q.name=true)(h2:q.kind=1)(h3:G6 s q.flt=0)(h4:AB s q.dims=0)(h5:q.mea=-1∨u5 s q.mea 3=true)(h6:q.trms=[])(h7:q.evt=zC):u6 s q=0:=by
 unfold u6 JC
 rw[if_neg (by omega),h1,if_neg (by simp),if_neg (by omega),if_neg (by omega),if_pos h2,if_neg (by omega),if_neg,if_neg]
 ·rintro (h|h)
  ·rw[h6]at h;exact absurd h (by simp)
  ·rw[h7]at h;exact h YO
 ·rintro ⟨h8,h9⟩
  rcases h5 with h|h
  ·exact h8 h
  ·rw[JB _ _ _ (by decide)]at h
   exact h9 (of_decide_eq_true h)
theorem WH{s:A5}(hr:C8 s=0){q:E3}(h1:D8 q.name=true)(h2:q.kind=2)(h3:G6 s q.flt=0)(h4:Aa s q.mea q.trms=0)(h5:u5 s q.mea 3=true)(h6:q.dims=[])(h7:q.evt=zC):u6 s q=0:=by
 rw[JB _ _ _ (by decide)]at h5
 unfold u6 Ho
 rw[if_neg (by omega),h1,if_neg (by simp),if_neg (by omega),if_neg (by omega),if_neg (by omega),if_pos h2,if_neg (fun h=>h (of_decide_eq_true h5)),if_neg (by omega),if_neg]
 rintro (h|h)
 ·rw[h6]at h;exact absurd h (by simp)
 ·rw[h7]at h;exact h YO
theorem WI{s:A5}(hr:C8 s=0){q:E3}(h1:D8 q.name=true)(h2:q.kind=3)(h3:G6 s q.flt=0)(h4:G6 s q.evt=0)(h5:u5 s q.mea 3=true)(h8:0≤(C7 s q.mea).low)(h6:q.dims=[])(h7:q.trms=[]):u6 s q=0:=by
 rw[JB _ _ _ (by decide)]at h5
 unfold u6 JD
 rw[if_neg (by omega),h1,if_neg (by simp),if_neg (by omega),if_neg (by omega),if_neg (by omega),if_neg (by omega),if_neg (fun h=>h (of_decide_eq_true h5)),if_neg (by omega),if_neg (by omega),if_neg]
 rintro (h|h)
 ·rw[h6]at h;exact absurd h (by simp)
 ·rw[h7]at h;exact absurd h (by simp)
theorem FD{s:A5}(hd:F7 s)(l:List UInt8){nm:List UInt8}(hn:D8 nm=true){c:A1}(hc:G6 s c=0){m:Int}(hm:m=-1∨u5 s m 3=true)(a:Nat):u6 s (Nu l s nm c m a).1=0 :=
 WG hd.ok hn rfl hc (TO l a hd) hm rfl rfl
theorem WJ{s:A5}(hd:F7 s)(l:List UInt8){nm:List UInt8}(hn:D8 nm=true)(a:Nat):u6 s (GZ l s nm a).1=0∧(GZ l s nm a).1.name=nm:=by
 have hk:=I7 l a (n:=3) (by omega)
 unfold GZ
 dsimp only
 have hc:=(Ht hd l (B8 l a 3).1 (B8 l a 3).2 (by omega)).1
 have hm:=fun b=>eV hd l b
 split
 ·exact⟨FD hd l hn hc (.inr (hm _)) _,rfl⟩
 ·split
  ·split
   ·rename_i ht
    exact⟨WH hd.ok hn rfl hc (Ry l _ hd _ ht) (hm _) rfl rfl,rfl⟩
   ·exact⟨FD hd l hn hc (.inl rfl) _,rfl⟩
  ·split
   ·split
    ·rename_i pc
     exact⟨WI hd.ok hn rfl hc (Ht hd l 1 _ (by omega)).1 (hm _) pc rfl rfl,rfl⟩
    ·exact⟨FD hd l hn hc (.inl rfl) _,rfl⟩
   ·exact⟨FD hd l hn hc (.inl rfl) _,rfl⟩
theorem iO:∀n:Nat,n<4→D8 ([113]++O0 n)=true:=by decide
theorem YP:∀n:Nat,n<4→D8 ([112]++O0 n)=true:=by decide
theorem iP:∀i:Nat,i<4→∀j:Nat,j<4→[113]++O0 i=[113]++O0 j→i=j:=by decide
theorem UZ{s:A5}(hd:F7 s)(l:List UInt8):∀(n N:Nat) (x:List E3×Nat),n+x.1.length=N→N<4→(∀(i:Nat) q,x.1[i]?=some q→u6 s q=0∧q.name=[113]++O0 (N-i)) →
  (v8 l s n x).1.length=N∧∀(i:Nat) q,(v8 l s n x).1[i]?=some q→u6 s q=0∧q.name=[113]++O0 (N-i)
 |0,N,x,h,_,hx=>⟨by show x.1.length=N;omega,hx⟩
 |n+1,N,x,h,hN,hx=>by
  rw[v8]
  obtain⟨q1,q2⟩:=WJ hd l (iO (n+1) (by omega)) x.2
  refine UZ hd l n N _ (by dsimp only;rw[List.length_append,List.length_singleton];omega) hN fun i q hq=>?_
  dsimp only at hq
  by_cases hi:i<x.1.length
  ·rw[List.getElem?_append_left hi]at hq
   exact hx i q hq
  ·rw[List.getElem?_append_right (by omega)]at hq
   obtain⟨k,hk⟩:∃k,i-x.1.length=k:=⟨_,rfl⟩
   rw[hk]at hq
   cases k with
   |zero =>
    cases hq
    exact⟨q1,by rw[q2,show N-i=n+1 by omega]⟩
   |succ k=>simp at hq
theorem eX{s:A5}{L:List E3}{N:Nat}(hN:N<4)(hl:L.length=N)(h:∀(i:Nat) q,L[i]?=some q→u6 s q=0∧q.name=[113]++O0 (N-i)):J1 (Dh s L) 0 L=0:=by
 refine Au fun i q hi=>?_
 rw[Nat.zero_add]
 have sK:=S8 hi
 obtain⟨h1,h2⟩:=h i q hi
 unfold Dh
 rw[if_neg (by omega),if_neg]
 intro lu
 obtain⟨y,hy,he⟩:=List.any_eq_true.1 lu
 obtain⟨j,hj⟩:=List.mem_iff_getElem?.1 hy
 have uH:=S8 hj
 rw[List.length_take]at uH
 rw[List.getElem?_take,if_pos (by omega)]at hj
 have e:=of_decide_eq_true he
 rw[(h j y hj).2,h2]at e
 have:=iP _ (by omega) _ (by omega) e
 omega
theorem YQ{s:A5}(hr:C8 s=0):G6 s Di=0:=by
 unfold G6
 rw[if_pos hr,if_neg (by decide),if_neg (by decide)]
 rfl
theorem Ms{s:A5}(hd:F7 s)(l:List UInt8)(a:Nat):j8 s (U7 l s a).1=0∧1≤(U7 l s a).1.qs.length∧(U7 l s a).1.qs.length≤3:=by
 have hn:=I7 l (N0 l s a).2 (n:=3) (by omega)
 have hp:=I7 l a (n:=3) (by omega)
 obtain⟨q1,q2⟩:=UZ hd l (1+(B8 l (N0 l s a).2 3).1) (1+(B8 l (N0 l s a).2 3).1) ([],(B8 l (N0 l s a).2 3).2) rfl (by omega) (fun i q h=>by simp at h)
 have ux:=eX (by omega) q1 q2
 have hc:=(Ht hd l 1 (B8 l a 3).2 (by omega)).1
 have hz:=I7 l (L9 l s 1 (B8 l a 3).2).2 (n:=999) (by omega)
 have hq:(U7 l s a).1.qs=(v8 l s (1+(B8 l (N0 l s a).2 3).1) ([],(B8 l (N0 l s a).2 3).2)).1:=rfl
 rw[hq]
 refine⟨?_,by omega,by omega⟩
 have hh:D8 (N0 l s a).1.prj=true∧(N0 l s a).1.src=[115,114,99]∧G6 s (N0 l s a).1.coh=0∧1≤(N0 l s a).1.of∧(N0 l s a).1.of≤5∧1≤(N0 l s a).1.part∧(N0 l s a).1.part≤(N0 l s a).1.of∧0≤(N0 l s a).1.seed∧(N0 l s a).1.seed≤999:=by
  have sy:G6 s (if ((B8 l (B8 l (L9 l s 1 (B8 l a 3).2).2 999).2 3).1:Int)=3-1 then Di else (L9 l s 1 (B8 l a 3).2).1)=0:=by
   split
   ·exact YQ hd.ok
   ·exact hc
  unfold N0
  dsimp only
  split
  ·have ho:=I7 l (B8 l (B8 l (B8 l (L9 l s 1 (B8 l a 3).2).2 999).2 3).2 3).2 (n:=4) (by omega)
   have hr:=I7 l (B8 l (B8 l (B8 l (B8 l (L9 l s 1 (B8 l a 3).2).2 999).2 3).2 3).2 4).2 (n:=2+((B8 l (B8 l (B8 l (B8 l (L9 l s 1 (B8 l a 3).2).2 999).2 3).2 3).2 4).1:Int)) (by omega)
   exact⟨YP _ (by omega),rfl,sy,by dsimp only;omega,by dsimp only;omega,by dsimp only;omega,by dsimp only;omega,by dsimp only;omega,by dsimp only;omega⟩
  ·exact⟨YP _ (by omega),rfl,sy,by dsimp only;omega,by dsimp only;omega,by dsimp only;omega,by dsimp only;omega,by dsimp only;omega,by dsimp only;omega⟩
 obtain⟨p1,p2,p3,p4,p5,p6,p7,p8,p9⟩:=hh
 unfold j8
 have e:∀(f:G0→Int),f (U7 l s a).1=f { (N0 l s a).1 with qs:=(v8 l s (1+(B8 l (N0 l s a).2 3).1) ([],(B8 l (N0 l s a).2 3).2)).1 }:=fun f=>rfl
 show (if ¬C8 s=0 then C8 s else if D8 (N0 l s a).1.prj=false∨D8 (N0 l s a).1.src=false then 3 else if ¬G6 s (N0 l s a).1.coh=0 then G6 s (N0 l s a).1.coh else if (N0 l s a).1.of<1∨1000<(N0 l s a).1.of∨(N0 l s a).1.part<1∨(N0 l s a).1.of<(N0 l s a).1.part∨(N0 l s a).1.seed<0∨1099511627776<(N0 l s a).1.seed then 2 else if (v8 l s (1+(B8 l (N0 l s a).2 3).1) ([],(B8 l (N0 l s a).2 3).2)).1.length=0∨8<(v8 l s (1+(B8 l (N0 l s a).2 3).1) ([],(B8 l (N0 l s a).2 3).2)).1.length then 1 else J1 (Dh s (v8 l s (1+(B8 l (N0 l s a).2 3).1) ([],(B8 l (N0 l s a).2 3).2)).1) 0 (v8 l s (1+(B8 l (N0 l s a).2 3).1) ([],(B8 l (N0 l s a).2 3).2)).1)=0
 rw[if_neg (by have:=hd.ok;omega),p1,p2,if_neg (by rw[show D8 [115,114,99]=true by decide];simp),if_neg (by omega),if_neg (by omega),if_neg (by omega),ux]
end Go.Proofs.YtkcekccdcpmekaaGreatDoor
