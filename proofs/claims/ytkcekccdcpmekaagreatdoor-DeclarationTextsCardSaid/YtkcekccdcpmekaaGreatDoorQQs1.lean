/- Chapter 8: what is read as a question is its text. -/
import Derived.Test.YtkcekccdcpmekaaGreatDoorQQw3
import Derived.Test.YtkcekccdcpmekaaGreatDoorQXl
set_option linter.unusedVariables false
set_option linter.unnecessarySimpa false
set_option linter.unusedSimpArgs false
set_option maxHeartbeats 64000000
namespace Go.Proofs.YtkcekccdcpmekaaGreatDoor
open Go Go.Av
attribute [local irreducible] E8 B5 E5 E1 DQ E7 E9 St.le A4 A9
set_option maxRecDepth 100000
theorem fF{s:A5}{l:List Int}{w:List UInt8}(h:l.map (H6 s)=[w]):∃c,l=[c]∧H6 s c=w:=by
 match l,h with
 |[c],h=>exact⟨c,rfl,(List.cons.inj h).1⟩
 |[],h=>cases h
 |a::b::r,h=>cases (List.cons.inj h).2
theorem La{s:A5}{w:List UInt8}(h:(G5 s [w]).2=true):CS s ((G5 s [w]).1.getD 0 0)∧H6 s ((G5 s [w]).1.getD 0 0)=w:=by
 obtain⟨h1,h2,_⟩:=PE h
 obtain⟨c,e,hc⟩:=fF h1
 rw[e]at h2 ⊢
 exact⟨h2 c (by simp),hc⟩
theorem SU{s:A5}{q:E3}{m:Int}{l:List (List UInt8)}(h:(Fj s q m l).2=true):(1≤(j4 s l).length∧(j4 s l).length≤3∧∀d∈j4 s l,NA s d)∧(j4 s l).map (P8 s)=l:=by
 unfold Fj at h
 rw[Bool.and_eq_true]at h
 have h1:=of_decide_eq_true h.1
 obtain⟨i1,i2,i3⟩:=Uf (s:=s) (l:=l) (by simpa using h.2)
 exact⟨⟨by omega,by omega,i2⟩,i1⟩
theorem SV{s:A5}{w:List (List UInt8)}{q:E3}(h:(Ax s w q).2=true)(hn:q.name=B1 w 0):∃(ds:List Pk) (m:Int),(Ax s w q).1=⟨q.name,1,q.flt,ds,m,q.trms,q.evt⟩∧w=[q.name,AW]++ds.map (P8 s)++(if 0≤m then [W7,H6 s m]else [])∧(1≤ds.length∧ds.length≤3∧∀d∈ds,NA s d)∧(m=-1∨CS s m):=by
 unfold Ax at h ⊢
 by_cases h1:w.length<3∨¬B1 w 1=AW
 ·rw[if_pos h1]at h;cases h
 rw[if_neg h1]at h ⊢
 have hw:w=[q.name,AW]++w.drop 2:=by
  match w,h1,hn with
  |a::b::r,h1,hn =>
   have e1:b=AW:=Decidable.of_not_not fun g=>h1 (.inr g)
   have e2:q.name=a:=hn
   rw[e1,e2];rfl
  |[a],h1,_=>exact absurd (.inl (by simp)) h1
  |[],h1,_=>exact absurd (.inl (by simp)) h1
 generalize hl:w.drop 2=l at *
 by_cases h2:2≤l.length∧B1 l (l.length-2)=W7
 ·rw[if_pos h2]at h ⊢
  by_cases h3:(G5 s (l.drop (l.length-1))).2=false
  ·rw[if_pos h3]at h;cases h
  rw[if_neg h3]at h ⊢
  have pM:(G5 s (l.drop (l.length-1))).2=true:=by simpa using h3
  have el:l.drop (l.length-1)=[l[l.length-1]'(by omega)]:=by
   rw[List.drop_eq_getElem_cons (by omega),List.drop_eq_nil_of_le (by omega)]
  rw[el]at pM
  obtain⟨c1,c2⟩:=La pM
  rw[←el]at c1 c2
  obtain⟨i1,i2⟩:=SU h
  refine⟨_,_,rfl,?_,i1,.inr c1⟩
  rw[if_pos c1.1,c2,i2]
  refine hw.trans ?_
  have e2:l.drop (l.length-2)=[W7,l[l.length-1]'(by omega)]:=by
   have h4:=h2.2
   unfold B1 at h4
   rw[List.getD_eq_getElem?_getD,List.getElem?_eq_getElem (by omega),Option.getD_some]at h4
   rw[List.drop_eq_getElem_cons (by omega),h4,show l.length-2+1=l.length-1 by omega,el]
  rw[List.append_assoc,←e2,List.take_append_drop]
 ·rw[if_neg h2]at h ⊢
  obtain⟨i1,i2⟩:=SU h
  refine⟨_,_,rfl,?_,i1,.inl rfl⟩
  rw[if_neg (by decide),List.append_nil,i2]
  exact hw
theorem bS{s:A5}{w:List (List UInt8)}{q:E3}(h:(DT s w q).2=true)(hn:q.name=B1 w 0):∃(ts:List Int) (m:Int),(DT s w q).1=⟨q.name,2,q.flt,q.dims,m,ts,q.evt⟩∧w=[q.name,N8,H6 s m,DS]++ts.map (H6 s)∧(1≤ts.length∧ts.length≤3∧∀c∈ts,CS s c)∧CS s m:=by
 unfold DT at h ⊢
 by_cases h1:w.length<5∨¬B1 w 1=N8∨¬B1 w 3=DS
 ·rw[if_pos h1]at h;cases h
 rw[if_neg h1]at h ⊢
 match w,h1,hn,h with
 |a::b::c::d::r,h1,hn,h =>
  have e1:b=N8:=Decidable.of_not_not fun g=>h1 (.inr (.inl g))
  have e2:d=DS:=Decidable.of_not_not fun g=>h1 (.inr (.inr g))
  have e3:q.name=a:=hn
  have t1:((a::b::c::d::r).take 3).drop 2=[c]:=rfl
  have t2:(a::b::c::d::r).drop 4=r:=rfl
  rw[t1,t2]at h ⊢
  by_cases h3:(G5 s [c]).2=false∨(G5 s r).2=false∨3<(G5 s r).1.length
  ·rw[if_pos h3]at h;cases h
  rw[if_neg h3]
  have g1:(G5 s [c]).2=true:=by cases g:(G5 s [c]).2;exact absurd (.inl g) h3;rfl
  have g2:(G5 s r).2=true:=by cases g:(G5 s r).2;exact absurd (.inr (.inl g)) h3;rfl
  obtain⟨c1,c2⟩:=La g1
  obtain⟨r1,r2,r3⟩:=PE g2
  refine⟨_,_,rfl,?_,⟨?_,by omega,r2⟩,c1⟩
  ·rw[c2,r1,e1,e2,e3];rfl
  ·have:=congrArg List.length r1
   rw[List.length_map]at this
   omega
 |[a,b,c],h1,_,_=>exact absurd (.inl (by simp)) h1
 |[a,b],h1,_,_=>exact absurd (.inl (by simp)) h1
 |[a],h1,_,_=>exact absurd (.inl (by simp)) h1
 |[],h1,_,_=>exact absurd (.inl (by simp)) h1
theorem bT{s:A5}(hr:C8 s=0){t:List UInt8}{q:E3}(h:(DU s t q).2=true)(hn:q.name=t.takeWhile (B3 32)):∃(ev:A1) (m:Int),(DU s t q).1=⟨q.name,3,q.flt,q.dims,m,q.trms,ev⟩∧t=I8 [32] ([q.name,N8,H6 s m,X6]++[C6 s ev])∧G6 s ev=0∧CS s m:=by
 have hj:=Hz (w:=[32]) 4 t
 have hh:=SO 32 3 t
 unfold DU at h ⊢
 generalize M0 [32] 4 t=w at *
 by_cases h1:¬w.length=5∨¬B1 w 1=N8∨¬B1 w 3=X6
 ·rw[if_pos h1]at h;cases h
 rw[if_neg h1]at h ⊢
 match w,h1,hj,hh,h with
 |[a,b,c,d,e],h1,hj,hh,h =>
  have e1:b=N8:=Decidable.of_not_not fun g=>h1 (.inr (.inl g))
  have e2:d=X6:=Decidable.of_not_not fun g=>h1 (.inr (.inr g))
  have e3:q.name=a:=hn.trans hh.symm
  have t1:(([a,b,c,d,e]:List (List UInt8)).take 3).drop 2=[c]:=rfl
  have t2:B1 [a,b,c,d,e] 4=e:=rfl
  rw[t1,t2]at h ⊢
  by_cases h3:(G5 s [c]).2=false
  ·rw[if_pos h3]at h;cases h
  rw[if_neg h3]at h ⊢
  obtain⟨c1,c2⟩:=La (by simpa using h3)
  have hp:K5 s e=((K5 s e).1,0):=Prod.ext rfl (of_decide_eq_true h)
  obtain⟨p1,p2⟩:=(EA hr _ _).1 hp
  refine⟨_,_,rfl,?_,p1,c1⟩
  rw[c2,←p2,e3,←e1,←e2]
  exact hj.symm
 |a::b::c::d::e::f::r,h1,_,_,_=>exact absurd (.inl (by simp)) h1
 |[a,b,c,d],h1,_,_,_=>exact absurd (.inl (by simp)) h1
 |[a,b,c],h1,_,_,_=>exact absurd (.inl (by simp)) h1
 |[a,b],h1,_,_,_=>exact absurd (.inl (by simp)) h1
 |[a],h1,_,_,_=>exact absurd (.inl (by simp)) h1
 |[],h1,_,_,_=>exact absurd (.inl (by simp)) h1
theorem bU{s:A5}(hr:C8 s=0){t:List UInt8}(h:(CK s t).2=true):∃q,(CK s t).1=q∧t.takeWhile (B3 32)=cm q∧F3 t=I8 [32] (AX s q)∧q.name=(Eb s t).name∧q.flt=(Eb s t).flt
  ∧ (q.kind=1∧(1≤q.dims.length∧q.dims.length≤3∧∀d∈q.dims,NA s d)∧(q.mea=-1∨CS s q.mea)∧q.trms=[]∧q.evt=zX
  ∨ q.kind=2∧CS s q.mea∧(1≤q.trms.length∧q.trms.length≤3∧∀c∈q.trms,CS s c)∧q.dims=[]∧q.evt=zX
  ∨ q.kind=3∧CS s q.mea∧G6 s q.evt=0∧q.dims=[]∧q.trms=[]):=by
 have hj:=Hz (w:=[32]) (F3 t).length (F3 t)
 have oY:I8 [32] (D3 [32] (F3 t))=F3 t:=hj
 unfold CK at h ⊢
 by_cases k1:t.takeWhile (B3 32)=AP
 ·rw[if_pos k1]at h ⊢
  obtain⟨ds,m,e,hw,h1,h2⟩:=SV h rfl
  refine⟨_,e,k1,?_,rfl,rfl,.inl ⟨rfl,h1,h2,rfl,rfl⟩⟩
  rw[←oY,hw];rfl
 rw[if_neg k1]at h ⊢
 by_cases k2:t.takeWhile (B3 32)=W8
 ·rw[if_pos k2]at h ⊢
  obtain⟨ts,m,e,hw,h1,h2⟩:=bS h rfl
  refine⟨_,e,k2,?_,rfl,rfl,.inr (.inl ⟨rfl,h2,h1,rfl,rfl⟩)⟩
  rw[←oY,hw];rfl
 rw[if_neg k2]at h ⊢
 by_cases k3:t.takeWhile (B3 32)=X7
 ·rw[if_pos k3]at h ⊢
  obtain⟨ev,m,e,hw,h1,h2⟩:=bT hr h (PC 32 (F3 t))
  exact⟨_,e,k3,hw,rfl,rfl,.inr (.inr ⟨rfl,h2,h1,rfl,rfl⟩)⟩
 ·rw[if_neg k3]at h;cases h
theorem bV{s:A5}(hr:C8 s=0){d:G0}{t:List UInt8}(h:(Fk s d t).2=true):∃q,ik s q∧t=Q3 s q∧(Fk s d t).1=⟨d.prj,d.src,d.coh,d.part,d.of,d.seed,d.qs++[q]⟩:=by
 unfold Fk at h ⊢
 by_cases h1:t.dropWhile (B3 32)=[]∨H7 t<0
 ·rw[if_pos h1]at h;cases h
 rw[if_neg h1]at h ⊢
 by_cases h2:¬(W4 s t).2=0∨O4 (B1 (D3 [32] (F3 t)) 0)=false
 ·rw[if_pos h2]at h;cases h
 rw[if_neg h2]at h ⊢
 obtain⟨q,e,a1,a2,a3,a4,a5⟩:=bU hr h
 have hf:W4 s t=((W4 s t).1,0):=Prod.ext rfl (Decidable.of_not_not fun g=>h2 (.inl g))
 obtain⟨f1,f2⟩:=(EA hr _ _).1 hf
 have mT:q.name=B1 (D3 [32] (F3 t)) 0:=a3
 have tn:q.flt=(W4 s t).1:=a4
 refine⟨q,⟨?_,?_,by rw[tn];exact f1,a5⟩,?_,by rw[e]⟩
 ·rw[mT]
  cases g:O4 (B1 (D3 [32] (F3 t)) 0)
  ·exact absurd (.inr g) h2
  ·rfl
 ·rw[mT]
  unfold B1
  rw[PC]
  exact My 32 _
 ·have hl:=bN (t:=I0 t) (Int.not_lt.1 fun g=>h1 (.inr g))
  have ht:=Fo 32 t
  rw[KK fun g=>h1 (.inl g)]at ht
  unfold Q3
  rw[NB,←a1,←a2,tn,←f2]
  refine ht.symm.trans ?_
  rw[show t.takeWhile (B3 32)++[32]++F3 t++D6++(I0 t).drop ((H7 t).toNat+7)=t.takeWhile (B3 32)++32::(F3 t++D6++(I0 t).drop ((H7 t).toNat+7)) by simp only[List.append_assoc,List.cons_append,List.nil_append]]
  exact congrArg (fun z=>t.takeWhile (B3 32)++32::z) hl
structure DclR(s:A5)(d:G0):Prop where
 prj:O4 d.prj=true∧d.prj.all (B3 32)=true
 src:O4 d.src=true∧d.src.all (B3 32)=true
 coh:G6 s d.coh=0
 num:L3 (Lib.itoa d.part)=(d.part,true)∧L3 (Lib.itoa d.of)=(d.of,true)∧L3 (Lib.itoa d.seed)=(d.seed,true)
theorem Ug{a b:List UInt8}(ha:a.all (B3 32)=true)(hb:b.all (B3 32)=true):D3 [32] (a++32::b)=[a,b] :=
 AF (by simp) (fun p hp=>by
  simp only[List.mem_cons,List.not_mem_nil,or_false]at hp
  rcases hp with rfl|rfl
  ·exact ha
  ·exact hb) (by simp[I8])
theorem Uh{t:List UInt8}(h:¬(¬(D3 [32] t).length=2∨O4 (B1 (D3 [32] t) 1)=false)):∃a b,D3 [32] t=[a,b]∧t=a++32::b∧O4 b=true∧b.all (B3 32)=true:=by
 obtain⟨_,n2,n3⟩:=s7 32 t
 generalize D3 [32] t=ps at *
 match ps,h with
 |[a,b],h =>
  refine⟨a,b,rfl,by rw[n3];simp[I8],?_,n2 b (by simp)⟩
  cases g:O4 b
  ·exact absurd (.inr g) h
  ·rfl
 |[],h=>exact absurd (.inl (by simp)) h
 |[a],h=>exact absurd (.inl (by simp)) h
 |a::b::c::r,h=>exact absurd (.inl (by simp)) h
theorem bX{s:A5}(d:G0){nm:List UInt8}(h:O4 nm=true∧nm.all (B3 32)=true):R5 s d 1 (x8++nm)=(⟨nm,d.src,d.coh,d.part,d.of,d.seed,d.qs⟩,true):=by
 have e:D3 [32] (x8++nm)=[Rr,nm]:=Ug (a:=Rr) (by decide) h.2
 unfold R5
 rw[if_pos (.inl rfl),e,if_neg,if_pos rfl]
 ·rfl
 ·rintro (g|g)
  ·exact g rfl
  ·rw[show B1 [Rr,nm] 1=nm from rfl,h.1]at g;cases g
theorem bY{s:A5}(d:G0){nm:List UInt8}(h:O4 nm=true∧nm.all (B3 32)=true):R5 s d 2 (Bn++nm)=(⟨d.prj,nm,d.coh,d.part,d.of,d.seed,d.qs⟩,true):=by
 have e:D3 [32] (Bn++nm)=[Rs,nm]:=Ug (a:=Rs) (by decide) h.2
 unfold R5
 rw[if_pos (.inr rfl),e,if_neg,if_neg (by decide)]
 ·rfl
 ·rintro (g|g)
  ·exact g rfl
  ·rw[show B1 [Rs,nm] 1=nm from rfl,h.1]at g;cases g
theorem bZ{s:A5}{d:G0}{t:List UInt8}(h:(R5 s d 1 t).2=true):∃nm,(O4 nm=true∧nm.all (B3 32)=true)∧t=x8++nm∧(R5 s d 1 t).1=⟨nm,d.src,d.coh,d.part,d.of,d.seed,d.qs⟩:=by
 unfold R5 at h ⊢
 rw[if_pos (.inl rfl)]at h ⊢
 by_cases h1:¬(D3 [32] t).length=2∨O4 (B1 (D3 [32] t) 1)=false
 ·rw[if_pos h1]at h;cases h
 rw[if_neg h1,if_pos rfl]at h ⊢
 obtain⟨a,b,e,ht,hb⟩:=Uh h1
 rw[e]at h ⊢
 have ha:a=Rr:=of_decide_eq_true h
 refine⟨b,hb,?_,rfl⟩
 rw[ht,ha];rfl
theorem ba{s:A5}{d:G0}{t:List UInt8}(h:(R5 s d 2 t).2=true):∃nm,(O4 nm=true∧nm.all (B3 32)=true)∧t=Bn++nm∧(R5 s d 2 t).1=⟨d.prj,nm,d.coh,d.part,d.of,d.seed,d.qs⟩:=by
 unfold R5 at h ⊢
 rw[if_pos (.inr rfl)]at h ⊢
 by_cases h1:¬(D3 [32] t).length=2∨O4 (B1 (D3 [32] t) 1)=false
 ·rw[if_pos h1]at h;cases h
 rw[if_neg h1,if_neg (by decide)]at h ⊢
 obtain⟨a,b,e,ht,hb⟩:=Uh h1
 rw[e]at h ⊢
 have ha:a=Rs:=of_decide_eq_true h
 refine⟨b,hb,?_,rfl⟩
 rw[ht,ha];rfl
def Lb(s:A5)(w:List UInt8):Pk:=⟨F0 s (w.takeWhile (B3 47)),(I5 ((w.dropWhile (B3 47)).drop 1)).1⟩
def V2(s:A5)(w:List UInt8):Bool:=decide (w.dropWhile (B3 47)=[]) || (decide (F0 s (w.takeWhile (B3 47))<0) || (!(I5 ((w.dropWhile (B3 47)).drop 1)).2 || decide ((I5 ((w.dropWhile (B3 47)).drop 1)).1<0)))
def BA(s:A5):List (List UInt8)→List Pk
 |[]=>[]
 |w::r=>if V2 s w=true then []else Lb s w::BA s r
def KN(s:A5)(q:E3)(m:Int)(l:List (List UInt8)):E3×Bool:=(⟨q.name,q.kind,q.flt,BA s l,m,q.trms,q.evt⟩,decide (1≤l.length∧l.length≤3) && !(l.any (V2 s)))
def r9(s:A5)(q:E3)(w:List (List UInt8)):E3×Bool :=
 if 2≤w.length∧B1 w (w.length-2)=W7 then
  if F0 s (B1 w (w.length-1))<0 then (⟨q.name,q.kind,q.flt,[],F0 s (B1 w (w.length-1)),q.trms,q.evt⟩,false)
  else KN s q (F0 s (B1 w (w.length-1))) (w.take (w.length-2))
 else KN s q (-1) w
def F4(t:List UInt8):Int:=Lib.index t D6
def B7(t:List UInt8):List (List UInt8):=D3 [32] (t.take (F4 t).toNat)
def O5(s:A5)(t:List UInt8):A1×Int:=K5 s (t.drop ((F4 t).toNat+7))
def zQ:E3:=⟨[],0,zX,[],0,[],zX⟩
def L7(s:A5)(t:List UInt8):E3×Bool :=
 if F4 t<0 then (zQ,false)
 else if ¬(O5 s t).2=0∨(B7 t).length<4 then (zQ,false)
 else if B1 (B7 t) 0=AP∧B1 (B7 t) 2=AW then r9 s ⟨B1 (B7 t) 1,1,(O5 s t).1,[],0,[],zX⟩ ((B7 t).drop 3)
 else if B1 (B7 t) 0=W8∧B1 (B7 t) 2=N8∧5<(B7 t).length∧B1 (B7 t) 4=DS then
  (⟨B1 (B7 t) 1,2,(O5 s t).1,[],F0 s (B1 (B7 t) 3),(G5 s ((B7 t).drop 5)).1,zX⟩,(G5 s ((B7 t).drop 5)).2 && decide (0≤F0 s (B1 (B7 t) 3)∧(G5 s ((B7 t).drop 5)).1.length≤3))
 else if B1 (B7 t) 0=X7∧B1 (B7 t) 2=N8∧5<(B7 t).length∧B1 (B7 t) 4=X6 then
  (⟨B1 (B7 t) 1,3,(O5 s t).1,[],F0 s (B1 (B7 t) 3),[],(K5 s (I8 [32] ((B7 t).drop 5))).1⟩,decide ((K5 s (I8 [32] ((B7 t).drop 5))).2=0∧0≤F0 s (B1 (B7 t) 3)))
 else (⟨B1 (B7 t) 1,0,(O5 s t).1,[],0,[],zX⟩,false)
def BB(t:List UInt8):(Int×Int×Int)×Bool :=
 if ¬(D3 [32] t).length=6∨¬B1 (D3 [32] t) 0=JX∨¬B1 (D3 [32] t) 2=N8∨¬B1 (D3 [32] t) 4=GL then ((0,0,0),false)
 else (((I5 (B1 (D3 [32] t) 1)).1,(I5 (B1 (D3 [32] t) 3)).1,(I5 (B1 (D3 [32] t) 5)).1),((I5 (B1 (D3 [32] t) 1)).2 && ((I5 (B1 (D3 [32] t) 3)).2 && (I5 (B1 (D3 [32] t) 5)).2)) && decide (0≤(I5 (B1 (D3 [32] t) 1)).1∧0≤(I5 (B1 (D3 [32] t) 3)).1∧0≤(I5 (B1 (D3 [32] t) 5)).1))
def EP(c t:List UInt8):Bool:=(A8 c t).2 && (decide (¬(A8 c t).1=[]) && (decide (¬(A8 c t).1=l7) && (A8 c t).1.all (B3 32)))
def O8(s:A5)(d:G0)(n:Int)(t:List UInt8):G0×Bool :=
 if n=1 then (⟨(A8 x8 t).1,d.src,d.coh,d.part,d.of,d.seed,d.qs⟩,EP x8 t)
 else if n=2 then (⟨d.prj,(A8 Bn t).1,d.coh,d.part,d.of,d.seed,d.qs⟩,EP Bn t)
 else if n=3 then (⟨d.prj,d.src,(K5 s (A8 Aw t).1).1,d.part,d.of,d.seed,d.qs⟩,(A8 Aw t).2 && decide ((K5 s (A8 Aw t).1).2=0))
 else (⟨d.prj,d.src,d.coh,(BB t).1.1,(BB t).1.2.1,(BB t).1.2.2,d.qs⟩,(BB t).2)
def KO(s:A5)(d:G0)(n:Nat)(t:List UInt8):G0×Bool :=
 if n≤4 then O8 s d n t else (⟨d.prj,d.src,d.coh,d.part,d.of,d.seed,d.qs++[(L7 s t).1]⟩,(L7 s t).2 && decide (¬(L7 s t).1.name=[]))
theorem fG{u:Nat}(h:u<1000000000000000000):Lib.atoiAll (Lib.itoa (u:Int))=.ok (u:Int):=by
 rw[Lib.itoa_nonneg]
 obtain⟨d1,d2,d3⟩:=JI u h
 cases hc:Lib.decDigits u with
 |nil=>exact absurd hc d3
 |cons c r =>
  have hh:=Fc d2 hc
  unfold Lib.atoiAll
  dsimp only
  rw[if_neg (by omega)]
  have hm:Lib.parseMag (c::r)=.ok u:=by
   unfold Lib.parseMag
   rw[if_neg (by simp),←hc]
   exact d1
  rw[hm]
  dsimp only
  rw[if_neg (by omega),if_neg (by omega),if_neg (by omega)]
theorem Ui(u:Nat):A8 [45] (Lib.decDigits u)=(Lib.decDigits u,false):=by
 obtain⟨_,d2,d3⟩:=AO u
 cases hc:Lib.decDigits u with
 |nil=>rw[hc]at d3;simp at d3
 |cons c r =>
  have hh:=Fc d2 hc
  exact Hr (by intro e;rw[←e]at hh;exact absurd hh.1 (by decide))
theorem fH{u:Nat}(h:(Lib.decDigits u).length≤15):I5 (Lib.itoa (u:Int))=((u:Int),true):=by
 have e:Lib.itoa (u:Int)=Lib.decDigits u:=Lib.itoa_nonneg u
 obtain⟨d1,d2,d3⟩:=AO u
 unfold I5
 rw[e,Ui]
 dsimp only
 rw[if_neg (by omega),if_pos d2,if_neg (by omega),d1,e,decide_eq_true rfl]
theorem fI{z:List UInt8}(h:(I5 z).2=true):(A8 [45] z).1.length≤15:=by
 unfold I5 at h
 by_cases h1:(A8 [45] z).1.length<1∨15<(A8 [45] z).1.length
 ·rw[if_pos h1]at h;cases h
 ·omega
theorem fJ{z:List UInt8}(h:(L3 z).2=true):0≤(L3 z).1∧z.length≤15:=by
 unfold L3 at h ⊢
 cases ha:Lib.atoiAll z with
 |ok n=>rw[ha]at h;have:=of_decide_eq_true h;exact⟨this.2.1,this.1⟩
 |range=>rw[ha]at h;cases h
 |_=>rw[ha]at h;cases h
theorem Jg(z:List UInt8):(L3 z).2=((I5 z).2 && decide (0≤(I5 z).1))∧((L3 z).2=true→(I5 z).1=(L3 z).1):=by
 cases h:(L3 z).2
 ·refine⟨?_,fun g=>by cases g⟩
  cases hb:((I5 z).2 && decide (0≤(I5 z).1))
  ·rfl
  ·exfalso
   rw[Bool.and_eq_true]at hb
   have h0:=of_decide_eq_true hb.2
   have e:=LQ hb.1
   have py:=fI hb.1
   obtain⟨u,hu⟩:∃u:Nat,(I5 z).1=u:=⟨(I5 z).1.toNat,by omega⟩
   rw[hu,Lib.itoa_nonneg]at e
   obtain⟨d1,d2,d3⟩:=AO u
   rw[←e,Ui]at py
   dsimp only at py
   have kj:=Nl (Lib.decDigits u) 0 d2
   have hp:10 ^ (Lib.decDigits u).length≤10 ^ 15:=Nat.pow_le_pow_right (by omega) py
   have hv:(Lib.decDigits u).foldl (fun n b=>10*n+(b.toNat-48)) 0=u:=d1
   rw[hv]at kj
   have ha:Lib.atoiAll z=.ok (u:Int):=by rw[←e,←Lib.itoa_nonneg];exact fG (by omega)
   have hz:(L3 z).2=true:=by
    unfold L3
    rw[ha]
    exact decide_eq_true ⟨by rw[←e];exact py,by omega,by rw[Lib.itoa_nonneg];exact e⟩
   rw[hz]at h;cases h
 ·obtain⟨h1,h2⟩:=SP h
  obtain⟨h3,h4⟩:=fJ h
  obtain⟨u,hu⟩:∃u:Nat,(L3 z).1=u:=⟨(L3 z).1.toNat,by omega⟩
  rw[hu]at h1
  have h5:I5 z=((u:Int),true):=by
   rw[h1]
   refine fH ?_
   rw[←Lib.itoa_nonneg,←h1];exact h4
  rw[h5,hu]
  exact⟨by rw[decide_eq_true (show (0:Int)≤u by omega)];rfl,fun _=>rfl⟩
theorem KP(s:A5)(w:List UInt8):V2 s w=W9 s w:=by
 unfold V2 W9
 obtain⟨h1,_⟩:=Jg ((w.dropWhile (B3 47)).drop 1)
 rw[h1]
 by_cases e:w.dropWhile (B3 47)=[]
 ·rw[e,decide_eq_true rfl,show (I5 (([]:List UInt8).drop 1)).2=false from rfl]
  simp
 ·rw[decide_eq_false e,show decide ((I5 ((w.dropWhile (B3 47)).drop 1)).1<0)=!decide (0≤(I5 ((w.dropWhile (B3 47)).drop 1)).1) by
   by_cases g:0≤(I5 ((w.dropWhile (B3 47)).drop 1)).1
   ·rw[decide_eq_true g,decide_eq_false (by omega)];rfl
   ·rw[decide_eq_false g,decide_eq_true (by omega)];rfl]
  generalize decide (0≤(I5 ((w.dropWhile (B3 47)).drop 1)).1)=c
  generalize (I5 ((w.dropWhile (B3 47)).drop 1)).2=a
  cases a<;>cases c<;>rfl
theorem Yc{s:A5}{w:List UInt8}(h:W9 s w=false):Lb s w=JY s w:=by
 unfold W9 at h
 rw[Bool.or_eq_false_iff]at h
 obtain⟨_,h2⟩:=Jg ((w.dropWhile (B3 47)).drop 1)
 unfold Lb JY
 rw[h2 (by simpa using h.2)]
theorem EF(s:A5):∀l:List (List UInt8),BA s l=j4 s l
 |[]=>rfl
 |w::r=>by
  rw[BA,j4,KP]
  by_cases h:W9 s w=true
  ·rw[if_pos h,if_pos h]
  ·rw[if_neg h,if_neg h,Yc (by simpa using h),EF s r]
theorem SW(s:A5)(nm:List UInt8)(f:A1)(m:Int)(l:List (List UInt8)):KN s ⟨nm,1,f,[],0,[],zX⟩ m l=Fj s ⟨nm,0,f,[],0,[],zX⟩ m l:=by
 unfold KN Fj
 rw[EF,show V2 s=W9 s from funext (KP s)]
theorem SX(s:A5)(x:List UInt8):G5 s [x]=if F0 s x<0 then ([],false)else ([F0 s x],true):=by
 unfold G5 Bo
 rw[List.any_cons,List.any_nil,Bool.or_false]
 by_cases h:F0 s x<0
 ·rw[decide_eq_true h,if_pos rfl,if_pos h]
 ·rw[decide_eq_false h,if_neg (by simp),if_neg h,l8,if_neg h];rfl
theorem Uj(s:A5)(nm:List UInt8)(f:A1){w:List (List UInt8)}(h3:3≤w.length)(hb:B1 w 1=AW):(r9 s ⟨nm,1,f,[],0,[],zX⟩ (w.drop 2)).2=(Ax s w ⟨nm,0,f,[],0,[],zX⟩).2 ∧
  ((Ax s w ⟨nm,0,f,[],0,[],zX⟩).2=true→r9 s ⟨nm,1,f,[],0,[],zX⟩ (w.drop 2)=Ax s w ⟨nm,0,f,[],0,[],zX⟩):=by
 unfold r9 Ax
 rw[if_neg (show ¬(w.length<3∨¬B1 w 1=AW)from fun g=>g.elim (fun g=>by omega) fun g=>g hb)]
 generalize w.drop 2=l
 by_cases h2:2≤l.length∧B1 l (l.length-2)=W7
 ·rw[if_pos h2,if_pos h2]
  have el:l.drop (l.length-1)=[B1 l (l.length-1)]:=by
   rw[List.drop_eq_getElem_cons (by omega),List.drop_eq_nil_of_le (by omega)]
   unfold B1
   rw[List.getD_eq_getElem?_getD,List.getElem?_eq_getElem (by omega),Option.getD_some]
  rw[el,SX]
  by_cases h3:F0 s (B1 l (l.length-1))<0
  ·rw[if_pos h3,if_pos h3,if_pos rfl]
   exact⟨rfl,fun g=>by cases g⟩
  ·rw[if_neg h3,if_neg h3,if_neg (by simp),SW]
   exact⟨rfl,fun _=>rfl⟩
 ·rw[if_neg h2,if_neg h2,SW]
  exact⟨rfl,fun _=>rfl⟩
theorem TW{x y:List UInt8}(h:P0 x):Lib.index (x++D6++y) D6=x.length:=by
 refine Lib.index_first (by rw[List.append_assoc,List.length_append];omega) ?_ (fun j hj=>?_)
 ·unfold Lib.occAt
  rw[List.append_assoc,List.drop_left,List.isPrefixOf_iff_prefix]
  exact List.prefix_append _ _
 ·cases hb:Lib.occAt (x++D6++y) D6 j
  ·rfl
  ·exfalso
   obtain⟨z,h5⟩:∃z,(x++D6++y).drop j=D6++z:=⟨_,KL hb⟩
   rw[List.append_assoc,List.drop_append_of_le_length (by omega)]at h5
   obtain⟨x2,oH⟩:∃x2,x.drop j=32::x2:=by
    cases hc:x.drop j with
    |nil=>have:=congrArg List.length hc;rw[List.length_drop]at this;simp at this;omega
    |cons b r=>rw[hc]at h5;exact⟨r,by rw[(List.cons.inj h5).1]⟩
   rw[oH]at h5
   have e:x2++[32]++(l7++[32]++y)=l7++[32]++z:=by
    have:=(List.cons.inj h5).2
    simpa using this
   have hx:x=x.take j++[32]++x2:=by
    rw[List.append_assoc]
    show x=x.take j++(32::x2)
    rw[←oH,List.take_append_drop]
   have hW:D3 [32] l7=[l7]:=AF (by simp) (fun p hp=>by rw[List.mem_singleton.1 hp];rfl) rfl
   have e2:=congrArg (D3 [32]) e
   rw[Cm,Cm,hW]at e2
   have hm:l7∈D3 [32] x2:=by
    obtain⟨n1,_,_⟩:=s7 32 x2
    cases hc:D3 [32] x2 with
    |nil=>exact absurd hc n1
    |cons p r =>
     rw[hc]at e2
     have:=(List.cons.inj e2).1
     rw[this];simp
   exact h l7 (by rw[hx,Cm];simp[hm]) rfl
theorem PF{t:List UInt8}:∀i:Nat,i≤t.length→Lib.occAt t D6 i=true→∃k:Nat,k≤i∧Lib.occAt t D6 k=true∧Lib.index t D6=k:=by
 intro i
 induction i using Nat.strongRecOn with
 |ind i ih =>
  intro hi h
  by_cases hn:∀j,j<i→Lib.occAt t D6 j=false
  ·exact⟨i,Nat.le_refl _,h,Lib.index_first hi h hn⟩
  ·obtain⟨j,hj⟩:=Classical.not_forall.1 hn
   have qH:j<i:=Decidable.of_not_not fun g=>hj fun g2=>absurd g2 g
   have oY:Lib.occAt t D6 j=true:=by
    cases hb:Lib.occAt t D6 j
    ·exact absurd (fun _=>hb) hj
    ·rfl
   obtain⟨k,k1,k2,k3⟩:=ih j qH (by omega) oY
   exact⟨k,by omega,k2,k3⟩
theorem bb{t a b:List UInt8}(h:t=a++D6++b):Lib.index t D6≤a.length:=by
 have ho:Lib.occAt t D6 a.length=true:=by
  subst h
  unfold Lib.occAt
  rw[List.append_assoc,List.drop_left,List.isPrefixOf_iff_prefix]
  exact List.prefix_append _ _
 obtain⟨k,k1,_,k3⟩:=PF a.length (by rw[h,List.append_assoc,List.length_append];omega) ho
 omega
theorem b7{t:List UInt8}(h:0≤Lib.index t D6):t=t.take (Lib.index t D6).toNat++D6++t.drop ((Lib.index t D6).toNat+7)∧(Lib.index t D6).toNat≤t.length:=by
 by_cases hn:∀j,j≤t.length→Lib.occAt t D6 j=false
 ·rw[Lib.index_none hn]at h;omega
 ·obtain⟨j,hj⟩:=Classical.not_forall.1 hn
  have qH:j≤t.length:=Decidable.of_not_not fun g=>hj fun g2=>absurd g2 g
  have oY:Lib.occAt t D6 j=true:=by
   cases hb:Lib.occAt t D6 j
   ·exact absurd (fun _=>hb) hj
   ·rfl
  obtain⟨k,k1,k2,k3⟩:=PF j qH oY
  rw[k3,Int.toNat_natCast]
  have h5:t.drop k=D6++t.drop (k+7):=KL k2
  refine⟨?_,by omega⟩
  rw[List.append_assoc,←h5,List.take_append_drop]
theorem Uk:∀{ps:List (List UInt8)},ps≠[]→(∀p∈ps,P0 p)→P0 (I8 [32] ps)
 |[],h,_=>absurd rfl h
 |[p],_,h=>h p (by simp)
 |p::x::r,_,h=>by
  rw[k8 _ _ (by simp)]
  exact Fp (h p (by simp)) (Uk (by simp) fun y hy=>h y (by simp[hy]))
theorem Yd(s:A5){A F:List UInt8}(hw:P0 A):F4 (A++D6++F)=A.length∧B7 (A++D6++F)=D3 [32] A∧O5 s (A++D6++F)=K5 s F:=by
 have h1:F4 (A++D6++F)=A.length:=TW hw
 refine⟨h1,?_,?_⟩
 ·unfold B7
  rw[h1,Int.toNat_natCast,List.append_assoc,List.take_left]
 ·unfold O5
  rw[h1,Int.toNat_natCast,←List.drop_drop,List.append_assoc,List.drop_left];rfl
theorem WS(s:A5){w0 F:List UInt8}{w:List (List UInt8)}(h0:w0.all (B3 32)=true)(hw:w≠[])(ha:∀p∈w,p.all (B3 32)=true)(hF:P0 F):
  (w0++[32]++I8 [32] w++D6++F).takeWhile (B3 32)=w0∧(w0++[32]++I8 [32] w++D6++F).dropWhile (B3 32)≠[]∧H7 (w0++[32]++I8 [32] w++D6++F)=(I8 [32] w).length ∧
  D3 [32] (F3 (w0++[32]++I8 [32] w++D6++F))=w∧F3 (w0++[32]++I8 [32] w++D6++F)=I8 [32] w∧W4 s (w0++[32]++I8 [32] w++D6++F)=K5 s F:=by
 have e:w0++[32]++I8 [32] w++D6++F=w0++32::(I8 [32] w++D6++F):=by simp only[List.append_assoc,List.cons_append,List.nil_append]
 obtain⟨t1,t2⟩:=SK (u:=I8 [32] w++D6++F) h0
 rw[e]
 have uk:I0 (w0++32::(I8 [32] w++D6++F))=I8 [32] w++D6++F:=by
  unfold I0
  rw[t2];rfl
 have og:H7 (w0++32::(I8 [32] w++D6++F))=(I8 [32] w).length:=by
  unfold H7
  rw[uk,WR hF]
 have wL:F3 (w0++32::(I8 [32] w++D6++F))=I8 [32] w:=by
  unfold F3
  rw[og,uk,Int.toNat_natCast,List.append_assoc,List.take_left]
 refine⟨t1,by rw[t2];simp,og,by rw[wL];exact AF hw ha rfl,wL,?_⟩
 unfold W4
 rw[og,uk,Int.toNat_natCast,←List.drop_drop,List.append_assoc,List.drop_left]
 rfl
end Go.Proofs.YtkcekccdcpmekaaGreatDoor
