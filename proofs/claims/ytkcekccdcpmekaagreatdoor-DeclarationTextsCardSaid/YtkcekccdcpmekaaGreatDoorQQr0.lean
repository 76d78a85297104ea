/- Chapter 8: the texts of questions and declarations. -/
import Derived.Test.YtkcekccdcpmekaaGreatDoorQCm1
import Derived.Test.YtkcekccdcpmekaaGreatDoorQXl
import Derived.Lib.Split
import Derived.Lib.LastIndexLaws
import Derived.Lib.AtoiAll
set_option linter.unusedVariables false
set_option linter.unnecessarySimpa false
set_option linter.unusedSimpArgs false
set_option maxHeartbeats 64000000
namespace Go.Proofs.YtkcekccdcpmekaaGreatDoor
open Go Go.Av
attribute [local irreducible] E8 B5 E5 E1 DQ E7 E9 St.le A4 A9
set_option maxRecDepth 100000
abbrev u9:List UInt8:=[116,97,98,108,101,32]
abbrev Bm:List UInt8:=[32,98,121]
abbrev Rm:List UInt8:=[32,115,117,109,32]
abbrev x6:List UInt8:=[109,111,100,101,108,32]
abbrev W3:List UInt8:=[32,111,102,32]
abbrev CG:List UInt8:=[32,111,110]
abbrev Nm:List UInt8:=[99,117,114,118,101,32]
abbrev Nn:List UInt8:=[32,101,118,101,110,116,32]
abbrev D6:List UInt8:=[32,119,104,101,114,101,32]
abbrev x8:List UInt8:=[112,114,111,106,101,99,116,32]
abbrev Bn:List UInt8:=[115,111,117,114,99,101,32]
abbrev Aw:List UInt8:=[99,111,104,111,114,116,32]
abbrev Rn:List UInt8:=[10,115,111,117,114,99,101,32]
abbrev Ro:List UInt8:=[10,99,111,104,111,114,116,32]
abbrev Fh:List UInt8:=[115,97,109,112,108,101,32]
abbrev DR:List UInt8:=[32,115,101,101,100,32]
def Y3(s:A5)(d:Pk):List UInt8:=[32]++H6 s d.col++[47]++Lib.itoa d.lev
def n8(s:A5)(c:Int):List UInt8:=[32]++H6 s c
def GK(s:A5)(q:E3):List UInt8 :=
 if q.kind=1 then u9++q.name++Bm++q.dims.flatMap (Y3 s)++(if 0≤q.mea then Rm++H6 s q.mea else [])
 else if q.kind=2 then x6++q.name++W3++H6 s q.mea++CG++q.trms.flatMap (n8 s)
 else Nm++q.name++W3++H6 s q.mea++Nn++C6 s q.evt
def Q3(s:A5)(q:E3):List UInt8:=GK s q++D6++C6 s q.flt
def EC(s:A5)(d:G0):List UInt8:=x8++d.prj++Rn++d.src++Ro++C6 s d.coh++[10]
def LS(d:G0):List UInt8:=Fh++Lib.itoa d.part++W3++Lib.itoa d.of++DR++Lib.itoa d.seed++[10]
def O7(s:A5)(l:List E3):List UInt8:=l.flatMap fun q=>Q3 s q++[10]
def ED(s:A5)(d:G0):List UInt8:=EC s d++LS d++O7 s d.qs
def Hx(s:A5)(d:G0):List UInt8×Int:=if j8 s d=0 then (if 20000<(ED s d).length then ([],1)else (ED s d,0))else ([],j8 s d)
structure FB(s:A5)(q:E3):Prop where
 name:D8 q.name=true
 flt:G6 s q.flt=0
 kind:q.kind=1∧(1≤q.dims.length∧q.dims.length≤3∧∀d∈q.dims,UV s d)∧(q.mea=-1∨0≤q.mea∧q.mea<s.cols.length)∧q.trms=[]∧a6 q.evt
  ∨ q.kind=2∧(0≤q.mea∧q.mea<s.cols.length)∧(1≤q.trms.length∧q.trms.length≤3∧∀c∈q.trms,0≤c∧c<s.cols.length)∧q.dims=[]∧a6 q.evt
  ∨ q.kind=3∧(0≤q.mea∧q.mea<s.cols.length)∧G6 s q.evt=0∧q.dims=[]∧q.trms=[]
theorem Rp{s:A5}{c k:Int}(h:W1 s c=k)(hk:¬k=0):0≤c∧c<s.cols.length:=by
 unfold W1 at h
 split at h
 ·omega
 ·omega
theorem jc{s:A5}{c k:Int}(h:u5 s c k=true):0≤c∧c<s.cols.length:=by
 unfold u5 at h
 have:=of_decide_eq_true h
 exact⟨this.1,this.2.1⟩
theorem ah{s:A5}{d:Pk}(h:c8 s d=0):UV s d:=by
 unfold c8 Gv U6 at h
 split at h
 ·split at h
  ·rw[if_pos (show (-1:Int)<0 by omega)]at h;cases h
  ·rename_i hc
   have hx:s.cols[d.col.toNat]?=some (s.cols[d.col.toNat]'(by omega)):=List.getElem?_eq_getElem (by omega)
   split at h
   ·cases h
   ·split at h
    ·cases h
    ·rename_i h1 h2
     refine⟨⟨by omega,by omega⟩,by omega,?_⟩
     have hf:=dn (s:=s) (by assumption) d.col
     unfold U6 at hf
     rw[if_neg hc]at hf
     omega
 ·rename_i h1;exact absurd h h1
theorem KF{s:A5}{q:E3}(h:u6 s q=0):C8 s=0∧FB s q:=by
 unfold u6 at h
 by_cases a1:¬C8 s=0
 ·rw[if_pos a1]at h;exact absurd h a1
 rw[if_neg a1]at h
 by_cases a2:D8 q.name=false
 ·rw[if_pos a2]at h;cases h
 rw[if_neg a2]at h
 by_cases a3:q.kind<1∨3<q.kind
 ·rw[if_pos a3]at h;cases h
 rw[if_neg a3]at h
 by_cases a4:¬G6 s q.flt=0
 ·rw[if_pos a4]at h;exact absurd h a4
 rw[if_neg a4]at h
 refine⟨by omega,by simpa using a2,by omega,?_⟩
 by_cases k1:q.kind=1
 ·rw[if_pos k1]at h
  unfold JC at h
  by_cases b1:¬AB s q.dims=0
  ·rw[if_pos b1]at h;exact absurd h b1
  rw[if_neg b1]at h
  by_cases b2:¬q.mea=-1∧¬W1 s q.mea=3
  ·rw[if_pos b2]at h;cases h
  rw[if_neg b2]at h
  by_cases b3:0<q.trms.length∨¬a6 q.evt
  ·rw[if_pos b3]at h;cases h
  have hd:AB s q.dims=0:=by omega
  have mK:1≤q.dims.length∧q.dims.length≤3:=by
   unfold AB at hd
   split at hd
   ·cases hd
   ·omega
  refine .inl ⟨k1,⟨mK.1,mK.2,fun d uX=>?_⟩,?_,List.eq_nil_of_length_eq_zero (by omega),Decidable.of_not_not fun e=>b3 (.inr e)⟩
  ·obtain⟨i,hi⟩:=List.mem_iff_getElem?.1 uX
   unfold AB at hd
   rw[if_neg (by omega)]at hd
   have:=BI hd i d hi
   rw[Nat.zero_add]at this
   unfold Ar at this
   split at this
   ·rename_i h1;exact absurd this h1
   ·exact ah (by omega)
  ·by_cases hm:q.mea=-1
   ·exact .inl hm
   ·exact .inr (Rp (Decidable.of_not_not fun e=>b2 ⟨hm,e⟩) (by decide))
 ·rw[if_neg k1]at h
  by_cases k2:q.kind=2
  ·rw[if_pos k2]at h
   unfold Ho at h
   by_cases b2:¬W1 s q.mea=3
   ·rw[if_pos b2]at h;cases h
   rw[if_neg b2]at h
   by_cases b1:¬Aa s q.mea q.trms=0
   ·rw[if_pos b1]at h;exact absurd h b1
   rw[if_neg b1]at h
   by_cases b3:0<q.dims.length∨¬a6 q.evt
   ·rw[if_pos b3]at h;cases h
   have hd:Aa s q.mea q.trms=0:=by omega
   have mK:1≤q.trms.length∧q.trms.length≤3:=by
    unfold Aa at hd
    split at hd
    ·cases hd
    ·omega
   refine .inr (.inl ⟨k2,Rp (Decidable.of_not_not b2) (by decide),⟨mK.1,mK.2,fun c hc=>?_⟩,List.eq_nil_of_length_eq_zero (by omega),Decidable.of_not_not fun e=>b3 (.inr e)⟩)
   obtain⟨i,hi⟩:=List.mem_iff_getElem?.1 hc
   unfold Aa at hd
   rw[if_neg (by omega)]at hd
   have:=BI hd i c hi
   unfold As at this
   split at this
   ·cases this
   ·rename_i h1;exact jc (k:=3) (by simpa using h1)
  ·rw[if_neg k2]at h
   unfold JD at h
   by_cases b2:¬W1 s q.mea=3
   ·rw[if_pos b2]at h;cases h
   rw[if_neg b2]at h
   by_cases b3:(C7 s q.mea).low<0
   ·rw[if_pos b3]at h;cases h
   rw[if_neg b3]at h
   by_cases b1:¬G6 s q.evt=0
   ·rw[if_pos b1]at h;exact absurd h b1
   rw[if_neg b1]at h
   by_cases b4:0<q.dims.length∨0<q.trms.length
   ·rw[if_pos b4]at h;cases h
   exact .inr (.inr ⟨by omega,Rp (Decidable.of_not_not b2) (by decide),by omega,List.eq_nil_of_length_eq_zero (by omega),List.eq_nil_of_length_eq_zero (by omega)⟩)
theorem KG{s:A5}(hr:C8 s=0){d:Pk}(h:UV s d):(Y3 s d).length≤41:=by
 have:=af hr h
 unfold P8 at this
 unfold Y3
 simp only[List.length_append,List.length_cons,List.length_nil]at *
 omega
theorem KH{s:A5}(hr:C8 s=0)(c:Int):(n8 s c).length≤17:=by
 have:=j3 hr c
 unfold n8
 simp only[List.length_append,List.length_cons,List.length_nil]
 omega
theorem v6{α:Type}{f:α→List UInt8}{n:Nat}:∀{l:List α},(∀x∈l,(f x).length≤n)→(l.flatMap f).length≤l.length*n
 |[],_=>by simp
 |x::r,h=>by
  have h1:=h x (by simp)
  have h2:=v6 (l:=r) (f:=f) (n:=n) fun y hy=>h y (by simp[hy])
  rw[List.flatMap_cons,List.length_append,List.length_cons,Nat.add_mul]
  omega
theorem eR{s:A5}(hr:C8 s=0){q:E3}(h:FB s q):(GK s q).length≤4100:=by
 have hn:=R4 h.name
 have hm:=j3 hr q.mea
 unfold GK
 rcases h.kind with ⟨k,⟨_,d2,d3⟩,_⟩|⟨k,_,⟨_,d2,_⟩,_⟩|⟨k,_,d2,_⟩
 ·have h1:=v6 (l:=q.dims) (f:=Y3 s) fun d hd=>KG hr (d3 d hd)
  have h2:q.dims.length*41≤3*41:=Nat.mul_le_mul_right _ d2
  rw[if_pos k]
  split<;>simp only[List.length_append,List.length_cons,List.length_nil]<;>omega
 ·have h1:=v6 (l:=q.trms) (f:=n8 s) fun d hd=>KH hr d
  have h2:q.trms.length*17≤3*17:=Nat.mul_le_mul_right _ d2
  rw[if_neg (by omega),if_pos k]
  simp only[List.length_append,List.length_cons,List.length_nil]
  omega
 ·have h1:=k9 d2
  rw[if_neg (by omega),if_neg (by omega)]
  simp only[List.length_append,List.length_cons,List.length_nil]
  omega
theorem LU{s:A5}(hr:C8 s=0){q:E3}(h:FB s q):(Q3 s q).length≤8200:=by
 have h1:=eR hr h
 have h2:=k9 h.flt
 unfold Q3
 simp only[List.length_append,List.length_cons,List.length_nil]
 omega
structure Pj(s:A5)(d:G0):Prop where
 sch:C8 s=0
 prj:D8 d.prj=true
 src:D8 d.src=true
 coh:G6 s d.coh=0
 num:1≤d.of∧d.of≤1000∧1≤d.part∧d.part≤d.of∧0≤d.seed∧d.seed≤1099511627776
 len:1≤d.qs.length∧d.qs.length≤8
 qs:∀(i:Nat) q,d.qs[i]?=some q→u6 s q=0∧((d.qs.take i).any fun x=>decide (x.name=q.name))=false
theorem Fi(s:A5)(d:G0):j8 s d=0↔Pj s d:=by
 unfold j8
 constructor
 ·intro h
  by_cases a1:¬C8 s=0
  ·rw[if_pos a1]at h;exact absurd h a1
  rw[if_neg a1]at h
  by_cases a2:D8 d.prj=false∨D8 d.src=false
  ·rw[if_pos a2]at h;cases h
  rw[if_neg a2]at h
  by_cases a3:¬G6 s d.coh=0
  ·rw[if_pos a3]at h;exact absurd h a3
  rw[if_neg a3]at h
  by_cases a4:d.of<1∨1000<d.of∨d.part<1∨d.of<d.part∨d.seed<0∨1099511627776<d.seed
  ·rw[if_pos a4]at h;cases h
  rw[if_neg a4]at h
  by_cases a5:d.qs.length=0∨8<d.qs.length
  ·rw[if_pos a5]at h;cases h
  rw[if_neg a5]at h
  refine⟨by omega,?_,?_,by omega,by omega,by omega,fun i q hi=>?_⟩
  ·cases hb:D8 d.prj
   ·exact absurd (.inl hb) a2
   ·rfl
  ·cases hb:D8 d.src
   ·exact absurd (.inr hb) a2
   ·rfl
  ·have:=BI h i q hi
   rw[Nat.zero_add]at this
   unfold Dh at this
   split at this
   ·rename_i h1;exact absurd this h1
   ·split at this
    ·cases this
    ·rename_i h1 h2;exact⟨by omega,by simpa using h2⟩
 ·intro h
  have h1:=h.sch
  have h2:=h.coh
  have h3:=h.num
  have h4:=h.len
  rw[if_neg (by omega),if_neg (by rw[h.prj,h.src];simp),if_neg (by omega),if_neg (by omega),if_neg (by omega)]
  refine Au fun i q hi=>?_
  rw[Nat.zero_add]
  obtain⟨q1,q2⟩:=h.qs i q hi
  unfold Dh
  rw[if_neg (by omega),q2,if_neg (by simp)]
theorem Rq{s:A5}{d:G0}(h:Pj s d):(EC s d).length≤4100:=by
 have h1:=R4 h.prj
 have h2:=R4 h.src
 have h3:=k9 h.coh
 unfold EC
 simp only[List.length_append,List.length_cons,List.length_nil]
 omega
theorem LV{s:A5}{d:G0}(h:Pj s d):(LS d).length≤100:=by
 have h0:=h.num
 have h1:=Lib.itoa_length_le d.part (by omega) (by omega)
 have h2:=Lib.itoa_length_le d.of (by omega) (by omega)
 have h3:=Lib.itoa_length_le d.seed (by omega) (by omega)
 unfold LS
 simp only[List.length_append,List.length_cons,List.length_nil]
 omega
theorem Ot{s:A5}(hr:C8 s=0){l:List E3}(hl:l.length≤8)(h:∀q∈l,FB s q):(O7 s l).length≤70000:=by
 unfold O7
 have h1:=v6 (l:=l) (f:=fun q=>Q3 s q++[10]) (n:=8201) fun q hq=>by
  have:=LU hr (h q hq)
  rw[List.length_append,List.length_singleton];omega
 have h2:l.length*8201≤8*8201:=Nat.mul_le_mul_right _ hl
 omega
def BQ(w:List UInt8):List UInt8→Option (List UInt8×List UInt8)
 |[]=>if w.isPrefixOf []=true then some ([],[])else none
 |b::r=>if w.isPrefixOf (b::r)=true then some ([],(b::r).drop w.length)else match BQ w r with
  |none=>none
  |some (x,y)=>some (b::x,y)
def M0(w:List UInt8):Nat→List UInt8→List (List UInt8)
 |0,t=>[t]
 |n+1,t=>match BQ w t with
  |none=>[t]
  |some (x,y)=>x::M0 w n y
def D3(w t:List UInt8):List (List UInt8):=M0 w t.length t
theorem LW{w t:List UInt8}(h:w.isPrefixOf t=true):t=w++t.drop w.length:=by
 have:(A8 w t).2=true:=by unfold A8;rw[if_pos h]
 have e:=N4 this
 unfold A8 at e
 rw[if_pos h]at e
 exact e
theorem Hy{w:List UInt8}:∀{t x y:List UInt8},BQ w t=some (x,y)→t=x++w++y
 |[],x,y,h=>by
  rw[BQ]at h
  split at h
  ·rename_i hp
   cases h
   have:=LW hp
   cases w with
   |nil=>rfl
   |cons a r=>cases this
  ·cases h
 |b::r,x,y,h=>by
  rw[BQ]at h
  split at h
  ·rename_i hp
   cases h
   exact LW hp
  ·cases hc:BQ w r with
   |none=>rw[hc]at h;cases h
   |some z =>
    obtain⟨x',y'⟩:=z
    rw[hc]at h
    cases h
    have:=Hy hc
    rw[this];rfl
theorem Np(w:List UInt8)(n:Nat)(t:List UInt8):M0 w n t≠[]:=by
 cases n with
 |zero=>simp[M0]
 |succ n=>rw[M0];split<;>simp
theorem Hz{w:List UInt8}:∀(n:Nat) (t:List UInt8),I8 w (M0 w n t)=t
 |0,t=>rfl
 |n+1,t=>by
  rw[M0]
  cases h:BQ w t with
  |none=>rfl
  |some z =>
   obtain⟨x,y⟩:=z
   dsimp only
   rw[k8 _ _ (Np w n y),Hz n y]
   exact(Hy h).symm
theorem UW{a b:UInt8}{w r:List UInt8}(h:¬a=b):(a::w).isPrefixOf (b::r)=false:=by
 rw[List.isPrefixOf_cons_cons,beq_false_of_ne h];rfl
theorem Nq{a:UInt8}{w:List UInt8}:∀{t:List UInt8},t.all (B3 a)=true→BQ (a::w) t=none
 |[],_=>rfl
 |b::r,h=>by
  rw[List.all_cons,Bool.and_eq_true]at h
  have hb:¬a=b:=fun e=>by
   have h1:=h.1
   subst e
   unfold B3 at h1
   simp at h1
  rw[BQ,UW hb,if_neg (by simp),Nq h.2]
theorem IA{a:UInt8}{w y:List UInt8}:∀{x:List UInt8},x.all (B3 a)=true→BQ (a::w) (x++((a::w)++y))=some (x,y)
 |[],_=>by
  have hp:(a::w).isPrefixOf ((a::w)++y)=true:=by
   have:=M5 (a::w) y
   unfold A8 at this
   split at this
   ·assumption
   ·exact absurd (Prod.mk.inj this).2 (by decide)
  have nZ:(a::w).isPrefixOf (a::(w++y))=true:=hp
  rw[List.nil_append]
  show BQ (a::w) (a::(w++y))=_
  rw[BQ,if_pos nZ]
  show some ([],List.drop (a::w).length ((a::w)++y))=_
  rw[List.drop_left]
 |b::r,h=>by
  rw[List.all_cons,Bool.and_eq_true]at h
  have hb:¬a=b:=fun e=>by
   have h1:=h.1
   subst e
   unfold B3 at h1
   simp at h1
  rw[List.cons_append,BQ,UW hb,if_neg (by simp),IA h.2]
theorem YM{a:UInt8}{w:List UInt8}:∀(ps:List (List UInt8)) (n:Nat),ps≠[]→(∀p∈ps,p.all (B3 a)=true)→ps.length≤n+1→M0 (a::w) n (I8 (a::w) ps)=ps
 |[],n,h,_,_=>absurd rfl h
 |[p],n,_,h,_=>by
  cases n with
  |zero=>rfl
  |succ n=>rw[M0,I8,Nq (h p (by simp))]
 |p::q::r,0,_,_,hn=>by simp at hn
 |p::q::r,n+1,_,h,hn=>by
  rw[I8,List.append_assoc,M0,IA (h p (by simp))]
  dsimp only
  rw[YM (q::r) n (by simp) (fun x hx=>h x (by simp only[List.mem_cons]at hx ⊢;exact .inr hx)) (by simpa using hn)]
theorem eS{a:UInt8}{w:List UInt8}{ps:List (List UInt8)}(hp:ps≠[])(h:∀p∈ps,p.all (B3 a)=true):D3 (a::w) (I8 (a::w) ps)=ps :=
 YM ps _ hp h (YL _ (by simp) ps)
theorem CC(w:List UInt8):∀t:List UInt8,BQ w t=if Lib.index t w=-1 then none else some (t.take (Lib.index t w).toNat,t.drop ((Lib.index t w).toNat+w.length))
 |[]=>by
  cases w with
  |nil=>rfl
  |cons a r=>rfl
 |b::r=>by
  rw[BQ,Lib.index]
  by_cases hp:w.isPrefixOf (b::r)=true
  ·rw[if_pos hp,if_pos hp,if_neg (by decide)]
   show _=some (List.take 0 _,List.drop (0+w.length) _)
   rw[Nat.zero_add];rfl
  ·rw[if_neg hp,if_neg hp,CC w r]
   by_cases hi:Lib.index r w=-1
   ·rw[if_pos hi,if_pos (beq_iff_eq.2 hi),if_pos rfl]
   ·have mw:=Lib.index_ge r w
    rw[if_neg hi,if_neg (fun e=>hi (beq_iff_eq.1 e)),if_neg (by omega)]
    dsimp only
    rw[show (Lib.index r w+1).toNat=(Lib.index r w).toNat+1 by omega,List.take_succ_cons,show (Lib.index r w).toNat+1+w.length=(Lib.index r w).toNat+w.length+1 by omega,List.drop_succ_cons]
theorem JV(w:List UInt8):∀(k:Nat) (t:List UInt8),Lib.splitK w 0 k t=M0 w k t
 |0,_=>rfl
 |k+1,t=>by
  rw[Lib.splitK,M0,CC]
  by_cases hi:Lib.index t w=-1
  ·rw[if_pos (beq_iff_eq.2 hi),if_pos hi]
  ·rw[if_neg (fun e=>hi (beq_iff_eq.1 e)),if_neg hi]
   dsimp only
   rw[Nat.add_zero,JV w k]
theorem FC{w:List UInt8}(hw:w≠[]):∀(n:Nat) (t:List UInt8),Lib.count t w≤n→M0 w n t=M0 w (Lib.count t w) t
 |0,t,h=>by rw[Nat.le_zero.1 h]
 |n+1,t,h=>by
  by_cases hi:Lib.index t w=-1
  ·rw[Lib.count_miss hi,M0,M0,CC,if_pos hi]
  ·have mw:=Lib.index_ge t w
   obtain⟨i,he⟩:∃i:Nat,Lib.index t w=i:=⟨(Lib.index t w).toNat,by omega⟩
   have hc:=Lib.count_hit hw he
   rw[hc,Nat.add_comm 1,M0,M0,CC,if_neg hi,he]
   dsimp only
   rw[Int.toNat_natCast,FC hw n _ (by omega)]
theorem JW{w:List UInt8}(hw:w≠[]):∀(n:Nat) (t:List UInt8),t.length≤n→Lib.count t w≤t.length
 |0,t,ht=>by
  have:t=[]:=List.eq_nil_of_length_eq_zero (by omega)
  subst this
  rw[Lib.count_miss]
  ·exact Nat.le_refl _
  ·cases w with
   |nil=>exact absurd rfl hw
   |cons a r=>rfl
 |n+1,t,ht=>by
  by_cases hi:Lib.index t w=-1
  ·rw[Lib.count_miss hi];exact Nat.zero_le _
  ·have mw:=Lib.index_ge t w
   obtain⟨i,he⟩:∃i:Nat,Lib.index t w=i:=⟨(Lib.index t w).toNat,by omega⟩
   have hr:=Lib.index_room t w (by omega)
   have lX:1≤w.length:=List.length_pos_iff.2 hw
   have:=JW hw n (t.drop (i+w.length)) (by rw[List.length_drop];omega)
   rw[Lib.count_hit hw he]
   rw[List.length_drop]at this
   omega
theorem eT{w:List UInt8}(hw:w≠[])(t:List UInt8):Lib.split t w=D3 w t:=by
 unfold Lib.split D3
 rw[JV,FC hw t.length t (JW hw _ t (Nat.le_refl _))]
theorem aj{w:List UInt8}(hw:w≠[])(n:Nat)(t:List UInt8):M0 w (min n (t.length+1)-1) t=M0 w (n-1) t:=by
 by_cases h:n≤t.length+1
 ·rw[Nat.min_eq_left h]
 ·rw[Nat.min_eq_right (by omega),Nat.add_sub_cancel]
  have hc:=JW hw _ t (Nat.le_refl _)
  rw[FC hw t.length t hc,FC hw (n-1) t (by omega)]
theorem l6(w:List UInt8):∀(n:Nat) (t:List UInt8),(M0 w n t).length≤n+1
 |0,_=>Nat.le_refl _
 |n+1,t=>by
  rw[M0]
  split
  ·simp
  ·have:=l6 w n (by assumption)
   rename_i x y _
   have:=l6 w n y
   rw[List.length_cons];omega
theorem UX{c:UInt8}:∀(n:Nat) (t:List UInt8),t.length≤n→∀p∈M0 [c] n t,p.all (B3 c)=true
 |0,t,h,p,hp=>by
  have:t=[]:=List.eq_nil_of_length_eq_zero (by omega)
  subst this
  rw[M0,List.mem_singleton]at hp
  subst hp;rfl
 |n+1,t,h,p,hp=>by
  rw[M0]at hp
  cases hc:BQ [c] t with
  |none =>
   rw[hc]at hp
   dsimp only at hp
   rw[List.mem_singleton]at hp
   subst hp
   rw[List.all_eq_true]
   intro b hb
   by_cases hbc:b=c
   ·exfalso
    subst hbc
    obtain⟨x,y,rfl⟩:=List.append_of_mem hb
    rw[CC]at hc
    split at hc
    ·rename_i hi
     rcases Lib.index_spec (x++b::y) [b]with ⟨_,h2⟩|⟨i,h1,_⟩
     ·have:=h2 x.length (by simp)
      unfold Lib.occAt at this
      rw[List.drop_left]at this
      simp at this
     ·omega
    ·cases hc
   ·unfold B3;rw[decide_eq_false hbc];rfl
  |some z =>
   obtain⟨x,y⟩:=z
   rw[hc]at hp
   dsimp only at hp
   have rr:=Hy hc
   have kf:t.length=x.length+1+y.length:=by rw[rr];simp only[List.length_append,List.length_singleton]
   rcases List.mem_cons.1 hp with rfl|hp
   ·rw[CC]at hc
    split at hc
    ·cases hc
    ·rename_i hi
     cases hc
     rw[List.all_eq_true]
     intro b hb
     by_cases hbc:b=c
     ·exfalso
      subst hbc
      rcases Lib.index_spec t [b]with ⟨h1,_⟩|⟨i,h1,h2,h3,h4⟩
      ·exact hi h1
      ·rw[h1,Int.toNat_natCast]at hb
       obtain⟨j,hj⟩:=List.mem_iff_getElem?.1 hb
       have uH:=(List.getElem?_eq_some_iff.1 hj).1
       rw[List.length_take]at uH
       have h5:=h4 j (by omega)
       rw[List.getElem?_take,if_pos (by omega)]at hj
       unfold Lib.occAt at h5
       rw[O6 hj]at h5
       simp at h5
     ·unfold B3;rw[decide_eq_false hbc];rfl
   ·exact UX n y (by omega) p hp
abbrev l7:List UInt8:=[119,104,101,114,101]
abbrev N8:List UInt8:=[111,102]
abbrev DS:List UInt8:=[111,110]
abbrev AW:List UInt8:=[98,121]
abbrev W7:List UInt8:=[115,117,109]
abbrev GL:List UInt8:=[115,101,101,100]
abbrev X6:List UInt8:=[101,118,101,110,116]
abbrev AP:List UInt8:=[116,97,98,108,101]
abbrev W8:List UInt8:=[109,111,100,101,108]
abbrev X7:List UInt8:=[99,117,114,118,101]
abbrev Rr:List UInt8:=[112,114,111,106,101,99,116]
abbrev Rs:List UInt8:=[115,111,117,114,99,101]
abbrev JX:List UInt8:=[115,97,109,112,108,101]
def L3(z:List UInt8):Int×Bool:=match Lib.atoiAll z with
 |.ok n=>(n,decide (z.length≤15∧0≤n∧Lib.itoa n=z))
 |Lib.NumEnd.syntax=>(0,false)
 |.range=>(Lib.atoiSat z,false)
def O4(w:List UInt8):Bool:=decide (¬w=[]∧¬w=l7)
abbrev B1(ws:List (List UInt8))(i:Nat):List UInt8:=ws.getD i []
def LX(d:G0)(w:List (List UInt8)):G0×Bool :=
 if ¬w.length=6∨¬B1 w 2=N8∨¬B1 w 4=GL then (d,false)
 else (⟨d.prj,d.src,d.coh,(L3 (B1 w 1)).1,(L3 (B1 w 3)).1,(L3 (B1 w 5)).1,d.qs⟩,(L3 (B1 w 1)).2 && (L3 (B1 w 3)).2 && (L3 (B1 w 5)).2)
def R5(s:A5)(d:G0)(n:Int)(t:List UInt8):G0×Bool :=
 if n=1∨n=2 then
  if ¬(D3 [32] t).length=2∨O4 (B1 (D3 [32] t) 1)=false then (d,false)
  else if n=1 then (⟨B1 (D3 [32] t) 1,d.src,d.coh,d.part,d.of,d.seed,d.qs⟩,decide (B1 (D3 [32] t) 0=Rr))
  else (⟨d.prj,B1 (D3 [32] t) 1,d.coh,d.part,d.of,d.seed,d.qs⟩,decide (B1 (D3 [32] t) 0=Rs))
 else if n=3 then
  if (A8 Aw t).2=false then (d,false)
  else (⟨d.prj,d.src,(K5 s (A8 Aw t).1).1,d.part,d.of,d.seed,d.qs⟩,decide ((K5 s (A8 Aw t).1).2=0))
 else if B1 (D3 [32] t) 0=JX then LX d (D3 [32] t)else (d,false)
def l8(s:A5):List (List UInt8)→List Int
 |[]=>[]
 |w::r=>if F0 s w<0 then []else F0 s w::l8 s r
def Bo(s:A5)(l:List (List UInt8)):Bool:=l.any fun w=>decide (F0 s w<0)
def G5(s:A5)(l:List (List UInt8)):List Int×Bool:=if Bo s l=true then ([],false)else (l8 s l,decide (0<l.length))
def JY(s:A5)(w:List UInt8):Pk:=⟨F0 s (w.takeWhile (B3 47)),(L3 ((w.dropWhile (B3 47)).drop 1)).1⟩
def W9(s:A5)(w:List UInt8):Bool:=decide (F0 s (w.takeWhile (B3 47))<0) || !(L3 ((w.dropWhile (B3 47)).drop 1)).2
def j4(s:A5):List (List UInt8)→List Pk
 |[]=>[]
 |w::r=>if W9 s w=true then []else JY s w::j4 s r
def Fj(s:A5)(q:E3)(m:Int)(l:List (List UInt8)):E3×Bool:=(⟨q.name,1,q.flt,j4 s l,m,q.trms,q.evt⟩,decide (1≤l.length∧l.length≤3) && !(l.any (W9 s)))
def Ax(s:A5)(w:List (List UInt8))(q:E3):E3×Bool :=
 if w.length<3∨¬B1 w 1=AW then (⟨q.name,1,q.flt,q.dims,-1,q.trms,q.evt⟩,false)
 else if 2≤(w.drop 2).length∧B1 (w.drop 2) ((w.drop 2).length-2)=W7 then
  if (G5 s ((w.drop 2).drop ((w.drop 2).length-1))).2=false then (⟨q.name,1,q.flt,q.dims,-1,q.trms,q.evt⟩,false)
  else Fj s q ((G5 s ((w.drop 2).drop ((w.drop 2).length-1))).1.getD 0 0) ((w.drop 2).take ((w.drop 2).length-2))
 else Fj s q (-1) (w.drop 2)
def DT(s:A5)(w:List (List UInt8))(q:E3):E3×Bool :=
 if w.length<5∨¬B1 w 1=N8∨¬B1 w 3=DS then (⟨q.name,2,q.flt,q.dims,q.mea,q.trms,q.evt⟩,false)
 else if (G5 s ((w.take 3).drop 2)).2=false∨(G5 s (w.drop 4)).2=false∨3<(G5 s (w.drop 4)).1.length then (⟨q.name,2,q.flt,q.dims,q.mea,q.trms,q.evt⟩,false)
 else (⟨q.name,2,q.flt,q.dims,(G5 s ((w.take 3).drop 2)).1.getD 0 0,(G5 s (w.drop 4)).1,q.evt⟩,true)
def DU(s:A5)(t:List UInt8)(q:E3):E3×Bool :=
 if ¬(M0 [32] 4 t).length=5∨¬B1 (M0 [32] 4 t) 1=N8∨¬B1 (M0 [32] 4 t) 3=X6 then (⟨q.name,3,q.flt,q.dims,q.mea,q.trms,q.evt⟩,false)
 else if (G5 s (((M0 [32] 4 t).take 3).drop 2)).2=false then (⟨q.name,3,q.flt,q.dims,q.mea,q.trms,q.evt⟩,false)
 else (⟨q.name,3,q.flt,q.dims,(G5 s (((M0 [32] 4 t).take 3).drop 2)).1.getD 0 0,q.trms,(K5 s (B1 (M0 [32] 4 t) 4)).1⟩,decide ((K5 s (B1 (M0 [32] 4 t) 4)).2=0))
def I0(t:List UInt8):List UInt8:=(t.dropWhile (B3 32)).drop 1
def H7(t:List UInt8):Int:=Lib.lastIndex (I0 t) D6
def F3(t:List UInt8):List UInt8:=(I0 t).take (H7 t).toNat
def W4(s:A5)(t:List UInt8):A1×Int:=K5 s ((I0 t).drop ((H7 t).toNat+7))
def Eb(s:A5)(t:List UInt8):E3:=⟨B1 (D3 [32] (F3 t)) 0,0,(W4 s t).1,[],0,[],zX⟩
def CK(s:A5)(t:List UInt8):E3×Bool :=
 if t.takeWhile (B3 32)=AP then Ax s (D3 [32] (F3 t)) (Eb s t)
 else if t.takeWhile (B3 32)=W8 then DT s (D3 [32] (F3 t)) (Eb s t)
 else if t.takeWhile (B3 32)=X7 then DU s (F3 t) (Eb s t)
 else (Eb s t,false)
def Fk(s:A5)(d:G0)(t:List UInt8):G0×Bool :=
 if t.dropWhile (B3 32)=[]∨H7 t<0 then (d,false)
 else if ¬(W4 s t).2=0∨O4 (B1 (D3 [32] (F3 t)) 0)=false then (d,false)
 else (⟨d.prj,d.src,d.coh,d.part,d.of,d.seed,d.qs++[(CK s t).1]⟩,(CK s t).2)
def Fl(s:A5)(d:G0)(n:Nat)(t:List UInt8):G0×Bool:=if n≤4 then R5 s d n t else Fk s d t
def zD:G0:=⟨[],[],zX,0,0,0,[]⟩
def LY(s:A5):Nat→G0→Nat→List UInt8→G0×Int×Int
 |0,_,n,_=>(zD,n,11)
 |f+1,d,n,t =>
  if t=[]then (if n≤4 then (zD,n,11)else if j8 s d=0 then (d,0,0)else (zD,0,j8 s d))
  else if t.dropWhile (B3 10)=[]∨(Fl s d n (t.takeWhile (B3 10))).2=false then (zD,n,11)
  else LY s f (Fl s d n (t.takeWhile (B3 10))).1 (n+1) ((t.dropWhile (B3 10)).drop 1)
def JZ(s:A5)(t:List UInt8):G0×Int×Int :=
 if ¬C8 s=0 then (zD,0,C8 s)else if 20000<t.length then (zD,0,1)else LY s (t.length+1) zD 1 t
end Go.Proofs.YtkcekccdcpmekaaGreatDoor
