/- Chapter 5: drawn conditions are right. Chapter 5: conditions out of others: what they need, and their truth values. Chapter 5: values that have a value at a level, and truth values from coarse values. Draws: drawn rows fit. -/
import Derived.Test.YtiphlhoclaogjaaGreatDoorSDr8
import Derived.Test.YtiphlhoclaogjaaGreatDoorSC1
import Derived.Test.YtiphlhoclaogjaaGreatDoorSC3
import Derived.Test.YtiphlhoclaogjaaGreatDoorSSx
import Derived.Test.YtiphlhoclaogjaaGreatDoorSB13
set_option linter.unusedVariables false
set_option linter.unnecessarySimpa false
set_option linter.unusedSimpArgs false
set_option maxHeartbeats 64000000
namespace Go.Proofs.YtiphlhoclaogjaaGreatDoor
open Go Go.Av
attribute [local irreducible] C7 B2 D3 C9 DQ D0 C8 St.le A3 B9
set_option maxRecDepth 100000
theorem Ah(s:A4)(c:B1):(K6 s c).length≤s.cols.length:=by
 unfold K6
 split
 ·exact Ag _ _ _
 ·simp
def Z6(f:Nat→Int)(v:Int):List Nat→Int×Bool
 |[]=>(0,false)
 |x::r=>if f x=v then ((x:Int),true)else Z6 f v r
theorem Hl{f:Nat→Int}{v:Int}:∀{l:List Nat},((Z6 f v l).2=true∧∃x∈l,f x=v∧(Z6 f v l).1=x)∨(Z6 f v l=(0,false)∧∀x∈l,f x≠v)
 |[]=>.inr ⟨rfl,fun x h=>by cases h⟩
 |x::r=>by
  unfold Z6
  by_cases e:f x=v
  ·rw[if_pos e];exact .inl ⟨rfl,x,List.mem_cons_self ..,e,rfl⟩
  ·rw[if_neg e]
   rcases Hl (f:=f) (v:=v) (l:=r)with ⟨h1,y,hy,h2,h3⟩|⟨h1,h2⟩
   ·exact .inl ⟨h1,y,List.mem_cons_of_mem _ hy,h2,h3⟩
   ·refine .inr ⟨h1,fun y hy=>?_⟩
    rcases List.mem_cons.1 hy with rfl|hy
    ·exact e
    ·exact h2 y hy
theorem LF{f g:Nat→Int}{v:Int}:∀{l:List Nat},(∀x∈l,f x=g x)→Z6 f v l=Z6 g v l
 |[],_=>rfl
 |x::r,h=>by
  unfold Z6
  rw[h x (by simp),LF fun y hy=>h y (by simp[hy])]
def QN(s:A4)(column level:Int)(x:Nat):Int:=L2 (C2 s (C0 s column)).1 (C2 s (C0 s column)).2 x level
def M2(s:A4)(column level v:Int):Int×Bool :=
 if (C0 s column).kind=3 then (if 0<level∧v=(-1099511627776)then (v,(C0 s column).opt)else ((M0 (C0 s column) level v).1,(M0 (C0 s column) level v).2.2))
 else Z6 (QN s column level) v (F9 s column)
theorem KU{s:A4}(hr:C3 s=0){column:Int}{c:D4}(h1:1≤column)(hc:s.cols[column.toNat]?=some c):(c.kind=2∨c.kind=3)∧(c.kind=3→meaE c=0):=by
 obtain⟨_,_,_,h4,_⟩:=D5 hr
 have h5:=(Y8 (h4 _ _ hc)).2.2.1
 refine⟨?_,fun h=>z6 h5 h⟩
 rcases Kx h5 with h|h
 ·omega
 ·exact h
def M3(col:Int)(pv:List (Pk×Int)):Int×Int:=pv.foldl (fun z q=>if q.1.col=col then (q.1.lev,q.2)else z) (0,0)
theorem Nk(col:Int)(l:List (Pk×Int))(q:Pk×Int):M3 col (l++[q])=if q.1.col=col then (q.1.lev,q.2)else M3 col l:=by
 unfold M3;rw[List.foldl_append];rfl
theorem TR(col:Int):∀(l:List (Pk×Int)),(M3 col l=(0,0)∧∀q∈l,q.1.col≠col)∨∃q∈l,q.1.col=col∧M3 col l=(q.1.lev,q.2):=by
 have key:∀(l:List (Pk×Int)) (z:Int×Int),(l.foldl (fun z q=>if q.1.col=col then (q.1.lev,q.2)else z) z=z∧∀q∈l,q.1.col≠col)∨∃q∈l,q.1.col=col∧l.foldl (fun z q=>if q.1.col=col then (q.1.lev,q.2)else z) z=(q.1.lev,q.2):=by
  intro l
  induction l with
  |nil=>exact fun z=>.inl ⟨rfl,fun q h=>by cases h⟩
  |cons a r ih =>
   intro z
   rw[List.foldl_cons]
   by_cases e:a.1.col=col
   ·rw[if_pos e]
    rcases ih (a.1.lev,a.2)with ⟨h1,h2⟩|⟨q,hq,h1,h2⟩
    ·exact .inr ⟨a,List.mem_cons_self ..,e,h1⟩
    ·exact .inr ⟨q,List.mem_cons_of_mem _ hq,h1,h2⟩
   ·rw[if_neg e]
    rcases ih z with ⟨h1,h2⟩|⟨q,hq,h1,h2⟩
    ·refine .inl ⟨h1,fun q hq=>?_⟩
     rcases List.mem_cons.1 hq with rfl|hq
     ·exact e
     ·exact h2 q hq
    ·exact .inr ⟨q,List.mem_cons_of_mem _ hq,h1,h2⟩
 exact fun l=>key l (0,0)
def AM(s:A4)(pv:List (Pk×Int))(i:Nat):Int:=if i=0∧(M3 i pv=(0,0))then 0 else (M2 s i (M3 i pv).1 (M3 i pv).2).1
def Xq(s:A4)(row:List Int):Prop:=row.length=s.cols.length∧∀(i:Nat) c,s.cols[i]?=some c→o4 s c (row.getD i 0)
theorem Nl{s:A4}(hd:E7 s)(l:List UInt8):∀(n k:Nat) (x:List Int×Nat),k+n=s.cols.length→x.1.length=k→(∀(i:Nat) c,i<k→s.cols[i]?=some c→o4 s c (x.1.getD i 0))→Xq s (rowFrom l s k x n).1
 |0,k,x,hk,hl,h=>by
  refine⟨by show x.1.length=_;omega,fun i c hc=>h i c ?_ hc⟩
  have:=(List.getElem?_eq_some_iff.1 hc).1
  omega
 |n+1,k,x,hk,hl,h=>by
  obtain⟨c0,pH⟩:∃c,s.cols[k]?=some c:=⟨_,List.getElem?_eq_getElem (by omega)⟩
  refine Nl hd l n (k+1) _ (by omega) (by simp[hl]) fun i c hi hc=>?_
  dsimp only
  by_cases e:i<k
  ·have:=h i c e hc
   rw[List.getD_eq_getElem?_getD]at this ⊢
   rw[List.getElem?_append_left (by omega)]
   exact this
  ·obtain rfl:i=k:=by omega
   rw[pH]at hc
   cases hc
   rw[List.getD_eq_getElem?_getD,List.getElem?_append_right (by omega),hl,Nat.sub_self]
   exact WI hd l x.2 pH
theorem WJ{s:A4}(hd:E7 s)(l:List UInt8)(a:Nat):Xq s (k5 l a s).1 :=
 Nl hd l s.cols.length 0 ([],a) (by omega) rfl fun i c hi=>absurd hi (Nat.not_lt_zero _)
theorem o4.hold{s:A4}{c:D4}{v:Int}(h:o4 s c v):BX s c v=true:=by
 unfold BX
 rcases h with ⟨hk,h1,h2⟩|⟨hk,n,rfl,hn⟩|⟨hk,h1⟩
 ·rw[if_pos hk];exact decide_eq_true (by omega)
 ·rw[if_neg (by omega),if_pos hk]
  obtain⟨g1,g2,g3⟩:=On hn
  have:=(He g1 g2).1 (by rw[←Eb ⟨by omega,by omega,g1⟩];simpa using g3)
  rw[this,decide_eq_true (show (0:Int)≤n∧(n:Int)<(C2 s c).2.length by omega)]
  rfl
 ·rw[if_neg (by omega),if_neg (by omega)]
  rcases h1 with h1|h1
  ·rw[decide_eq_true h1];rfl
  ·rw[h1.1,h1.2];simp
theorem WK{s:A4}(hr:C3 s=0){column level:Int}{c:D4}(h1:1≤column)(hc:s.cols[column.toNat]?=some c)(h4:level≤E5 s column)(hk:c.kind=3):level≤c.widths.length:=by
 have lY:=F5 hc
 unfold E5 at h4
 rw[if_neg (by omega),C1 hc,M7,if_neg (by omega)]at h4
 exact h4
theorem JX(s:A4)(hr:C3 s=0)(column level v:Int)(c:D4)(h1:1≤column)(hc:s.cols[column.toNat]?=some c)(h3:0≤level)(h4:level≤E5 s column):A3 Tryz.prog 158 [sA s,.i column,.i level,.i v] (.tup [.i (M2 s column level v).1,.b (M2 s column level v).2]):=by
 obtain⟨hk,hm⟩:=KU hr h1 hc
 unfold M2
 rw[C1 hc]
 by_cases pF:c.kind=3
 ·rw[if_pos pF]
  have mX:=WK hr h1 hc h4 pF
  have sU:=QA c level v (hm pF) h3 mX
  by_cases hmv:0<level∧v=(-1099511627776)
  ·rw[if_pos hmv]
   refine B6 Tryz.func158 68 fun lW E h0=>?_
   clear lW
   repeat'((first|(refine A2 (x:=c) hc (by omega) ?_) |refine S2 ?_|(refine T6 ?_ ?_<;>intro h<;>try exact V1 h)|intro el lU lV|intro el lU|exact T4|refine T5 ?_ ?_|intro ex)<;>try conv=>whnf)
   all_goals first
    |(exfalso;omega)
    |exact I0 rfl rfl rfl
  ·rw[if_neg hmv]
   generalize M0 c level v=S at *
   obtain⟨a,b,ok⟩:=S
   refine B6 Tryz.func158 68 fun lW E h0=>?_
   clear lW
   repeat'((first|(refine A2 (x:=c) hc (by omega) ?_)|refine A1 sU ?_ |refine S2 ?_|(refine T6 ?_ ?_<;>intro h<;>try exact V1 h)|intro el lU lV|intro el lU|exact T4|refine T5 ?_ ?_|intro ex)<;>try conv=>whnf)
   all_goals first
    |(exfalso;omega)
    |exact I0 rfl rfl rfl
 ·rw[if_neg pF]
  have lg:c.kind=2:=by omega
  have hl:=AY.lst hr (List.mem_of_getElem? hc) lg
  obtain⟨lx,mZ⟩:∃l,s.lists[c.lst.toNat]?=some l:=⟨_,List.getElem?_eq_getElem (by omega)⟩
  have mT:chk lx.1 lx.2=0:=(D5 hr).2.2.1 _ (List.mem_of_getElem? mZ)
  have hg:=BF mT
  have sN:=n9 (nm:=lx.1) (cs:=lx.2) (by omega)
  have mA:=AH lx.1 lx.2 (C4 lx.1 lx.2-1)
  have oO:=Du lx.1 lx.2 (by omega)
  have sQ:=Gp lx.1 lx.2 (C4 lx.1 lx.2-1) (by omega)
  have pm:=fun (leaf:Nat)=>KM lx.1 lx.2 leaf level (by omega)
  have e1:F9 s column=K3 lx.1 lx.2 (C4 lx.1 lx.2-1):=by
   unfold F9
   rw[C1 hc,H8 mZ]
  have e2:QN s column level=fun x:Nat=>L2 lx.1 lx.2 x level:=by
   funext x
   unfold QN
   rw[C1 hc,H8 mZ]
  rw[e1,e2]
  generalize K3 lx.1 lx.2 (C4 lx.1 lx.2-1)=L at *
  refine B6 Tryz.func158 68 fun lW E h0=>?_
  clear lW
  repeat'((first|(refine A2 (x:=c) hc (by omega) ?_)|(refine A2 (x:=lx) mZ (by omega) ?_)|refine A1 oO ?_|refine A1 sQ ?_|(refine B3 ?_ ?_;kernel_rfl) |refine S2 ?_|(refine T6 ?_ ?_<;>intro h<;>try exact V1 h)|intro el lU lV|intro el lU|exact T4|refine T5 ?_ ?_|intro ex)<;>try conv=>whnf)
  all_goals first
   |(exfalso;omega)
   |skip
  refine B0 (ι:=Nat) (fun k=>⟨[(2,.i level),(3,.i v),(14,.ref 2 0),(54,.sl 1 (L.map iA)),(55,.i L.length),(56,.i k)],3,[(2,some (.box (AX lx)))]⟩)
   (fun k=>k≤L.length∧Z6 (fun x:Nat=>L2 lx.1 lx.2 x level) v L=Z6 (fun x:Nat=>L2 lx.1 lx.2 x level) v (L.drop k)) (fun k=>L.length-k) 0 ⟨Nat.zero_le _,rfl⟩
   (A6 h0) (fun k hI=>?_)
  obtain⟨nr,hI⟩:=hI
  repeat'((first|refine A1 (pm _) ?_ |refine S2 ?_|(refine T6 ?_ ?_<;>intro h<;>try exact V1 h)|intro el lU lV|intro el lU|exact T4|refine T5 ?_ ?_|intro ex)<;>try conv=>whnf)
  all_goals first
   |exact I0 rfl rfl (by rw[hI,G3 lU,Z6,if_pos h];rfl)
   |exact I0 rfl rfl (by rw[hI,S6 h];rfl)
   |exact⟨k+1,⟨by omega,by rw[hI,G3 lU,Z6,if_neg h]⟩,by omega,A6 h0⟩
theorem Xr{s:A4}{l:List (Pk×Int)}{q:Pk×Int}(h1:1≤q.1.col)(i:Nat):AM s (l++[q]) i=if q.1.col.toNat=i then (M2 s q.1.col q.1.lev q.2).1 else AM s l i:=by
 unfold AM
 rw[Nk]
 by_cases e:q.1.col.toNat=i
 ·have e2:q.1.col=(i:Int):=by omega
  rw[if_pos e2,if_pos e,if_neg (by omega),e2]
 ·rw[if_neg (show ¬q.1.col=(i:Int) by omega),if_neg e]
theorem Ef{f g:Nat→Int}{n:Nat}(h:∀i,i<n→f i=g i):U3 f n=U3 g n:=by
 unfold U3
 refine List.map_congr_left fun i hi=>?_
 rw[h i (List.mem_range.1 hi)]
def s6(s:A4)(pv:List (Pk×Int)):Bool:=pv.all fun q=>(M2 s q.1.col q.1.lev q.2).2
def Lr(s:A4)(c:B1)(pv:List (Pk×Int)):Int:=if s6 s pv=true then DA s c ((List.range s.cols.length).map (AM s pv))else 0
theorem KV{α:Type}{p:α→Bool}{l:List α}{k:Nat}{x:α}(hx:l[k]?=some x)(h:p x=false):l.all p=false:=by
 rw[List.all_eq_false]
 exact⟨x,List.mem_of_getElem? hx,by rw[h];decide⟩
theorem dE{α:Type}{p:α→Bool}{l:List α}{k:Nat}{x:α}(hx:l[k]?=some x)(h:(l.take k).all p=true)(hp:p x=true):(l.take (k+1)).all p=true:=by
 rw[H6 hx,List.all_append,h]
 simp[hp]
theorem z8{s:A4}{l:List Pk}(h:I5 s l=0):∀(k:Nat) p,l[k]?=some p→1≤p.col∧p.col<s.cols.length∧0≤p.lev∧p.lev≤E5 s p.col:=by
 unfold I5 at h
 by_cases hr:C3 s=0
 ·rw[if_pos hr]at h
  intro k p hp
  have:=R6 h k p hp
  rw[Nat.zero_add]at this
  unfold Db at this
  by_cases hq:Cc s p=0
  ·unfold Cc at hq
   split at hq
   ·cases hq
   ·rename_i h1
    split at hq
    ·cases hq
    ·rename_i h2
     unfold E5 at h1 ⊢
     unfold E5 at h2
     split at h1
     ·omega
     ·rename_i h3
      rw[if_neg h3]at h2 ⊢
      omega
  ·rw[if_neg hq]at this
   exact absurd this hq
 ·rw[if_neg hr]at h
  exact absurd h hr
theorem aR(s:A4)(hr:C3 s=0)(c:B1)(mz:X4 s c=0)(picks:List Pk)(values:List Int)(hp:I5 s picks=0)(hl:values.length=picks.length):A3 Tryz.prog 130 [sA s,E0 c,.sl 2 (picks.map B4),.sl 1 (values.map wA)] (.i (Lr s c (picks.zip values))):=by
 have uk:=z8 hp
 have hn:=(D5 hr).2.1
 have hh:=Xm s hr c mz ((List.range s.cols.length).map (AM s (picks.zip values))) (by simp)
 unfold Lr
 have wg:(picks.zip values).length=picks.length:=by rw[List.length_zip];omega
 generalize tG:picks.zip values=pv at *
 have nM:∀(k:Nat) p v,picks[k]?=some p→values[k]?=some v→pv[k]?=some (p,v):=fun k p v h1 h2=>by
  rw[←tG,List.getElem?_zip_eq_some];exact⟨h1,h2⟩
 rw[F7]at *
 refine B6 Tryz.func130 66 fun lW E h0=>?_
 have lX:picks.length≤9223372036854775807:=by have:=(lW (.sl 2 (picks.map B4)) (by simp)).sl;simpa using this
 clear lW
 repeat'((first|refine S2 ?_|(refine T6 ?_ ?_<;>intro h<;>try exact V1 h)|intro el lU lV|intro el lU|exact T4|refine T5 ?_ ?_|intro ex)<;>try conv=>whnf)
 refine B0 (ι:=Nat) (fun i=>⟨[(2,.sl 2 (picks.map B4)),(3,.sl 1 (values.map wA)),(4,.ref 0 0),(5,.ref 1 0),(9,.row 2 0 s.cols.length),(10,.i i)],3,[(0,some (.box (sL s))),(1,some (.box (M8 c))),(2,some (.row 3 1 0 (U3 (fun j=>if j=0 then 0 else if j<i then (M2 s j 0 0).1 else 0) s.cols.length)))]⟩)
  (fun i=>1≤i∧i≤max 1 s.cols.length) (fun i=>s.cols.length-i) 1 ⟨Nat.le_refl _,by omega⟩
  (A9 h0 rfl ⟨rfl,rfl,rfl,rfl,rfl,rfl,trivial⟩ ⟨rfl,rfl,⟨0,congrArg (C6.row 3 1 0) (by rw[Int.toNat_natCast];refine Eq.trans ?_ (QK _).symm;exact Ef fun j hj=>by split;rfl;rw[if_neg (by omega)])⟩,trivial⟩ rfl rfl rfl) (fun i hI=>?_)
 obtain⟨sn,mr⟩:=hI
 by_cases lY:i<s.cols.length
 ·obtain⟨x,hx⟩:∃x,s.cols[i]?=some x:=⟨_,List.getElem?_eq_getElem lY⟩
  have sS:=JX s hr i 0 0 x (by omega) (by simpa using hx) (Int.le_refl _) (Oo hr (by omega) (by omega))
  have lu:(U3 (fun j=>if j=0 then 0 else if j<i then (M2 s j 0 0).1 else 0) s.cols.length)[((((i:Nat):Int).toNat:Nat):Int).toNat]?=some [.i (if i=0 then 0 else if i<i then (M2 s i 0 0).1 else 0)]:=by
   rw[Int.toNat_natCast,Int.toNat_natCast];exact Hj lY
  have mc:(U3 (fun j=>if j=0 then 0 else if j<i then (M2 s j 0 0).1 else 0) s.cols.length).set i [.i (M2 s i 0 0).1]=U3 (fun j=>if j=0 then 0 else if j<i+1 then (M2 s j 0 0).1 else 0) s.cols.length:=by
   rw[Lp]
   refine Ef fun j hj=>?_
   by_cases e:i=j
   ·subst e
    rw[if_pos rfl,if_neg (by omega),if_pos (by omega)]
   ·rw[if_neg e]
    by_cases e0:j=0
    ·rw[if_pos e0,if_pos e0]
    ·rw[if_neg e0,if_neg e0]
     by_cases e1:j<i
     ·rw[if_pos e1,if_pos (by omega)]
     ·rw[if_neg e1,if_neg (by omega)]
  repeat'((first|refine A1 sS ?_ |refine S2 ?_|(refine T6 ?_ ?_<;>intro h<;>try exact V1 h)|intro el lU lV|intro el lU|exact T4|refine T5 ?_ ?_|intro ex)<;>try conv=>whnf)
  all_goals first
   |(exfalso;omega)
   |exact⟨i+1,by omega,by omega,A9 h0 rfl ⟨rfl,rfl,rfl,rfl,rfl,rfl,trivial⟩ ⟨rfl,rfl,⟨_,congrArg (C6.row 3 1 _) mc.symm⟩,trivial⟩ rfl rfl rfl⟩
 ·have vk:U3 (fun j=>if j=0 then 0 else if j<i then (M2 s j 0 0).1 else 0) s.cols.length=U3 (AM s []) s.cols.length:=Ef fun j hj=>by
   unfold AM M3
   by_cases e:j=0
   ·rw[if_pos e,if_pos ⟨e,rfl⟩]
   ·rw[if_neg e,if_pos (show j<i by omega),if_neg (fun hh:j=0∧_=>e hh.1)]
    rfl
  rw[vk]
  repeat'((first|refine S2 ?_|(refine T6 ?_ ?_<;>intro h<;>try exact V1 h)|intro el lU lV|intro el lU|exact T4|refine T5 ?_ ?_|intro ex)<;>try conv=>whnf)
  all_goals first
   |(exfalso;omega)
   |skip
  refine B0 (ι:=Nat) (fun k=>⟨[(3,.sl 1 (values.map wA)),(4,.ref 0 0),(5,.ref 1 0),(9,.row 2 0 s.cols.length),(34,.sl 2 (picks.map B4)),(35,.i picks.length),(36,.i k)],3,[(0,some (.box (sL s))),(1,some (.box (M8 c))),(2,some (.row 3 1 0 (U3 (AM s (pv.take k)) s.cols.length)))]⟩)
   (fun k=>k≤picks.length∧s6 s (pv.take k)=true) (fun k=>picks.length-k) 0 ⟨Nat.zero_le _,rfl⟩
   (A6 h0) (fun k hK=>?_)
  obtain⟨nr,hK⟩:=hK
  by_cases lk:k<picks.length
  ·obtain⟨p,oI⟩:∃p,picks[k]?=some p:=⟨_,List.getElem?_eq_getElem lk⟩
   obtain⟨v,qo⟩:∃v,values[k]?=some v:=⟨_,List.getElem?_eq_getElem (by omega)⟩
   have hq:=nM k p v oI qo
   obtain⟨c1,c2,c3,c4⟩:=uk k p oI
   obtain⟨x,hx⟩:∃x,s.cols[p.col.toNat]?=some x:=⟨_,List.getElem?_eq_getElem (by omega)⟩
   have sS:=JX s hr p.col p.lev v x c1 hx c3 c4
   have mu:=fun i=>Xr (s:=s) (l:=pv.take k) (q:=(p,v)) c1 i
   rw[←H6 hq]at mu
   have nO:s6 s (pv.take (k+1))=(M2 s p.col p.lev v).2:=by
    unfold s6 at hK ⊢
    rw[H6 hq,List.all_append,hK]
    simp
   dsimp only at mu
   have qC:(M2 s p.col p.lev v).2=false→s6 s pv=false:=fun h=>KV hq h
   generalize M2 s p.col p.lev v=S at *
   obtain⟨w,ok⟩:=S
   dsimp only at *
   cases ok
   ·rw[if_neg (by rw[qC rfl];decide)]
    repeat'((first|refine A1 sS ?_|(refine A2 (x:=p) oI (by omega) ?_)|(refine A2 (x:=v) qo (by omega) ?_)|(refine B3 ?_ ?_;kernel_rfl) |refine S2 ?_|(refine T6 ?_ ?_<;>intro h<;>try exact V1 h)|intro el lU lV|intro el lU|exact T4|refine T5 ?_ ?_|intro ex)<;>try conv=>whnf)
    all_goals first
     |(exfalso;omega)
     |exact A0 rfl rfl
   ·have lu:(U3 (AM s (pv.take k)) s.cols.length)[((p.col.toNat:Nat):Int).toNat]?=some [.i (AM s (pv.take k) p.col.toNat)]:=by
     rw[Int.toNat_natCast];exact Hj (by omega)
    repeat'((first|refine A1 sS ?_|(refine A2 (x:=p) oI (by omega) ?_)|(refine A2 (x:=v) qo (by omega) ?_)|(refine B3 ?_ ?_;kernel_rfl) |refine S2 ?_|(refine T6 ?_ ?_<;>intro h<;>try exact V1 h)|intro el lU lV|intro el lU|exact T4|refine T5 ?_ ?_|intro ex)<;>try conv=>whnf)
    all_goals first
     |(exfalso;omega)
     |exact⟨k+1,⟨by omega,nO⟩,by omega,A9 h0 rfl ⟨rfl,rfl,rfl,rfl,rfl,rfl,rfl,trivial⟩ ⟨rfl,rfl,⟨_,congrArg (C6.row 3 1 _) (by refine Eq.trans ?_ Lp.symm;exact Ef fun j hj=>mu j)⟩,trivial⟩ rfl rfl rfl⟩
  ·have oH:pv.take k=pv:=List.take_of_length_le (by omega)
   rw[oH]at hK ⊢
   rw[if_pos hK]
   have hh2:A3 Tryz.prog 182 [sA s,.agg (M8 c),.sl 1 (U3 (AM s pv) s.cols.length)] (.i (DA s c ((List.range s.cols.length).map (AM s pv)))):=by
    have e:U3 (AM s pv) s.cols.length=((List.range s.cols.length).map (AM s pv)).map wA:=by unfold U3;rw[List.map_map];rfl
    rw[e];exact hh
   repeat'((first|refine J1 2 ?_|refine A1 hh2 ?_ |refine S2 ?_|(refine T6 ?_ ?_<;>intro h<;>try exact V1 h)|intro el lU lV|intro el lU|exact T4|refine T5 ?_ ?_|intro ex)<;>try conv=>whnf)
   all_goals first
    |(exfalso;omega)
    |exact A0 rfl rfl
def Xs(s:A4)(c:B1)(picks:List Pk)(values:List Int):Int :=
 if K7 s c=0∧I5 s picks=0∧values.length=picks.length∧q8 picks (K6 s c)=true then Lr s c (picks.zip values)else 0
theorem jO{l:List UInt8}{a:Nat}{s:A4}{k:Int}{c:D4}(lm:C0 s k=c)(h:c.kind=1):w7 l a s k=(1+((B8 l a 60).1:Int),(B8 l a 60).2):=by unfold w7;dsimp only;rw[lm,if_pos h]
theorem jP{l:List UInt8}{a:Nat}{s:A4}{k:Int}{c:D4}(lm:C0 s k=c)(h1:¬c.kind=1)(h:c.kind=2):w7 l a s k=((((F9 s k).getD (B8 l a (F9 s k).length).1 0:Nat):Int),(B8 l a (F9 s k).length).2):=by unfold w7;dsimp only;rw[lm,if_neg h1,if_pos h]
theorem jQ{l:List UInt8}{a:Nat}{s:A4}{k:Int}{c:D4}(lm:C0 s k=c)(h1:¬c.kind=1)(h2:¬c.kind=2)(h:c.opt=true)(h4:((B8 l a 4).1:Int)=3):w7 l a s k=((-1099511627776),(B8 l a 4).2):=by unfold w7;dsimp only;rw[lm,if_neg h1,if_neg h2,if_pos h,if_pos h4]
theorem jR{l:List UInt8}{a:Nat}{s:A4}{k:Int}{c:D4}(lm:C0 s k=c)(h1:¬c.kind=1)(h2:¬c.kind=2)(h:c.opt=true)(h4:¬((B8 l a 4).1:Int)=3):w7 l a s k=(c.low+((B8 l (B8 l a 4).2 (c.high-c.low+1)).1:Int),(B8 l (B8 l a 4).2 (c.high-c.low+1)).2):=by unfold w7;dsimp only;rw[lm,if_neg h1,if_neg h2,if_pos h,if_neg h4]
theorem jS{l:List UInt8}{a:Nat}{s:A4}{k:Int}{c:D4}(lm:C0 s k=c)(h1:¬c.kind=1)(h2:¬c.kind=2)(h:c.opt=false):w7 l a s k=(c.low+((B8 l a (c.high-c.low+1)).1:Int),(B8 l a (c.high-c.low+1)).2):=by unfold w7;dsimp only;rw[lm,if_neg h1,if_neg h2,if_neg (by rw[h];exact Bool.false_ne_true)]
theorem Xt(l:List UInt8)(a:Nat)(s:A4)(k:Nat){c:D4}(hd:E7 s)(hc:s.cols[k]?=some c)(hl:l.length≤400):B9 Tryz.prog 143 1 (R4 l a) [.ref 0 0,sA s,.i k] 1 (R4 l (w7 l a s k).2) (.i (w7 l a s k).1):=by
 have lm:C0 s k=c:=C1 (by simpa using hc)
 have lY:=F5 hc
 have qu:=hd.lens
 have hm:¬c.kind=1→¬c.kind=2→c.low≤c.high∧-4≤c.low∧c.high≤46:=by
  rcases hd.col hc with ⟨_,rfl⟩|⟨_,rfl|rfl⟩|⟨_,nm,hm⟩
  ·intro h;exact absurd rfl h
  ·intro _ h;exact absurd rfl h
  ·intro _ h;exact absurd rfl h
  ·have:=hm.low;have:=hm.high;omega
 have nz:c.kind=2→A3 Tryz.prog 138 [sA s,.i k] (.sl 1 ((F9 s k).map iA)):=fun h=>Af s k (by omega) (by simpa using hc) (hd.lvs hc h).1
 have pp:c.kind=2→(F9 s k).length≤10∧(F9 s k)[(B8 l a (F9 s k).length).1]?=some ((F9 s k).getD (B8 l a (F9 s k).length).1 0):=by
  intro h
  obtain⟨_,_,h1,h2⟩:=hd.lvs hc h
  have hn:=H1 l a (n:=(F9 s k).length) (by omega)
  have:(B8 l a (F9 s k).length).1<(F9 s k).length:=by omega
  rw[List.getD_eq_getElem?_getD,List.getElem?_eq_getElem this]
  exact⟨h2,rfl⟩
 have r1:=S8 l a 1 60 hl (by omega) (by omega) (by omega)
 have r2:=fun (h1:¬c.kind=1) (h2:¬c.kind=2) (b:Nat)=>S8 l b c.low c.high hl (hm h1 h2).1 (by have:=hm h1 h2;omega) (by have:=hm h1 h2;omega)
 have r3:=p7 l a 4 hl (by omega)
 have r4:=H7 l a (F9 s k).length hl
 refine V9 Tryz.func143 44 fun E h0=>?_
 repeat'((first|(refine A2 (x:=c) hc (by omega) ?_)|(refine A2 (pp (by assumption)).2 (by omega) ?_)|refine A1 (nz (by assumption)) ?_|refine⟨G1 [0] [0] r1 rfl rfl rfl rfl rfl ⟨rfl,trivial⟩ rfl rfl rfl rfl rfl ?_⟩|refine⟨G1 [0] [0] (r2 (by assumption) (by assumption) _) rfl rfl rfl rfl rfl ⟨rfl,trivial⟩ rfl rfl rfl rfl rfl ?_⟩|refine⟨G1 [0] [0] r3 rfl rfl rfl rfl rfl ⟨rfl,trivial⟩ rfl rfl rfl rfl rfl ?_⟩|refine⟨G1 [0] [0] r4 rfl rfl rfl rfl rfl ⟨rfl,trivial⟩ rfl rfl rfl rfl rfl ?_⟩ |refine S2 ?_|(refine T6 ?_ ?_<;>intro h<;>try exact V1 h)|intro el lU lV|intro el lU|exact T4|refine T5 ?_ ?_|intro ex)<;>try conv=>whnf)
 all_goals first
  |(rw[jO lm (by assumption)];exact H4 (A6 h0))
  |(rw[jP lm (by assumption) (by assumption)];exact H4 (A6 h0))
  |(rw[jQ lm (by assumption) (by assumption) (by assumption) (by omega)];exact H4 (A6 h0))
  |(rw[jR lm (by assumption) (by assumption) (by assumption) (by omega)];exact H4 (A6 h0))
  |(rw[jS lm (by assumption) (by assumption) (by assumption)];exact H4 (A6 h0))
theorem dF(l:List UInt8)(a:Nat)(s:A4)(hd:E7 s)(hl:l.length≤400):B9 Tryz.prog 91 1 (R4 l a) [.ref 0 0,sA s] 2 [(0,some (.box [.sl 1 (l.map N9),.i (k5 l a s).2])),(1,some (.row 3 1 0 ((k5 l a s).1.map wA)))] (.row 1 0 s.cols.length):=by
 have qu:=hd.lens
 refine V9 Tryz.func91 22 fun E h0=>?_
 repeat'((first|refine S2 ?_|(refine T6 ?_ ?_<;>intro h<;>try exact V1 h)|intro el lU lV|intro el lU|exact T4|refine T5 ?_ ?_|intro ex)<;>try conv=>whnf)
 refine B0 (ι:=Nat×List Int×Nat) (fun x=>⟨[(0,.ref 0 0),(3,.ref 1 0),(5,.row 2 0 x.1),(9,.i s.cols.length),(10,.i x.1)],3,[(0,some (.box [.sl 1 (l.map N9),.i x.2.2])),(1,some (.box (sL s))),(2,some (.row 3 1 0 (x.2.1.map wA)))]⟩)
  (fun x=>x.1≤s.cols.length∧x.2.1.length=x.1∧k5 l a s=rowFrom l s x.1 x.2 (s.cols.length-x.1)) (fun x=>s.cols.length-x.1) (0,[],a) ⟨by dsimp only;omega,rfl,rfl⟩
  (B5 (I9 (d:=5) (e:=3) (sz:=1) rfl) (A9 h0 rfl ⟨rfl,rfl,rfl,rfl,rfl,trivial⟩ ⟨rfl,rfl,⟨0,rfl⟩,trivial⟩ rfl rfl rfl)) (fun x hI=>?_)
 obtain⟨k,out,b⟩:=x
 obtain⟨hk,lX,hI⟩:=hI
 dsimp only at hk lX hI ⊢
 have hv:=fun (h:(k:Int)<s.cols.length)=>Xt l b s k hd (List.getElem?_eq_getElem (show k<s.cols.length by omega)) hl
 repeat'((first|refine⟨G1 [0] [0] (hv (by assumption)) rfl rfl rfl rfl rfl ⟨rfl,trivial⟩ rfl rfl rfl rfl rfl ?_⟩ |refine S2 ?_|(refine T6 ?_ ?_<;>intro h<;>try exact V1 h)|intro el lU lV|intro el lU|exact T4|refine T5 ?_ ?_|intro ex)<;>try conv=>whnf)
 all_goals first
  |exact⟨(k+1,out++[(w7 l b s k).1],(w7 l b s k).2),⟨by dsimp only;omega,by dsimp only;rw[List.length_append,List.length_singleton,lX],by rw[hI,show s.cols.length-k=(s.cols.length-(k+1))+1 by omega];rfl⟩,by dsimp only;omega,A9 h0 rfl ⟨rfl,rfl,rfl,rfl,rfl,trivial⟩ ⟨rfl,rfl,⟨_,congrArg (C6.row 3 1 _) (by rw[List.map_append];rfl)⟩,trivial⟩ rfl rfl rfl⟩
  |(have e:k5 l a s=(out,b):=by rw[hI,show s.cols.length-k=0 by omega];rfl
    have ek:k=s.cols.length:=by omega
    rw[e]
    exact H4 (B5 (BC 1 2 h0 rfl rfl) (A9 h0 rfl ⟨congrArg (fun z:Nat=>some (AV.row 1 0 z)) ek,trivial⟩ ⟨rfl,⟨_,rfl⟩,trivial⟩ rfl rfl rfl)))
end Go.Proofs.YtiphlhoclaogjaaGreatDoor
