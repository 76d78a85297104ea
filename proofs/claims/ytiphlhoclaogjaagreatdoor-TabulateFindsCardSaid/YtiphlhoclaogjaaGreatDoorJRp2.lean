/- Chapter 5: the program's truth values from coarse values. -/
import Derived.Test.YtiphlhoclaogjaaGreatDoorJC3
import Derived.Test.YtiphlhoclaogjaaGreatDoorJD2
import Derived.Test.YtiphlhoclaogjaaGreatDoorJB13
import Derived.Test.YtiphlhoclaogjaaGreatDoorJSx
import Derived.Test.YtiphlhoclaogjaaGreatDoorJAvTy
import Derived.Test.YtiphlhoclaogjaaGreatDoorJE3
import Derived.Test.YtiphlhoclaogjaaGreatDoorJB12
import Derived.Lib.ItoaNum
import Derived.Lib.AtoiAll
import Derived.Shelf.LaysM
import Derived.Shelf.Strconv.Itoa3
import Derived.Test.YtiphlhoclaogjaaGreatDoorProg
import Derived.Lib.AppendIntMem
import Derived.Lib.AtoiErrMem
import Derived.Lib.AtoiAllCases
import Derived.Lib.ItoaLen
set_option linter.unusedVariables false
set_option linter.unnecessarySimpa false
set_option linter.unusedSimpArgs false
set_option maxHeartbeats 64000000
namespace Go.Proofs.YtiphlhoclaogjaaGreatDoor
open Go Go.Av
attribute [local irreducible] C9 B3 C8 D1 DQ D0 C7 St.le A3 B8
set_option maxRecDepth 100000
theorem XA{s:A4}(hr:C3 s=0){column level:Int}{c:D3}(h1:1≤column)(hc:s.cols[column.toNat]?=some c)(h4:level≤E6 s column)(hk:c.kind=3):level≤c.widths.length:=by
 have nN:=E9 hc
 unfold E6 at h4
 rw[if_neg (by omega),B9 hc,M1,if_neg (by omega)]at h4
 exact h4
theorem KE(s:A4)(hr:C3 s=0)(column level v:Int)(c:D3)(h1:1≤column)(hc:s.cols[column.toNat]?=some c)(h3:0≤level)(h4:level≤E6 s column):A3 Tryz.prog 158 [sA s,.i column,.i level,.i v] (.tup [.i (M4 s column level v).1,.b (M4 s column level v).2]):=by
 obtain⟨hk,hm⟩:=LC hr h1 hc
 unfold M4
 rw[B9 hc]
 by_cases qI:c.kind=3
 ·rw[if_pos qI]
  have oW:=XA hr h1 hc h4 qI
  have un:=Qr c level v (hm qI) h3 oW
  by_cases hmv:0<level∧v=(-1099511627776)
  ·rw[if_pos hmv]
   refine B5 Tryz.func158 68 fun nL E h0=>?_
   clear nL
   repeat'((first|(refine A2 (x:=c) hc (by omega) ?_) |refine S2 ?_|(refine T6 ?_ ?_<;>intro h<;>try exact V1 h)|intro el nJ nK|intro el nJ|exact T4|refine T5 ?_ ?_|intro ex)<;>try conv=>whnf)
   all_goals first
    |(exfalso;omega)
    |exact I5 rfl rfl rfl
  ·rw[if_neg hmv]
   generalize M2 c level v=S at *
   obtain⟨a,b,ok⟩:=S
   refine B5 Tryz.func158 68 fun nL E h0=>?_
   clear nL
   repeat'((first|(refine A2 (x:=c) hc (by omega) ?_)|refine A0 un ?_ |refine S2 ?_|(refine T6 ?_ ?_<;>intro h<;>try exact V1 h)|intro el nJ nK|intro el nJ|exact T4|refine T5 ?_ ?_|intro ex)<;>try conv=>whnf)
   all_goals first
    |(exfalso;omega)
    |exact I5 rfl rfl rfl
 ·rw[if_neg qI]
  have nX:c.kind=2:=by omega
  have hl:=At.lst hr (List.mem_of_getElem? hc) nX
  obtain⟨lx,oD⟩:∃l,s.lists[c.lst.toNat]?=some l:=⟨_,List.getElem?_eq_getElem (by omega)⟩
  have oO:chk lx.1 lx.2=0:=(D2 hr).2.2.1 _ (List.mem_of_getElem? oD)
  have hg:=Bi oO
  have ue:=u4 (nm:=lx.1) (cs:=lx.2) (by omega)
  have np:=Ah lx.1 lx.2 (C5 lx.1 lx.2-1)
  have qP:=EU lx.1 lx.2 (by omega)
  have uh:=Hb lx.1 lx.2 (C5 lx.1 lx.2-1) (by omega)
  have sF:=fun (leaf:Nat)=>Kt lx.1 lx.2 leaf level (by omega)
  have e1:F9 s column=H1 lx.1 lx.2 (C5 lx.1 lx.2-1):=by
   unfold F9
   rw[B9 hc,H5 oD]
  have e2:RE s column level=fun x:Nat=>L3 lx.1 lx.2 x level:=by
   funext x
   unfold RE
   rw[B9 hc,H5 oD]
  rw[e1,e2]
  generalize H1 lx.1 lx.2 (C5 lx.1 lx.2-1)=L at *
  refine B5 Tryz.func158 68 fun nL E h0=>?_
  clear nL
  repeat'((first|(refine A2 (x:=c) hc (by omega) ?_)|(refine A2 (x:=lx) oD (by omega) ?_)|refine A0 qP ?_|refine A0 uh ?_|(refine A9 ?_ ?_;kernel_rfl) |refine S2 ?_|(refine T6 ?_ ?_<;>intro h<;>try exact V1 h)|intro el nJ nK|intro el nJ|exact T4|refine T5 ?_ ?_|intro ex)<;>try conv=>whnf)
  all_goals first
   |(exfalso;omega)
   |skip
  refine B0 (ι:=Nat) (fun k=>⟨[(2,.i level),(3,.i v),(14,.ref 2 0),(54,.sl 1 (L.map iA)),(55,.i L.length),(56,.i k)],3,[(2,some (.box (As lx)))]⟩)
   (fun k=>k≤L.length∧j8 (fun x:Nat=>L3 lx.1 lx.2 x level) v L=j8 (fun x:Nat=>L3 lx.1 lx.2 x level) v (L.drop k)) (fun k=>L.length-k) 0 ⟨Nat.zero_le _,rfl⟩
   (A6 h0) (fun k hI=>?_)
  obtain⟨pd,hI⟩:=hI
  repeat'((first|refine A0 (sF _) ?_ |refine S2 ?_|(refine T6 ?_ ?_<;>intro h<;>try exact V1 h)|intro el nJ nK|intro el nJ|exact T4|refine T5 ?_ ?_|intro ex)<;>try conv=>whnf)
  all_goals first
   |exact I5 rfl rfl (by rw[hI,F7 nJ,j8,if_pos h];rfl)
   |exact I5 rfl rfl (by rw[hI,T8 h];rfl)
   |exact⟨k+1,⟨by omega,by rw[hI,F7 nJ,j8,if_neg h]⟩,by omega,A6 h0⟩
theorem Yh{s:A4}{l:List (Pk×Int)}{q:Pk×Int}(h1:1≤q.1.col)(i:Nat):Ak s (l++[q]) i=if q.1.col.toNat=i then (M4 s q.1.col q.1.lev q.2).1 else Ak s l i:=by
 unfold Ak
 rw[OW]
 by_cases e:q.1.col.toNat=i
 ·have e2:q.1.col=(i:Int):=by omega
  rw[if_pos e2,if_pos e,if_neg (by omega),e2]
 ·rw[if_neg (show ¬q.1.col=(i:Int) by omega),if_neg e]
theorem FV{f g:Nat→Int}{n:Nat}(h:∀i,i<n→f i=g i):U8 f n=U8 g n:=by
 unfold U8
 refine List.map_congr_left fun i hi=>?_
 rw[h i (List.mem_range.1 hi)]
def AA(s:A4)(pv:List (Pk×Int)):Bool:=pv.all fun q=>(M4 s q.1.col q.1.lev q.2).2
def Mf(s:A4)(c:B7)(pv:List (Pk×Int)):Int:=if AA s pv=true then Dd s c ((List.range s.cols.length).map (Ak s pv))else 0
theorem LD{α:Type}{p:α→Bool}{l:List α}{k:Nat}{x:α}(hx:l[k]?=some x)(h:p x=false):l.all p=false:=by
 rw[List.all_eq_false]
 exact⟨x,List.mem_of_getElem? hx,by rw[h];decide⟩
theorem eL{α:Type}{p:α→Bool}{l:List α}{k:Nat}{x:α}(hx:l[k]?=some x)(h:(l.take k).all p=true)(hp:p x=true):(l.take (k+1)).all p=true:=by
 rw[F1 hx,List.all_append,h]
 simp[hp]
theorem Aa{s:A4}{l:List Pk}(h:I7 s l=0):∀(k:Nat) p,l[k]?=some p→1≤p.col∧p.col<s.cols.length∧0≤p.lev∧p.lev≤E6 s p.col:=by
 unfold I7 at h
 by_cases hr:C3 s=0
 ·rw[if_pos hr]at h
  intro k p hp
  have:=P2 h k p hp
  rw[Nat.zero_add]at this
  unfold ED at this
  by_cases hq:CV s p=0
  ·unfold CV at hq
   split at hq
   ·cases hq
   ·rename_i h1
    split at hq
    ·cases hq
    ·rename_i h2
     unfold E6 at h1 ⊢
     unfold E6 at h2
     split at h1
     ·omega
     ·rename_i h3
      rw[if_neg h3]at h2 ⊢
      omega
  ·rw[if_neg hq]at this
   exact absurd this hq
 ·rw[if_neg hr]at h
  exact absurd h hr
theorem bT(s:A4)(hr:C3 s=0)(c:B7)(oN:a6 s c=0)(picks:List Pk)(values:List Int)(hp:I7 s picks=0)(hl:values.length=picks.length):A3 Tryz.prog 130 [sA s,D5 c,.sl 2 (picks.map A8),.sl 1 (values.map wA)] (.i (Mf s c (picks.zip values))):=by
 have ww:=Aa hp
 have hn:=(D2 hr).2.1
 have hh:=Yd s hr c oN ((List.range s.cols.length).map (Ak s (picks.zip values))) (by simp)
 unfold Mf
 have wh:(picks.zip values).length=picks.length:=by rw[List.length_zip];omega
 generalize tE:picks.zip values=pv at *
 have pI:∀(k:Nat) p v,picks[k]?=some p→values[k]?=some v→pv[k]?=some (p,v):=fun k p v h1 h2=>by
  rw[←tE,List.getElem?_zip_eq_some];exact⟨h1,h2⟩
 rw[F8]at *
 refine B5 Tryz.func130 66 fun nL E h0=>?_
 have nM:picks.length≤9223372036854775807:=by have:=(nL (.sl 2 (picks.map A8)) (by simp)).sl;simpa using this
 clear nL
 repeat'((first|refine S2 ?_|(refine T6 ?_ ?_<;>intro h<;>try exact V1 h)|intro el nJ nK|intro el nJ|exact T4|refine T5 ?_ ?_|intro ex)<;>try conv=>whnf)
 refine B0 (ι:=Nat) (fun i=>⟨[(2,.sl 2 (picks.map A8)),(3,.sl 1 (values.map wA)),(4,.ref 0 0),(5,.ref 1 0),(9,.row 2 0 s.cols.length),(10,.i i)],3,[(0,some (.box (sL s))),(1,some (.box (M9 c))),(2,some (.row 3 1 0 (U8 (fun j=>if j=0 then 0 else if j<i then (M4 s j 0 0).1 else 0) s.cols.length)))]⟩)
  (fun i=>1≤i∧i≤max 1 s.cols.length) (fun i=>s.cols.length-i) 1 ⟨Nat.le_refl _,by omega⟩
  (A7 h0 rfl ⟨rfl,rfl,rfl,rfl,rfl,rfl,trivial⟩ ⟨rfl,rfl,⟨0,congrArg (C4.row 3 1 0) (by rw[Int.toNat_natCast];refine Eq.trans ?_ (RB _).symm;exact FV fun j hj=>by split;rfl;rw[if_neg (by omega)])⟩,trivial⟩ rfl rfl rfl) (fun i hI=>?_)
 obtain⟨tW,oI⟩:=hI
 by_cases nN:i<s.cols.length
 ·obtain⟨x,hx⟩:∃x,s.cols[i]?=some x:=⟨_,List.getElem?_eq_getElem nN⟩
  have uj:=KE s hr i 0 0 x (by omega) (by simpa using hx) (Int.le_refl _) (Pi hr (by omega) (by omega))
  have nW:(U8 (fun j=>if j=0 then 0 else if j<i then (M4 s j 0 0).1 else 0) s.cols.length)[((((i:Nat):Int).toNat:Nat):Int).toNat]?=some [.i (if i=0 then 0 else if i<i then (M4 s i 0 0).1 else 0)]:=by
   rw[Int.toNat_natCast,Int.toNat_natCast];exact Ic nN
  have oU:(U8 (fun j=>if j=0 then 0 else if j<i then (M4 s j 0 0).1 else 0) s.cols.length).set i [.i (M4 s i 0 0).1]=U8 (fun j=>if j=0 then 0 else if j<i+1 then (M4 s j 0 0).1 else 0) s.cols.length:=by
   rw[Md]
   refine FV fun j hj=>?_
   by_cases e:i=j
   ·subst e
    rw[if_pos rfl,if_neg (by omega),if_pos (by omega)]
   ·rw[if_neg e]
    by_cases e0:j=0
    ·rw[if_pos e0,if_pos e0]
    ·rw[if_neg e0,if_neg e0]
     by_cases e1:j<i
     ·rw[if_pos e1,if_pos (by omega)]
     ·rw[if_neg e1,if_neg (by omega)]
  repeat'((first|refine A0 uj ?_ |refine S2 ?_|(refine T6 ?_ ?_<;>intro h<;>try exact V1 h)|intro el nJ nK|intro el nJ|exact T4|refine T5 ?_ ?_|intro ex)<;>try conv=>whnf)
  all_goals first
   |(exfalso;omega)
   |exact⟨i+1,by omega,by omega,A7 h0 rfl ⟨rfl,rfl,rfl,rfl,rfl,rfl,trivial⟩ ⟨rfl,rfl,⟨_,congrArg (C4.row 3 1 _) oU.symm⟩,trivial⟩ rfl rfl rfl⟩
 ·have yK:U8 (fun j=>if j=0 then 0 else if j<i then (M4 s j 0 0).1 else 0) s.cols.length=U8 (Ak s []) s.cols.length:=FV fun j hj=>by
   unfold Ak M5
   by_cases e:j=0
   ·rw[if_pos e,if_pos ⟨e,rfl⟩]
   ·rw[if_neg e,if_pos (show j<i by omega),if_neg (fun hh:j=0∧_=>e hh.1)]
    rfl
  rw[yK]
  repeat'((first|refine S2 ?_|(refine T6 ?_ ?_<;>intro h<;>try exact V1 h)|intro el nJ nK|intro el nJ|exact T4|refine T5 ?_ ?_|intro ex)<;>try conv=>whnf)
  all_goals first
   |(exfalso;omega)
   |skip
  refine B0 (ι:=Nat) (fun k=>⟨[(3,.sl 1 (values.map wA)),(4,.ref 0 0),(5,.ref 1 0),(9,.row 2 0 s.cols.length),(34,.sl 2 (picks.map A8)),(35,.i picks.length),(36,.i k)],3,[(0,some (.box (sL s))),(1,some (.box (M9 c))),(2,some (.row 3 1 0 (U8 (Ak s (pv.take k)) s.cols.length)))]⟩)
   (fun k=>k≤picks.length∧AA s (pv.take k)=true) (fun k=>picks.length-k) 0 ⟨Nat.zero_le _,rfl⟩
   (A6 h0) (fun k hK=>?_)
  obtain⟨pd,hK⟩:=hK
  by_cases nU:k<picks.length
  ·obtain⟨p,qE⟩:∃p,picks[k]?=some p:=⟨_,List.getElem?_eq_getElem nU⟩
   obtain⟨v,tI⟩:∃v,values[k]?=some v:=⟨_,List.getElem?_eq_getElem (by omega)⟩
   have hq:=pI k p v qE tI
   obtain⟨c1,c2,c3,c4⟩:=ww k p qE
   obtain⟨x,hx⟩:∃x,s.cols[p.col.toNat]?=some x:=⟨_,List.getElem?_eq_getElem (by omega)⟩
   have uj:=KE s hr p.col p.lev v x c1 hx c3 c4
   have oq:=fun i=>Yh (s:=s) (l:=pv.take k) (q:=(p,v)) c1 i
   rw[←F1 hq]at oq
   have ol:AA s (pv.take (k+1))=(M4 s p.col p.lev v).2:=by
    unfold AA at hK ⊢
    rw[F1 hq,List.all_append,hK]
    simp
   dsimp only at oq
   have rE:(M4 s p.col p.lev v).2=false→AA s pv=false:=fun h=>LD hq h
   generalize M4 s p.col p.lev v=S at *
   obtain⟨w,ok⟩:=S
   dsimp only at *
   cases ok
   ·rw[if_neg (by rw[rE rfl];decide)]
    repeat'((first|refine A0 uj ?_|(refine A2 (x:=p) qE (by omega) ?_)|(refine A2 (x:=v) tI (by omega) ?_)|(refine A9 ?_ ?_;kernel_rfl) |refine S2 ?_|(refine T6 ?_ ?_<;>intro h<;>try exact V1 h)|intro el nJ nK|intro el nJ|exact T4|refine T5 ?_ ?_|intro ex)<;>try conv=>whnf)
    all_goals first
     |(exfalso;omega)
     |exact A1 rfl rfl
   ·have nW:(U8 (Ak s (pv.take k)) s.cols.length)[((p.col.toNat:Nat):Int).toNat]?=some [.i (Ak s (pv.take k) p.col.toNat)]:=by
     rw[Int.toNat_natCast];exact Ic (by omega)
    repeat'((first|refine A0 uj ?_|(refine A2 (x:=p) qE (by omega) ?_)|(refine A2 (x:=v) tI (by omega) ?_)|(refine A9 ?_ ?_;kernel_rfl) |refine S2 ?_|(refine T6 ?_ ?_<;>intro h<;>try exact V1 h)|intro el nJ nK|intro el nJ|exact T4|refine T5 ?_ ?_|intro ex)<;>try conv=>whnf)
    all_goals first
     |(exfalso;omega)
     |exact⟨k+1,⟨by omega,ol⟩,by omega,A7 h0 rfl ⟨rfl,rfl,rfl,rfl,rfl,rfl,rfl,trivial⟩ ⟨rfl,rfl,⟨_,congrArg (C4.row 3 1 _) (by refine Eq.trans ?_ Md.symm;exact FV fun j hj=>oq j)⟩,trivial⟩ rfl rfl rfl⟩
  ·have pB:pv.take k=pv:=List.take_of_length_le (by omega)
   rw[pB]at hK ⊢
   rw[if_pos hK]
   have hh2:A3 Tryz.prog 182 [sA s,.agg (M9 c),.sl 1 (U8 (Ak s pv) s.cols.length)] (.i (Dd s c ((List.range s.cols.length).map (Ak s pv)))):=by
    have e:U8 (Ak s pv) s.cols.length=((List.range s.cols.length).map (Ak s pv)).map wA:=by unfold U8;rw[List.map_map];rfl
    rw[e];exact hh
   repeat'((first|refine I6 2 ?_|refine A0 hh2 ?_ |refine S2 ?_|(refine T6 ?_ ?_<;>intro h<;>try exact V1 h)|intro el nJ nK|intro el nJ|exact T4|refine T5 ?_ ?_|intro ex)<;>try conv=>whnf)
   all_goals first
    |(exfalso;omega)
    |exact A1 rfl rfl
def Yi(s:A4)(c:B7)(picks:List Pk)(values:List Int):Int :=
 if J6 s c=0∧I7 s picks=0∧values.length=picks.length∧X8 picks (I3 s c)=true then Mf s c (picks.zip values)else 0
theorem kr{l:List UInt8}{a:Nat}{s:A4}{k:Int}{c:D3}(nY:B6 s k=c)(h:c.kind=1):AM l a s k=(1+((C1 l a 60).1:Int),(C1 l a 60).2):=by unfold AM;dsimp only;rw[nY,if_pos h]
theorem ku{l:List UInt8}{a:Nat}{s:A4}{k:Int}{c:D3}(nY:B6 s k=c)(h1:¬c.kind=1)(h:c.kind=2):AM l a s k=((((F9 s k).getD (C1 l a (F9 s k).length).1 0:Nat):Int),(C1 l a (F9 s k).length).2):=by unfold AM;dsimp only;rw[nY,if_neg h1,if_pos h]
theorem kv{l:List UInt8}{a:Nat}{s:A4}{k:Int}{c:D3}(nY:B6 s k=c)(h1:¬c.kind=1)(h2:¬c.kind=2)(h:c.opt=true)(h4:((C1 l a 4).1:Int)=3):AM l a s k=((-1099511627776),(C1 l a 4).2):=by unfold AM;dsimp only;rw[nY,if_neg h1,if_neg h2,if_pos h,if_pos h4]
theorem kw{l:List UInt8}{a:Nat}{s:A4}{k:Int}{c:D3}(nY:B6 s k=c)(h1:¬c.kind=1)(h2:¬c.kind=2)(h:c.opt=true)(h4:¬((C1 l a 4).1:Int)=3):AM l a s k=(c.low+((C1 l (C1 l a 4).2 (c.high-c.low+1)).1:Int),(C1 l (C1 l a 4).2 (c.high-c.low+1)).2):=by unfold AM;dsimp only;rw[nY,if_neg h1,if_neg h2,if_pos h,if_neg h4]
theorem ky{l:List UInt8}{a:Nat}{s:A4}{k:Int}{c:D3}(nY:B6 s k=c)(h1:¬c.kind=1)(h2:¬c.kind=2)(h:c.opt=false):AM l a s k=(c.low+((C1 l a (c.high-c.low+1)).1:Int),(C1 l a (c.high-c.low+1)).2):=by unfold AM;dsimp only;rw[nY,if_neg h1,if_neg h2,if_neg (by rw[h];exact Bool.false_ne_true)]
theorem Yj(l:List UInt8)(a:Nat)(s:A4)(k:Nat){c:D3}(hd:E4 s)(hc:s.cols[k]?=some c)(hl:l.length≤400):B8 Tryz.prog 143 1 (X7 l a) [.ref 0 0,sA s,.i k] 1 (X7 l (AM l a s k).2) (.i (AM l a s k).1):=by
 have nY:B6 s k=c:=B9 (by simpa using hc)
 have nN:=E9 hc
 have sG:=hd.lens
 have hm:¬c.kind=1→¬c.kind=2→c.low≤c.high∧-4≤c.low∧c.high≤46:=by
  rcases hd.col hc with ⟨_,rfl⟩|⟨_,rfl|rfl⟩|⟨_,nm,hm⟩
  ·intro h;exact absurd rfl h
  ·intro _ h;exact absurd rfl h
  ·intro _ h;exact absurd rfl h
  ·have:=hm.low;have:=hm.high;omega
 have pX:c.kind=2→A3 Tryz.prog 138 [sA s,.i k] (.sl 1 ((F9 s k).map iA)):=fun h=>BB s k (by omega) (by simpa using hc) (hd.lvs hc h).1
 have ry:c.kind=2→(F9 s k).length≤10∧(F9 s k)[(C1 l a (F9 s k).length).1]?=some ((F9 s k).getD (C1 l a (F9 s k).length).1 0):=by
  intro h
  obtain⟨_,_,h1,h2⟩:=hd.lvs hc h
  have hn:=I4 l a (n:=(F9 s k).length) (by omega)
  have:(C1 l a (F9 s k).length).1<(F9 s k).length:=by omega
  rw[List.getD_eq_getElem?_getD,List.getElem?_eq_getElem this]
  exact⟨h2,rfl⟩
 have r1:=u3 l a 1 60 hl (by omega) (by omega) (by omega)
 have r2:=fun (h1:¬c.kind=1) (h2:¬c.kind=2) (b:Nat)=>u3 l b c.low c.high hl (hm h1 h2).1 (by have:=hm h1 h2;omega) (by have:=hm h1 h2;omega)
 have r3:=Co l a 4 hl (by omega)
 have r4:=J8 l a (F9 s k).length hl
 refine c9 Tryz.func143 44 fun E h0=>?_
 repeat'((first|(refine A2 (x:=c) hc (by omega) ?_)|(refine A2 (ry (by assumption)).2 (by omega) ?_)|refine A0 (pX (by assumption)) ?_|refine⟨G3 [0] [0] r1 rfl rfl rfl rfl rfl ⟨rfl,trivial⟩ rfl rfl rfl rfl rfl ?_⟩|refine⟨G3 [0] [0] (r2 (by assumption) (by assumption) _) rfl rfl rfl rfl rfl ⟨rfl,trivial⟩ rfl rfl rfl rfl rfl ?_⟩|refine⟨G3 [0] [0] r3 rfl rfl rfl rfl rfl ⟨rfl,trivial⟩ rfl rfl rfl rfl rfl ?_⟩|refine⟨G3 [0] [0] r4 rfl rfl rfl rfl rfl ⟨rfl,trivial⟩ rfl rfl rfl rfl rfl ?_⟩ |refine S2 ?_|(refine T6 ?_ ?_<;>intro h<;>try exact V1 h)|intro el nJ nK|intro el nJ|exact T4|refine T5 ?_ ?_|intro ex)<;>try conv=>whnf)
 all_goals first
  |(rw[kr nY (by assumption)];exact H6 (A6 h0))
  |(rw[ku nY (by assumption) (by assumption)];exact H6 (A6 h0))
  |(rw[kv nY (by assumption) (by assumption) (by assumption) (by omega)];exact H6 (A6 h0))
  |(rw[kw nY (by assumption) (by assumption) (by assumption) (by omega)];exact H6 (A6 h0))
  |(rw[ky nY (by assumption) (by assumption) (by assumption)];exact H6 (A6 h0))
theorem eM(l:List UInt8)(a:Nat)(s:A4)(hd:E4 s)(hl:l.length≤400):B8 Tryz.prog 91 1 (X7 l a) [.ref 0 0,sA s] 2 [(0,some (.box [.sl 1 (l.map P9),.i (o7 l a s).2])),(1,some (.row 3 1 0 ((o7 l a s).1.map wA)))] (.row 1 0 s.cols.length):=by
 have sG:=hd.lens
 refine c9 Tryz.func91 22 fun E h0=>?_
 repeat'((first|refine S2 ?_|(refine T6 ?_ ?_<;>intro h<;>try exact V1 h)|intro el nJ nK|intro el nJ|exact T4|refine T5 ?_ ?_|intro ex)<;>try conv=>whnf)
 refine B0 (ι:=Nat×List Int×Nat) (fun x=>⟨[(0,.ref 0 0),(3,.ref 1 0),(5,.row 2 0 x.1),(9,.i s.cols.length),(10,.i x.1)],3,[(0,some (.box [.sl 1 (l.map P9),.i x.2.2])),(1,some (.box (sL s))),(2,some (.row 3 1 0 (x.2.1.map wA)))]⟩)
  (fun x=>x.1≤s.cols.length∧x.2.1.length=x.1∧o7 l a s=rowFrom l s x.1 x.2 (s.cols.length-x.1)) (fun x=>s.cols.length-x.1) (0,[],a) ⟨by dsimp only;omega,rfl,rfl⟩
  (C0 (I0 (d:=5) (e:=3) (sz:=1) rfl) (A7 h0 rfl ⟨rfl,rfl,rfl,rfl,rfl,trivial⟩ ⟨rfl,rfl,⟨0,rfl⟩,trivial⟩ rfl rfl rfl)) (fun x hI=>?_)
 obtain⟨k,out,b⟩:=x
 obtain⟨hk,nM,hI⟩:=hI
 dsimp only at hk nM hI ⊢
 have hv:=fun (h:(k:Int)<s.cols.length)=>Yj l b s k hd (List.getElem?_eq_getElem (show k<s.cols.length by omega)) hl
 repeat'((first|refine⟨G3 [0] [0] (hv (by assumption)) rfl rfl rfl rfl rfl ⟨rfl,trivial⟩ rfl rfl rfl rfl rfl ?_⟩ |refine S2 ?_|(refine T6 ?_ ?_<;>intro h<;>try exact V1 h)|intro el nJ nK|intro el nJ|exact T4|refine T5 ?_ ?_|intro ex)<;>try conv=>whnf)
 all_goals first
  |exact⟨(k+1,out++[(AM l b s k).1],(AM l b s k).2),⟨by dsimp only;omega,by dsimp only;rw[List.length_append,List.length_singleton,nM],by rw[hI,show s.cols.length-k=(s.cols.length-(k+1))+1 by omega];rfl⟩,by dsimp only;omega,A7 h0 rfl ⟨rfl,rfl,rfl,rfl,rfl,trivial⟩ ⟨rfl,rfl,⟨_,congrArg (C4.row 3 1 _) (by rw[List.map_append];rfl)⟩,trivial⟩ rfl rfl rfl⟩
  |(have e:o7 l a s=(out,b):=by rw[hI,show s.cols.length-k=0 by omega];rfl
    have ek:k=s.cols.length:=by omega
    rw[e]
    exact H6 (C0 (CP 1 2 h0 rfl rfl) (A7 h0 rfl ⟨congrArg (fun z:Nat=>some (AV.row 1 0 z)) ek,trivial⟩ ⟨rfl,⟨_,rfl⟩,trivial⟩ rfl rfl rfl)))
end Go.Proofs.YtiphlhoclaogjaaGreatDoor
namespace Go.Av
open Go Go.RowKit
theorem Mg{P:Program}{f m0 m1 m2:Nat}{hp0 hp1 hp2:Hp}{args:List AV}{r r2:AV}(h:B8 P f m0 hp0 args m1 hp1 r)(hm:Nat.ble m0 m1=true)(oW:∀E:Env,E.n0=m0→St.le E 1 ⟨[(0,r)],m1,hp1⟩ ⟨[(0,r2)],m2,hp2⟩):B8 P f m0 hp0 args m2 hp2 r2:=by
 refine⟨h.1,fun X θ w vs hX oP qt hl qh=>?_⟩
 refine Calls.mono (h.2 X θ w vs hX oP qt hl qh) ?_
 rintro e w' ⟨⟨v,θ',rfl,hv,rX,nP,hθ⟩,si,qd,rj,nd,ot⟩
 have sat:o3 ⟨w,X,owned θ hp0,θ,m0,oP,false⟩ 1 ⟨[(0,r)],m1,hp1⟩ { tmps:=#[v],defers:=[] } w':=by
  refine⟨θ',rfl,.nil,⟨si,qd,rj,nd,ot⟩,fun s x hs=>?_,rX.owns,rX.apart,fun i b k hi hk=>⟨rX.fresh i b k hi hk,nP i b k hi hk⟩,hX,⟨Nat.ble_eq▸hm,hθ⟩⟩
  rw[E8]at hs
  split at hs
  ·rename_i e0
   subst e0
   cases hs
   exact hv
  ·cases hs
 obtain⟨θ2,hs⟩:=oW _ rfl _ _ sat
 have hr:=hs.slots 0 r2 rfl
 exact⟨⟨v,θ2,rfl,hr,⟨hs.owns,hs.apart,fun i b k hi hk=>(hs.mine i b k hi hk).1⟩,fun i b k hi hk=>(hs.mine i b k hi hk).2,hs.base.2⟩,hs.fr.os,hs.fr.tape,hs.fr.output,hs.fr.size,hs.fr.block⟩
end Go.Av
namespace Go.Proofs.YtiphlhoclaogjaaGreatDoor
open Go Go.Av
attribute [local irreducible] C9 B3 C8 D1 DQ D0 C7 St.le A3 B8
set_option maxRecDepth 100000
theorem bU(l:List UInt8)(a:Nat)(hl:l.length≤400):B8 Tryz.prog 89 1 (X7 l a) [.ref 0 0] 1 (X7 l (Cp l a).2) (sA (Cp l a).1) :=
 Mg (eC l a hl) rfl fun E h0=>A6 h0
theorem bV(l:List UInt8)(a:Nat)(s:A4)(hd:E4 s)(hl:l.length≤400):B8 Tryz.prog 91 1 (X7 l a) [.ref 0 0,sA s] 1 (X7 l (o7 l a s).2) (.sl 1 ((o7 l a s).1.map wA)) :=
 Mg (eM l a s hd hl) rfl fun E h0=>A6 h0
def UK(b:UInt8):Bool:=decide (97≤b.toNat∧b.toNat≤122∨48≤b.toNat∧b.toNat≤57∨b.toNat=95)
theorem Mh{p:UInt8→Bool}:∀{t:List UInt8} {n:Nat},(∀i b,i<n→t[i]?=some b→p b=true)→n≤t.length→(∀b,t[n]?=some b→p b=false)→t.takeWhile p=t.take n∧t.dropWhile p=t.drop n
 |[],n,_,hn,_=>by
  have:n=0:=by simpa using hn
  subst this;exact⟨rfl,rfl⟩
 |a::r,0,_,_,h2=>by
  have:=h2 a rfl
  rw[List.takeWhile_cons,List.dropWhile_cons,this]
  exact⟨rfl,rfl⟩
 |a::r,n+1,h1,hn,h2=>by
  have ha:=h1 0 a (by omega) rfl
  obtain⟨i1,i2⟩:=Mh (p:=p) (t:=r) (n:=n) (fun i b hi hb=>h1 (i+1) b (by omega) (by simpa using hb)) (by simpa using hn) (fun b hb=>h2 b (by simpa using hb))
  rw[List.takeWhile_cons,List.dropWhile_cons,ha,i1,i2]
  exact⟨rfl,rfl⟩
abbrev kz:List UInt8:=[32,117,110,100,101,114,32]
abbrev mJ:List UInt8:=[32,102,114,111,109,32]
abbrev nD:List UInt8:=[32,116,111,32]
abbrev mK:List UInt8:=[32,109,105,115,115,105,110,103]
abbrev mm:List UInt8:=[32,97,110,100,32]
abbrev nE:List UInt8:=[32,111,114,32]
abbrev mn:List UInt8:=[110,111,116,32]
abbrev mo:List UInt8:=[97,108,108]
structure Rd4 where
 c:B7
 ok:Bool
 t:List UInt8
 left:Int
def Yk(s:A4)(col:Int):List UInt8:=(B6 s col).name
def mL(s:A4)(col code:Int):List UInt8:=((C2 s (B6 s col)).2.getD code.toNat ⟨[],0⟩).name
mutual
def mq(s:A4):B7→List UInt8
 |.mk o c k l h ks =>
  if o=2 then Yk s c++kz++mL s c k
  else if o=3 then Yk s c++mJ++Lib.itoa l++nD++Lib.itoa h
  else if o=4 then Yk s c++mK
  else if o=5 then [40]++(Po s ks).getD 0 []++mm++(Po s ks).getD 1 []++[41]
  else if o=6 then [40]++(Po s ks).getD 0 []++nE++(Po s ks).getD 1 []++[41]
  else if o=7 then mn++(Po s ks).getD 0 []
  else mo
def Po(s:A4):List B7→List (List UInt8)
 |[]=>[]
 |x::r=>mq s x::Po s r
end
def lC(t:List UInt8)(n:Nat):Prop:=n≤t.length∧∀i b,i<n→t[i]?=some b→UK b=true
theorem lC.all{t:List UInt8}{n:Nat}(h:lC t n)(hn:¬(n:Int)<t.length):t.takeWhile UK=t.take n∧t.dropWhile UK=t.drop n :=
 Mh (fun i c hi hc=>h.2 i c hi hc) h.1 (fun c hc=>by have:=(List.getElem?_eq_some_iff.1 hc).1;omega)
def mM(u:List UInt8):Prop:=∀b r,u=b::r→UK b=false
def bX(b:UInt8):Bool:=decide (b.toNat≠32∧b.toNat≠40∧b.toNat≠41)
def gN(u:List UInt8):Prop:=∀b r,u=b::r→bX b=false
theorem mN{b:UInt8}(h:UK b=true):bX b=true:=by
 unfold UK at h
 unfold bX
 have:=of_decide_eq_true h
 exact decide_eq_true (by omega)
theorem gN.stops{u:List UInt8}(h:gN u):mM u:=fun b r e=>by
 have h1:=h b r e
 cases hw:UK b
 ·rfl
 ·rw[mN hw]at h1;cases h1
def lD(t:List UInt8)(n:Nat):Prop:=n≤t.length∧∀i b,i<n→t[i]?=some b→bX b=true
theorem lD.all{t:List UInt8}{n:Nat}(h:lD t n)(hn:¬(n:Int)<t.length):t.takeWhile bX=t.take n :=
 (Mh (fun i c hi hc=>h.2 i c hi hc) h.1 (fun c hc=>by have:=(List.getElem?_eq_some_iff.1 hc).1;omega)).1
end Go.Proofs.YtiphlhoclaogjaaGreatDoor
