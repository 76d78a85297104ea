/- Chapter 18: which extracts are right: the reference. -/
import Derived.Test.YtiphlhoclaogjaaGreatDoorQTa2
import Derived.Test.YtiphlhoclaogjaaGreatDoorQTx0
import Derived.Test.YtiphlhoclaogjaaGreatDoorQRg0
import Derived.Test.YtiphlhoclaogjaaGreatDoorQTa7
import Derived.Test.YtiphlhoclaogjaaGreatDoorQTx2
import Derived.Test.YtiphlhoclaogjaaGreatDoorQQn2
import Derived.Test.YtiphlhoclaogjaaGreatDoorQF5
import Derived.Test.YtiphlhoclaogjaaGreatDoorQCf1
import Derived.Test.YtiphlhoclaogjaaGreatDoorQCm2
import Derived.Test.YtiphlhoclaogjaaGreatDoorQTb1
import Derived.Test.YtiphlhoclaogjaaGreatDoorQTa5
import Derived.Test.YtiphlhoclaogjaaGreatDoorQUb1
set_option linter.unusedVariables false
set_option linter.unnecessarySimpa false
set_option linter.unusedSimpArgs false
set_option maxHeartbeats 64000000
namespace Go.Proofs.YtiphlhoclaogjaaGreatDoor
open Go Go.Av
attribute [local irreducible] C7 B1 D1 C8 DQ D0 C6 St.le A3 B8
set_option maxRecDepth 100000
theorem jp{s:A4}{picks:List Pk}{r:List Int}(h:¬r.length=picks.length+1):j8 s picks r=false:=by
 unfold j8;rw[decide_eq_false (fun hh=>h hh.1),Bool.false_and]
theorem jq{s:A4}{picks:List Pk}{r:List Int}{z:Int}(hz:r[0]?=some z)(h:z<0∨1048575<z):j8 s picks r=false:=by
 unfold j8;rw[Q7 hz,decide_eq_false (fun hh=>by omega),Bool.false_and]
theorem jr{s:A4}{picks:List Pk}{r:List Int}{z:Int}(hl:r.length=picks.length+1)(hz:r[0]?=some z)(h0:0≤z)(h1:z≤1048575):j8 s picks r=p8 s (picks.zip r.tail):=by
 unfold j8;rw[Q7 hz,decide_eq_true ⟨hl,h0,h1⟩,Bool.true_and]
theorem Rh(s:A4)(x:H6):A3 Tryz.prog 33 [sA s,f4 x] (.i (R2 s x)):=by
 have h1:=S7 s
 have h2:=u7 x.prj
 have h3:=GN s x.picks
 by_cases e1:¬C5 s=0
 ·rw[R2,if_pos e1]
  refine C1 Tryz.func33 112 fun nd E h0=>?_
  clear nd
  repeat'((first|refine A1 h1 ?_ |refine S2 ?_|(refine T6 ?_ ?_<;>intro h<;>try exact V1 h)|intro el nX nY|intro el nX|exact T4|refine T5 ?_ ?_|intro ex)<;>try conv=>whnf)
  all_goals first
   |(exfalso;omega)
   |exact A0 rfl rfl
 have e1:=Decidable.of_not_not e1
 have AC4:=fun c l v=>ew s c l v
 have ui:=fun (p:Pk) (x:D6) (h1:1≤p.col) (hx:s.cols[p.col.toNat]?=some x) (h3:0≤p.lev) (h4:p.lev≤A8 s p.col) (v:Int)=>(fZ e1 h1 hx h3 h4 v).1
 have wH:∀c,A8 s c=F2 s c:=fun c=>by unfold A8;rw[if_pos e1]
 have oP:=fun k=>@E8.step _ (w5 s x) x.rows k
 have rX:=fun k=>@E8.hit _ (w5 s x) x.rows k
 have rg:=fun k=>@E8.done _ (w5 s x) x.rows k
 have rW:=fun k=>@Tj s x k
 have hz:=E8.zero (w5 s x) x.rows
 have hex:∀k r,w5 s x k r=if j8 s x.picks r=false then 9 else if 0<k∧r.headD 0≤(x.rows.getD (k-1) []).headD 0 then 10 else 0:=fun _ _=>rfl
 have hE:R2 s x=if D5 x.prj=false then 3 else if x.ver<0∨300<x.ver then 13 else if ¬J7 s x.picks=0 then J7 s x.picks else if 200<x.rows.length then 1 else E4 (w5 s x) 0 x.rows:=by
  rw[R2,if_neg (fun h=>h e1)]
 rw[hE]
 clear hE
 generalize w5 s x=FE at *
 obtain⟨pr,ver,picks,rows⟩:=x
 dsimp only at *
 have hX:f4 ⟨pr,ver,picks,rows⟩=.agg [.str pr,.i ver,.sl 2 (picks.map B6),.sl 1 (rows.map G3)]:=rfl
 rw[hX]
 by_cases e3:D5 pr=false
 ·rw[if_pos e3]
  rw[e3]at h2
  refine C1 Tryz.func33 112 fun nd E h0=>?_
  clear nd
  repeat'((first|refine A1 h1 ?_|refine A1 h2 ?_|refine A1 h3 ?_ |refine S2 ?_|(refine T6 ?_ ?_<;>intro h<;>try exact V1 h)|intro el nX nY|intro el nX|exact T4|refine T5 ?_ ?_|intro ex)<;>try conv=>whnf)
  all_goals first
   |(exfalso;omega)
   |exact A0 rfl rfl
 rw[if_neg e3]
 have e3:D5 pr=true:=by cases h:D5 pr with|true=>rfl|false=>exact absurd h e3
 rw[e3]at h2
 by_cases e4:ver<0∨300<ver
 ·rw[if_pos e4]
  refine C1 Tryz.func33 112 fun nd E h0=>?_
  clear nd
  repeat'((first|refine A1 h1 ?_|refine A1 h2 ?_|refine A1 h3 ?_ |refine S2 ?_|(refine T6 ?_ ?_<;>intro h<;>try exact V1 h)|intro el nX nY|intro el nX|exact T4|refine T5 ?_ ?_|intro ex)<;>try conv=>whnf)
  all_goals first
   |(exfalso;omega)
   |exact A0 rfl rfl
 rw[if_neg e4]
 by_cases e2:¬J7 s picks=0
 ·rw[if_pos e2]
  refine C1 Tryz.func33 112 fun nd E h0=>?_
  clear nd
  repeat'((first|refine A1 h1 ?_|refine A1 h2 ?_|refine A1 h3 ?_ |refine S2 ?_|(refine T6 ?_ ?_<;>intro h<;>try exact V1 h)|intro el nX nY|intro el nX|exact T4|refine T5 ?_ ?_|intro ex)<;>try conv=>whnf)
  all_goals first
   |(exfalso;omega)
   |exact A0 rfl rfl
 rw[if_neg e2]
 have e2:=Decidable.of_not_not e2
 have xz:=CD e2
 have qI:=AY e2
 have nz:=(E9 e1).2.1
 rw[e2]at h3
 refine C1 Tryz.func33 112 fun nd E h0=>?_
 have nZ:rows.length≤9223372036854775807:=by
  have:=((nd (.agg [.str pr,.i ver,.sl 2 (picks.map B6),.sl 1 (rows.map G3)]) (by simp)).agg (.sl 1 (rows.map G3)) (by simp)).sl
  simpa using this
 clear nd
 by_cases e5:200<rows.length
 ·rw[if_pos e5]
  repeat'((first|refine A1 h1 ?_|refine A1 h2 ?_|refine A1 h3 ?_ |refine S2 ?_|(refine T6 ?_ ?_<;>intro h<;>try exact V1 h)|intro el nX nY|intro el nX|exact T4|refine T5 ?_ ?_|intro ex)<;>try conv=>whnf)
  all_goals first
   |(exfalso;omega)
   |exact A0 rfl rfl
 rw[if_neg e5]
 repeat'((first|refine A1 h1 ?_|refine A1 h2 ?_|refine A1 h3 ?_ |refine S2 ?_|(refine T6 ?_ ?_<;>intro h<;>try exact V1 h)|intro el nX nY|intro el nX|exact T4|refine T5 ?_ ?_|intro ex)<;>try conv=>whnf)
 all_goals first
  |(exfalso;omega)
  |skip
 refine B2 (ι:=Nat) (fun k=>⟨[(2,.ref 0 0),(3,.ref 1 0),(7,.i k)],2,[(0,some (.box (sL s))),(1,some (.box [.str pr,.i ver,.sl 2 (picks.map B6),.sl 1 (rows.map G3)]))]⟩)
  (fun k=>E8 FE rows k) (fun k=>rows.length-k) 0 hz
  (A6 h0) (fun k hK=>?_)
 by_cases no:k<rows.length
 ·obtain⟨r,qe⟩:∃r,rows[k]?=some r:=⟨_,List.getElem?_eq_getElem no⟩
  have qn:rows[((k:Nat):Int).toNat]?=some r:=qe
  have hx:=hex k r
  have h9:j8 s picks r=false→E4 FE 0 rows=9:=fun h=>by
   rw[if_pos h]at hx
   rw[←rX k hK qe (by rw[hx];decide),hx]
  by_cases sW:¬r.length=picks.length+1
  ·have hv:=h9 (jp sW)
   repeat'((first|(refine A2 (x:=r) qn (by omega) ?_)|(refine B5 ?_ ?_;kernel_rfl) |refine S2 ?_|(refine T6 ?_ ?_<;>intro h<;>try exact V1 h)|intro el nX nY|intro el nX|exact T4|refine T5 ?_ ?_|intro ex)<;>try conv=>whnf)
   all_goals first
    |(exfalso;omega)
    |exact A0 rfl (congrArg AV.i hv.symm)
  have sW:=Decidable.of_not_not sW
  obtain⟨r0,pC⟩:∃z,r[0]?=some z:=⟨_,List.getElem?_eq_getElem (by omega)⟩
  by_cases h01:r0<0∨1048575<r0
  ·have hv:=h9 (jq pC h01)
   repeat'((first|(refine A2 (x:=r) qn (by omega) ?_)|(refine A2 (x:=r0) pC (by omega) ?_)|(refine B5 ?_ ?_;kernel_rfl) |refine S2 ?_|(refine T6 ?_ ?_<;>intro h<;>try exact V1 h)|intro el nX nY|intro el nX|exact T4|refine T5 ?_ ?_|intro ex)<;>try conv=>whnf)
   all_goals first
    |(exfalso;omega)
    |exact A0 rfl (congrArg AV.i hv.symm)
  have zA:=jr (s:=s) sW pC (by omega) (by omega)
  repeat'((first|(refine A2 (x:=r) qn (by omega) ?_)|(refine A2 (x:=r0) pC (by omega) ?_)|(refine B5 ?_ ?_;kernel_rfl) |refine S2 ?_|(refine T6 ?_ ?_<;>intro h<;>try exact V1 h)|intro el nX nY|intro el nX|exact T4|refine T5 ?_ ?_|intro ex)<;>try conv=>whnf)
  all_goals first
   |(exfalso;omega)
   |skip
  have zx:(picks.zip r.tail).length=picks.length:=by rw[List.length_zip,List.length_tail];omega
  have wU:=fun k p v h1 h2=>@Ti picks r k p v h1 h2
  generalize picks.zip r.tail=pv at *
  refine B2 (ι:=Nat) (fun i=>⟨[(2,.ref 0 0),(3,.ref 1 0),(7,.i k),(8,.sl 1 (r.map wA)),(9,.i i)],2,[(0,some (.box (sL s))),(1,some (.box [.str pr,.i ver,.sl 2 (picks.map B6),.sl 1 (rows.map G3)]))]⟩)
   (fun i=>i≤picks.length∧p8 s (pv.take i)=true) (fun i=>picks.length-i) 0 ⟨Nat.zero_le _,rfl⟩
   (A6 h0) (fun i hI=>?_)
  obtain⟨i1,i2⟩:=hI
  by_cases sy:i<picks.length
  ·obtain⟨p,hp⟩:∃p,picks[i]?=some p:=⟨_,List.getElem?_eq_getElem sy⟩
   obtain⟨v,hv⟩:∃v,r[i+1]?=some v:=⟨_,List.getElem?_eq_getElem (by omega)⟩
   have hq:=wU i p v hp hv
   have hp2:picks[((i:Nat):Int).toNat]?=some p:=hp
   have rP:r[((i:Int)+1).toNat]?=some v:=by rw[show ((i:Int)+1).toNat=i+1 by omega];exact hv
   obtain⟨c1,c2,c3,c4⟩:=xz i p hp
   obtain⟨xc,yj⟩:∃x,s.cols[p.col.toNat]?=some x:=⟨_,List.getElem?_eq_getElem (by omega)⟩
   have hso:=ui p xc c1 yj c3 (by rw[wH];exact c4) v
   have hc:=AC4 p.col p.lev v
   rw[←hso]at hc
   have pS:p8 s (pv.take (i+1))=(N5 s p.col p.lev v).2:=by
    unfold p8 at i2 ⊢
    rw[I0 hq,List.all_append,i2]
    simp
   have sD:(N5 s p.col p.lev v).2=false→p8 s pv=false:=fun h=>Oy hq h
   generalize (N5 s p.col p.lev v).2=S at *
   cases S
   ·have hv9:=h9 (by rw[zA];exact sD rfl)
    repeat'((first|(refine A2 (x:=p) hp2 (by omega) ?_)|(refine A2 (x:=v) rP (by omega) ?_)|refine A1 hc ?_|(refine B5 ?_ ?_;kernel_rfl) |refine S2 ?_|(refine T6 ?_ ?_<;>intro h<;>try exact V1 h)|intro el nX nY|intro el nX|exact T4|refine T5 ?_ ?_|intro ex)<;>try conv=>whnf)
    all_goals first
     |(exfalso;omega)
     |exact A0 rfl (congrArg AV.i hv9.symm)
   ·repeat'((first|(refine A2 (x:=p) hp2 (by omega) ?_)|(refine A2 (x:=v) rP (by omega) ?_)|refine A1 hc ?_|(refine B5 ?_ ?_;kernel_rfl) |refine S2 ?_|(refine T6 ?_ ?_<;>intro h<;>try exact V1 h)|intro el nX nY|intro el nX|exact T4|refine T5 ?_ ?_|intro ex)<;>try conv=>whnf)
    all_goals first
     |(exfalso;omega)
     |exact⟨i+1,⟨by omega,pS⟩,by omega,A6 h0⟩
  ·have qG:pv.take i=pv:=List.take_of_length_le (by omega)
   rw[qG]at i2
   rw[zA,i2,if_neg (by decide),Q7 pC]at hx
   by_cases rE:k=0
   ·subst rE
    rw[if_neg (by omega)]at hx
    have nv:=oP 0 hK qe hx
    repeat'((first|(refine A2 (x:=r0) pC (by omega) ?_)|(refine B5 ?_ ?_;kernel_rfl) |refine S2 ?_|(refine T6 ?_ ?_<;>intro h<;>try exact V1 h)|intro el nX nY|intro el nX|exact T4|refine T5 ?_ ?_|intro ex)<;>try conv=>whnf)
    all_goals first
     |(exfalso;omega)
     |exact⟨0+1,nv,by omega,A6 h0⟩
   ·obtain⟨q,hq⟩:∃q,rows[k-1]?=some q:=⟨_,List.getElem?_eq_getElem (by omega)⟩
    have uE:=o5 (rW k hK (i:=k-1) (by omega) hq)
    obtain⟨q0,su⟩:∃z,q[0]?=some z:=⟨_,List.getElem?_eq_getElem (by omega)⟩
    rw[D2 hq,Q7 su]at hx
    have pI:rows[((k:Int)-1).toNat]?=some q:=by rw[show ((k:Int)-1).toNat=k-1 by omega];exact hq
    by_cases ob:r0≤q0
    ·rw[if_pos ⟨by omega,ob⟩]at hx
     have oq:=rX k hK qe (by rw[hx];decide)
     rw[hx]at oq
     repeat'((first|(refine A2 (x:=q) pI (by omega) ?_)|(refine A2 (x:=q0) su (by omega) ?_)|(refine A2 (x:=r0) pC (by omega) ?_)|(refine B5 ?_ ?_;kernel_rfl) |refine S2 ?_|(refine T6 ?_ ?_<;>intro h<;>try exact V1 h)|intro el nX nY|intro el nX|exact T4|refine T5 ?_ ?_|intro ex)<;>try conv=>whnf)
     all_goals first
      |(exfalso;omega)
      |exact A0 rfl (congrArg AV.i oq)
    ·rw[if_neg (fun h=>ob h.2)]at hx
     have nv:=oP k hK qe hx
     repeat'((first|(refine A2 (x:=q) pI (by omega) ?_)|(refine A2 (x:=q0) su (by omega) ?_)|(refine A2 (x:=r0) pC (by omega) ?_)|(refine B5 ?_ ?_;kernel_rfl) |refine S2 ?_|(refine T6 ?_ ?_<;>intro h<;>try exact V1 h)|intro el nX nY|intro el nX|exact T4|refine T5 ?_ ?_|intro ex)<;>try conv=>whnf)
     all_goals first
      |(exfalso;omega)
      |exact⟨k+1,nv,by omega,A6 h0⟩
 ·have hd:=rg k hK (by omega)
  repeat'((first|refine S2 ?_|(refine T6 ?_ ?_<;>intro h<;>try exact V1 h)|intro el nX nY|intro el nX|exact T4|refine T5 ?_ ?_|intro ex)<;>try conv=>whnf)
  all_goals first
   |(exfalso;omega)
   |exact A0 rfl (congrArg AV.i hd.symm)
def I8(s:A4):List Pk→List (List Int)
 |[]=>[[]]
 |d::r=>(X9 s d).flatMap fun c=>(I8 s r).map fun l=>c::l
def OO(own:List Int)(R:List (List Int)):List (List Int):=own.flatMap fun c=>R.map fun l=>c::l
theorem Du(R:List (List Int)):∀own:List Int,(OO own R).length=own.length*R.length
 |[]=>by simp[OO]
 |a::r=>by
  have:=Du R r
  unfold OO at this ⊢
  rw[List.flatMap_cons,List.length_append,this,List.length_map,List.length_cons,Nat.succ_mul,Nat.add_comm]
theorem II{s:A4}:∀{ds:List Pk} {l:List Int},l∈I8 s ds→l.length=ds.length
 |[],l,h=>by simp[I8]at h;subst h;rfl
 |d::r,l,h=>by
  unfold I8 at h
  rw[List.mem_flatMap]at h
  obtain⟨c,_,h2⟩:=h
  rw[List.mem_map]at h2
  obtain⟨m,h3,rfl⟩:=h2
  simp[II h3]
structure O4 where
 key:Int
 val:Int
 codes:List Int
def At(c:F1)(l:O4):F1:=if I7 l.codes c.codes=true then L2 l.key l.val true c else c
def F0(codes:List Int)(ls:List O4):F1:=ls.foldl At (o6 codes)
structure GV(c:F1):Prop where
 lo:0≤c.snd
 le:c.snd≤c.fst
theorem GV.add{c:F1}(h:GV c)(key v:Int)(b:Bool):GV (L2 key v b c):=by
 obtain⟨h1,h2⟩:=h
 generalize hm:max v (-v)=a
 have:0≤a:=by omega
 unfold L2
 rw[hm]
 split
 ·exact⟨h1,h2⟩
 ·split
  ·exact⟨by dsimp only;omega,by dsimp only;omega⟩
  ·split
   ·exact⟨by dsimp only;omega,by dsimp only;omega⟩
   ·exact⟨h1,h2⟩
theorem IJ(key v:Int)(b:Bool)(c:F1):(L2 key v b c).codes=c.codes:=by
 unfold L2
 split
 ·rfl
 ·split
  ·rfl
  ·split<;>rfl
theorem Zc{codes:List Int}{ls:List O4}{k:Nat}{l:O4}(h:ls[k]?=some l):F0 codes (ls.take (k+1))=At (F0 codes (ls.take k)) l:=by
 unfold F0
 rw[I0 h,List.foldl_append]
 rfl
theorem Ul{codes:List Int}{ls:List O4}(hv:∀l∈ls,-1099511627776≤l.val∧l.val≤1099511627776):∀k:Nat,k≤ls.length→ED codes.length k (F0 codes (ls.take k))∧GV (F0 codes (ls.take k))∧(F0 codes (ls.take k)).codes=codes
 |0,_=>⟨⟨rfl,by simp[F0,o6],by simp[F0,o6],by simp[F0,o6],by simp[F0,o6]⟩,⟨by simp[F0,o6],by simp[F0,o6]⟩,rfl⟩
 |k+1,hk=>by
  obtain⟨l,hl⟩:∃l,ls[k]?=some l:=⟨_,List.getElem?_eq_getElem (by omega)⟩
  obtain⟨h1,h2,h3⟩:=Ul (codes:=codes) hv k (by omega)
  rw[Zc hl]
  unfold At
  split
  ·exact⟨h1.add (hv l (List.mem_of_getElem? hl)) true,h2.add _ _ _,by rw[IJ];exact h3⟩
  ·exact⟨h1.more,h2,h3⟩
theorem Gr{key v:Int}{c:F1}(h:c.fst<max v (-v)):L2 key v true c={ c with cnt:=c.cnt+1,rows:=c.rows++[key],sum:=c.sum+v,amo:=c.amo+max v (-v),fst:=max v (-v),snd:=c.fst }:=by
 unfold L2;rw[if_neg (by decide),if_pos h]
theorem Gs{key v:Int}{c:F1}(h:¬c.fst<max v (-v))(ho:c.snd≤c.fst):L2 key v true c={ c with cnt:=c.cnt+1,rows:=c.rows++[key],sum:=c.sum+v,amo:=c.amo+max v (-v),snd:=max c.snd (max v (-v)) }:=by
 unfold L2;rw[if_neg (by decide),if_neg h]
 split
 ·rw[show max c.snd (max v (-v))=max v (-v) by omega]
 ·rw[show max c.snd (max v (-v))=c.snd by omega]
theorem fh(s:A4)(d:Pk):1≤(X9 s d).length:=by unfold X9;simp
theorem Um(s:A4):∀ds:List Pk,1≤(I8 s ds).length
 |[]=>by simp[I8]
 |d::r=>by
  have h1:=fh s d
  have h2:=Um s r
  have h3:(I8 s (d::r)).length=(X9 s d).length*(I8 s r).length:=Du _ _
  rw[h3]
  have:=Nat.mul_le_mul h1 h2
  omega
theorem LW(own:List Int)(R:List (List Int)):∀out:List (List Int),(z7 own out).flatMap (fun l=>R.map fun m=>l++m)=out.flatMap fun l=>(OO own R).map fun m=>l++m
 |[]=>rfl
 |a::r=>by
  have ih:=LW own R r
  have hk:z7 own (a::r)=(own.map fun c=>a++[c])++z7 own r:=by simp[z7]
  rw[hk,List.flatMap_append,ih,List.flatMap_cons]
  congr 1
  unfold OO
  rw[List.flatMap_map,List.map_flatMap]
  congr 1
  funext c
  rw[List.map_map]
  congr 1
  funext m
  simp
theorem Qs{s:A4}:∀{ds:List Pk} {out:List (List Int)},out.length*(I8 s ds).length≤2000→Y0 s ds out=some (out.flatMap fun l=>(I8 s ds).map fun m=>l++m)
 |[],out,_=>by simp[Y0,I8]
 |d::r,out,h=>by
  have h3:(I8 s (d::r)).length=(X9 s d).length*(I8 s r).length:=Du _ _
  have hp:=Um s r
  rw[h3,←Nat.mul_assoc]at h
  have h4:out.length*(X9 s d).length*1≤out.length*(X9 s d).length*(I8 s r).length:=Nat.mul_le_mul_left _ hp
  unfold Y0
  rw[if_neg (by omega),Qs (by rw[Bj];exact h),LW]
  rfl
theorem Qt{s:A4}:∀{ds:List Pk} {out:List (List Int)},out.length≤2000→2000<out.length*(I8 s ds).length→Y0 s ds out=none
 |[],out,h1,h2=>by simp[I8]at h2;omega
 |d::r,out,h1,h2=>by
  have h3:(I8 s (d::r)).length=(X9 s d).length*(I8 s r).length:=Du _ _
  rw[h3,←Nat.mul_assoc]at h2
  unfold Y0
  split
  ·rfl
  ·exact Qt (by rw[Bj];omega) (by rw[Bj];exact h2)
theorem js(s:A4)(ds:List Pk):Y0 s ds [[]]=if 2000<(I8 s ds).length then none else some (I8 s ds):=by
 by_cases h:2000<(I8 s ds).length
 ·rw[if_pos h,Qt (by simp) (by simpa using h)]
 ·rw[if_neg h,Qs (by simp;omega)]
  simp
def j9(s:A4)(x:H6)(dims:List Pk)(mea i:Int):O4:=⟨Bn x i,Cu s x mea i,Bm s x dims i⟩
theorem cT{key:Int}{c:F1}(h:GV c):L2 key 0 false c=L2 key 0 true c:=by
 obtain⟨h1,h2⟩:=h
 obtain⟨a,b,cc,d,e,f,g⟩:=c
 dsimp only at h1 h2
 unfold L2
 rw[if_pos rfl,if_neg (by decide),if_neg (by dsimp only;omega),if_neg (by dsimp only;omega)]
 simp
theorem fi{s:A4}{x:H6}{dims:List Pk}{mea i:Int}{c:F1}(h:GV c):(if I7 (Bm s x dims i) c.codes=true then L2 (Bn x i) (Cu s x mea i) (decide (0≤mea)) c else c)=At c (j9 s x dims mea i):=by
 unfold At j9
 dsimp only
 by_cases hm:0≤mea
 ·rw[decide_eq_true hm]
 ·have hv:Cu s x mea i=0:=if_neg hm
  rw[decide_eq_false hm,hv,cT h]
theorem cU{c:F1}(h:GV c)(l:O4):GV (At c l):=by
 unfold At
 split
 ·exact h.add _ _ _
 ·exact h
theorem Un{s:A4}{x:H6}{dims:List Pk}{mea:Int}:∀(is:List Int) (C:List F1),(∀c∈C,GV c)→is.foldl (EC s x dims mea) C=C.map fun c=>(is.map (j9 s x dims mea)).foldl At c
 |[],C,_=>by simp
 |i::r,C,h=>by
  have e:EC s x dims mea C i=C.map fun c=>At c (j9 s x dims mea i):=by
   unfold EC
   exact List.map_congr_left fun c hc=>fi (h c hc)
  rw[List.foldl_cons,e,Un r _ (fun c hc=>by
   rw[List.mem_map]at hc
   obtain⟨d,hd,rfl⟩:=hc
   exact cU (h d hd) _),List.map_map]
  rfl
theorem fj(s:A4)(x:H6)(dims:List Pk)(mea:Int)(L:List (List Int))(is:List Int):U5 s x dims mea L is=L.map fun l=>F0 l (is.map (j9 s x dims mea)):=by
 unfold U5
 rw[Un is _ (fun c hc=>by
  rw[List.mem_map]at hc
  obtain⟨l,_,rfl⟩:=hc
  exact⟨by simp[o6],by simp[o6]⟩),List.map_map]
 rfl
def F5{α:Type}(op:Int→Int→Int)(f:α→Int):List α→Int
 |[]=>0
 |x::r=>op (f x) (F5 op f r)
structure Jx(op:Int→Int→Int):Prop where
 comm:∀a b,op a b=op b a
 assoc:∀a b c,op (op a b) c=op a (op b c)
 z:op 0 0=0
theorem Y8:Jx (·+·):=⟨fun a b=>by omega,fun a b c=>by omega,rfl⟩
theorem XK:Jx max:=⟨fun a b=>by omega,fun a b c=>by omega,rfl⟩
theorem Ad{α:Type}{op:Int→Int→Int}(h:Jx op)(f:α→Int)(x:α):∀l:List α,F5 op f (l++[x])=op (F5 op f l) (f x)
 |[]=>h.comm _ _
 |a::r=>by
  rw[List.cons_append,F5,Ad h f x r,F5,h.assoc]
theorem XL{α:Type}{op:Int→Int→Int}(h:Jx op)(f g:α→Int):∀l:List α,F5 op (fun x=>op (f x) (g x)) l=op (F5 op f l) (F5 op g l)
 |[]=>h.z.symm
 |a::r=>by
  simp only[F5]
  rw[XL h f g r,h.assoc,h.assoc,←h.assoc (g a),h.comm (g a),h.assoc]
theorem IK{α:Type}{op:Int→Int→Int}(h:Jx op):∀l:List α,F5 op (fun _=>0) l=0
 |[]=>rfl
 |a::r=>by rw[F5,IK h r,h.z]
theorem MS{α β:Type}{op:Int→Int→Int}(h:Jx op)(f:α→β→Int)(B:List β):∀A:List α,F5 op (fun a=>F5 op (fun b=>f a b) B) A=F5 op (fun b=>F5 op (fun a=>f a b) A) B
 |[]=>(IK h B).symm
 |a::r=>by
  rw[F5,MS h f B r,←XL h]
  rfl
theorem Y3{α:Type}{op:Int→Int→Int}{f g:α→Int}:∀{l:List α},(∀x∈l,f x=g x)→F5 op f l=F5 op g l
 |[],_=>rfl
 |a::r,h=>by rw[F5,F5,h a (List.mem_cons_self ..),Y3 fun x hx=>h x (List.mem_cons_of_mem _ hx)]
theorem PR{α:Type}{op:Int→Int→Int}(ha:Jx op){f:α→Int}{w:Int}(hw:op 0 w=w){c:α}:∀{l:List α},l.Nodup→c∈l→f c=w→(∀x∈l,x≠c→f x=0)→F5 op f l=w
 |[],_,h,_,_=>by cases h
 |a::r,hn,h,hf,hz=>by
  obtain⟨h1,h2⟩:=List.nodup_cons.1 hn
  rw[F5]
  rcases List.mem_cons.1 h with rfl|h
  ·rw[Y3 (g:=fun _=>0) (fun x hx=>hz x (List.mem_cons_of_mem _ hx) fun e=>h1 (e▸hx)),IK ha,hf,ha.comm,hw]
  ·rw[hz a (List.mem_cons_self ..) (fun e=>h1 (e▸h)),PR ha hw h2 h hf fun x hx=>hz x (List.mem_cons_of_mem _ hx),hw]
theorem MT{α:Type}{op:Int→Int→Int}(ha:Jx op){f:α→Int}{l:List α}(h:∀x∈l,f x=0):F5 op f l=0:=by
 rw[Y3 (g:=fun _=>0) h,IK ha]
abbrev Ae(v:Int):Int:=max v (-v)
def CI(l:List Int)(Ls:List O4):List O4:=Ls.filter fun x=>I7 x.codes l
theorem cV(l:List Int)(Ls:List O4)(x:O4):CI l (Ls++[x])=if I7 x.codes l=true then CI l Ls++[x]else CI l Ls:=by
 unfold CI
 rw[List.filter_append,List.filter_cons,List.filter_nil]
 split<;>simp
structure mA(l:List Int)(F:List O4)(c:F1):Prop where
 codes:c.codes=l
 cnt:c.cnt=F.length
 rows:c.rows=F.map (·.key)
 sum:c.sum=F5 (·+·) (fun x:O4=>x.val) F
 amo:c.amo=F5 (·+·) (fun x:O4=>Ae x.val) F
 fst:c.fst=F5 max (fun x:O4=>Ae x.val) F
 ord:GV c
 two:c.fst+c.snd≤c.amo
theorem LX(l:List Int):∀(n:Nat) (Ls:List O4),Ls.length=n→mA l (CI l Ls) (F0 l Ls)
 |0,Ls,h=>by
  obtain rfl:Ls=[]:=List.length_eq_zero_iff.1 h
  exact⟨rfl,rfl,rfl,rfl,rfl,rfl,⟨by simp[F0,o6],by simp[F0,o6]⟩,by simp[F0,o6]⟩
 |n+1,Ls,h=>by
  obtain⟨R,x,rfl⟩:∃R x,Ls=R++[x]:=by
   rcases List.eq_nil_or_concat Ls with h0|⟨R,x,h0⟩
   ·rw[h0]at h;cases h
   ·exact⟨R,x,by rw[h0,List.concat_eq_append]⟩
  obtain⟨h1,h2,h3,h4,h5,h6,h7,h8⟩:=LX l n R (by simpa using h)
  have e:F0 l (R++[x])=At (F0 l R) x:=by unfold F0;rw[List.foldl_append];rfl
  rw[e,cV]
  unfold At
  rw[h1]
  generalize F0 l R=c at *
  generalize CI l R=F at *
  by_cases hi:I7 x.codes l=true
  ·rw[if_pos hi,if_pos hi]
   have ho:=h7.le
   have hp:=h7.lo
   by_cases hf:c.fst<max x.val (-x.val)
   ·refine⟨by rw[IJ];exact h1,?_,?_,?_,?_,?_,h7.add _ _ _,?_⟩
    ·rw[Gr hf,List.length_append];dsimp only[List.length_cons,List.length_nil];omega
    ·rw[Gr hf,List.map_append,←h3];rfl
    ·rw[Gr hf,Ad Y8,←h4]
    ·rw[Gr hf,Ad Y8,←h5]
    ·rw[Gr hf,Ad XK,←h6];dsimp only[Ae];omega
    ·rw[Gr hf];dsimp only;omega
   ·refine⟨by rw[IJ];exact h1,?_,?_,?_,?_,?_,h7.add _ _ _,?_⟩
    ·rw[Gs hf ho,List.length_append];dsimp only[List.length_cons,List.length_nil];omega
    ·rw[Gs hf ho,List.map_append,←h3];rfl
    ·rw[Gs hf ho,Ad Y8,←h4]
    ·rw[Gs hf ho,Ad Y8,←h5]
    ·rw[Gs hf ho,Ad XK,←h6];dsimp only[Ae];omega
    ·rw[Gs hf ho];dsimp only;omega
  ·rw[if_neg hi,if_neg hi]
   exact⟨h1,h2,h3,h4,h5,h6,h7,h8⟩
theorem M2(l:List Int)(Ls:List O4):mA l (CI l Ls) (F0 l Ls):=LX l Ls.length Ls rfl
theorem XM{op:Int→Int→Int}(f:O4→Int)(N:Int→Prop)(h0:N 0)(h1:∀a,N a→op 0 a=a)(h2:∀a b,N a→N b→N (op a b))(hf:∀x,N (f x))(l:List Int):∀Ls:List O4,
  F5 op f (CI l Ls)=F5 op (fun x=>if I7 x.codes l=true then f x else 0) Ls∧N (F5 op f (CI l Ls))
 |[]=>⟨rfl,h0⟩
 |x::r=>by
  obtain⟨ih,hn⟩:=XM f N h0 h1 h2 hf l r
  unfold CI at *
  rw[List.filter_cons,F5]
  by_cases hi:I7 x.codes l=true
  ·rw[if_pos hi,if_pos hi,F5,ih]
   rw[ih]at hn
   exact⟨rfl,h2 _ _ (hf x) hn⟩
  ·rw[if_neg hi,if_neg hi,←ih,h1 _ hn]
   exact⟨rfl,hn⟩
theorem jt(f:O4→Int)(l:List Int)(Ls:List O4):F5 (·+·) f (CI l Ls)=F5 (·+·) (fun x=>if I7 x.codes l=true then f x else 0) Ls :=
 (XM f (fun _=>True) trivial (fun a _=>by omega) (fun _ _ _ _=>trivial) (fun _=>trivial) l Ls).1
theorem XN(l:List Int)(Ls:List O4):((CI l Ls).length:Int)=F5 (·+·) (fun x=>if I7 x.codes l=true then 1 else 0) Ls:=by
 rw[←jt (fun _=>1)]
 generalize CI l Ls=F
 induction F with
 |nil=>rfl
 |cons a r ih=>rw[F5,←ih,List.length_cons];omega
theorem EE(a:Int)(x:List Int)(c:Int)(l:List Int):I7 (a::x) (c::l)=(decide (c=-1∨c=a) && I7 x l):=by
 unfold I7
 rw[List.zip_cons_cons,List.all_cons]
structure ju(c:F1)(C:Int→F1)(A:List Int):Prop where
 cnt:F5 (·+·) (fun k=>(C k).cnt) A=c.cnt
 sum:F5 (·+·) (fun k=>(C k).sum) A=c.sum
 amo:F5 (·+·) (fun k=>(C k).amo) A=c.amo
 fst:F5 max (fun k=>(C k).fst) A=c.fst
theorem Qu(s:A4):∀ds:List Pk,(I8 s ds)[0]?=some (ds.map fun _=>(-1:Int))
 |[]=>rfl
 |d::r=>by
  have ih:=Qu s r
  unfold I8 X9
  rw[List.flatMap_cons]
  cases hr:I8 s r with
  |nil=>rw[hr]at ih;cases ih
  |cons a t =>
   rw[hr]at ih
   simp at ih
   subst ih
   rfl
end Go.Proofs.YtiphlhoclaogjaaGreatDoor
