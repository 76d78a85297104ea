/- A contract whose result is memory of one's own, said with less. Contracts whose results are memory of one's own, said with what that memory holds. -/
import Derived.Test.YtiphlhoclaogjaaGreatDoorSAvTy
import Derived.Test.YtiphlhoclaogjaaGreatDoorSE3
import Derived.Test.YtiphlhoclaogjaaGreatDoorSB14
import Derived.Test.YtiphlhoclaogjaaGreatDoorSB12
import Derived.Test.YtiphlhoclaogjaaGreatDoorSSx
import Derived.Lib.ItoaNum
import Derived.Lib.AtoiAll
import Derived.Shelf.LaysM
import Derived.Shelf.Strconv.Itoa3
import Derived.Test.YtiphlhoclaogjaaGreatDoorProg
import Derived.Lib.AppendIntMem
import Derived.Lib.AtoiErrMem
import Derived.Test.YtiphlhoclaogjaaGreatDoorSDr8
import Derived.Lib.AtoiAllCases
import Derived.Lib.ItoaLen
import Derived.Lib.Join
import Derived.Lib.IndexMore
set_option linter.unusedVariables false
set_option linter.unnecessarySimpa false
set_option linter.unusedSimpArgs false
set_option maxHeartbeats 64000000
namespace Go.Av
open Go Go.RowKit
theorem Hm{P:Program}{f m0 m1 m2:Nat}{hp0 hp1 hp2:Hp}{args:List AV}{r r2:AV}(h:B9 P f m0 hp0 args m1 hp1 r)(hm:Nat.ble m0 m1=true)(mX:∀E:Env,E.n0=m0→St.le E 1 ⟨[(0,r)],m1,hp1⟩ ⟨[(0,r2)],m2,hp2⟩):B9 P f m0 hp0 args m2 hp2 r2:=by
 refine⟨h.1,fun X θ w vs hX mU pf hl oc=>?_⟩
 refine Calls.mono (h.2 X θ w vs hX mU pf hl oc) ?_
 rintro e w' ⟨⟨v,θ',rfl,hv,pY,la,hθ⟩,qS,oY,pa,lj,my⟩
 have za:j4 ⟨w,X,owned θ hp0,θ,m0,mU,false⟩ 1 ⟨[(0,r)],m1,hp1⟩ { tmps:=#[v],defers:=[] } w':=by
  refine⟨θ',rfl,.nil,⟨qS,oY,pa,lj,my⟩,fun s x hs=>?_,pY.owns,pY.apart,fun i b k hi hk=>⟨pY.fresh i b k hi hk,la i b k hi hk⟩,hX,⟨Nat.ble_eq▸hm,hθ⟩⟩
  rw[E6]at hs
  split at hs
  ·rename_i e0
   subst e0
   cases hs
   exact hv
  ·cases hs
 obtain⟨θ2,hs⟩:=mX _ rfl _ _ za
 have hr:=hs.slots 0 r2 rfl
 exact⟨⟨v,θ2,rfl,hr,⟨hs.owns,hs.apart,fun i b k hi hk=>(hs.mine i b k hi hk).1⟩,fun i b k hi hk=>(hs.mine i b k hi hk).2,hs.base.2⟩,hs.fr.os,hs.fr.tape,hs.fr.output,hs.fr.size,hs.fr.block⟩
end Go.Av
namespace Go.Proofs.YtiphlhoclaogjaaGreatDoor
open Go Go.Av
attribute [local irreducible] C7 B2 D3 C9 DQ D0 C8 St.le A3 B9
set_option maxRecDepth 100000
theorem aS(l:List UInt8)(a:Nat)(hl:l.length≤400):B9 Tryz.prog 89 1 (R4 l a) [.ref 0 0] 1 (R4 l (CO l a).2) (sA (CO l a).1) :=
 Hm (ct l a hl) rfl fun E h0=>A6 h0
theorem aT(l:List UInt8)(a:Nat)(s:A4)(hd:E7 s)(hl:l.length≤400):B9 Tryz.prog 91 1 (R4 l a) [.ref 0 0,sA s] 1 (R4 l (k5 l a s).2) (.sl 1 ((k5 l a s).1.map wA)) :=
 Hm (dF l a s hd hl) rfl fun E h0=>A6 h0
def TS(b:UInt8):Bool:=decide (97≤b.toNat∧b.toNat≤122∨48≤b.toNat∧b.toNat≤57∨b.toNat=95)
theorem Ls{p:UInt8→Bool}:∀{t:List UInt8} {n:Nat},(∀i b,i<n→t[i]?=some b→p b=true)→n≤t.length→(∀b,t[n]?=some b→p b=false)→t.takeWhile p=t.take n∧t.dropWhile p=t.drop n
 |[],n,_,hn,_=>by
  have:n=0:=by simpa using hn
  subst this;exact⟨rfl,rfl⟩
 |a::r,0,_,_,h2=>by
  have:=h2 a rfl
  rw[List.takeWhile_cons,List.dropWhile_cons,this]
  exact⟨rfl,rfl⟩
 |a::r,n+1,h1,hn,h2=>by
  have ha:=h1 0 a (by omega) rfl
  obtain⟨i1,i2⟩:=Ls (p:=p) (t:=r) (n:=n) (fun i b hi hb=>h1 (i+1) b (by omega) (by simpa using hb)) (by simpa using hn) (fun b hb=>h2 b (by simpa using hb))
  rw[List.takeWhile_cons,List.dropWhile_cons,ha,i1,i2]
  exact⟨rfl,rfl⟩
abbrev jT:List UInt8:=[32,117,110,100,101,114,32]
abbrev kO:List UInt8:=[32,102,114,111,109,32]
abbrev lQ:List UInt8:=[32,116,111,32]
abbrev kP:List UInt8:=[32,109,105,115,115,105,110,103]
abbrev ky:List UInt8:=[32,97,110,100,32]
abbrev lR:List UInt8:=[32,111,114,32]
abbrev kz:List UInt8:=[110,111,116,32]
abbrev lC:List UInt8:=[97,108,108]
structure Rd4 where
 c:B1
 ok:Bool
 t:List UInt8
 left:Int
def Xu(s:A4)(col:Int):List UInt8:=(C0 s col).name
def kQ(s:A4)(col code:Int):List UInt8:=((C2 s (C0 s col)).2.getD code.toNat ⟨[],0⟩).name
mutual
def lD(s:A4):B1→List UInt8
 |.mk o c k l h ks =>
  if o=2 then Xu s c++jT++kQ s c k
  else if o=3 then Xu s c++kO++Lib.itoa l++lQ++Lib.itoa h
  else if o=4 then Xu s c++kP
  else if o=5 then [40]++(Ow s ks).getD 0 []++ky++(Ow s ks).getD 1 []++[41]
  else if o=6 then [40]++(Ow s ks).getD 0 []++lR++(Ow s ks).getD 1 []++[41]
  else if o=7 then kz++(Ow s ks).getD 0 []
  else lC
def Ow(s:A4):List B1→List (List UInt8)
 |[]=>[]
 |x::r=>lD s x::Ow s r
end
def jU(t:List UInt8)(n:Nat):Prop:=n≤t.length∧∀i b,i<n→t[i]?=some b→TS b=true
theorem jU.all{t:List UInt8}{n:Nat}(h:jU t n)(hn:¬(n:Int)<t.length):t.takeWhile TS=t.take n∧t.dropWhile TS=t.drop n :=
 Ls (fun i c hi hc=>h.2 i c hi hc) h.1 (fun c hc=>by have:=(List.getElem?_eq_some_iff.1 hc).1;omega)
def kR(u:List UInt8):Prop:=∀b r,u=b::r→TS b=false
def aU(b:UInt8):Bool:=decide (b.toNat≠32∧b.toNat≠40∧b.toNat≠41)
def ep(u:List UInt8):Prop:=∀b r,u=b::r→aU b=false
theorem kS{b:UInt8}(h:TS b=true):aU b=true:=by
 unfold TS at h
 unfold aU
 have:=of_decide_eq_true h
 exact decide_eq_true (by omega)
theorem ep.stops{u:List UInt8}(h:ep u):kR u:=fun b r e=>by
 have h1:=h b r e
 cases hw:TS b
 ·rfl
 ·rw[kS hw]at h1;cases h1
def jV(t:List UInt8)(n:Nat):Prop:=n≤t.length∧∀i b,i<n→t[i]?=some b→aU b=true
theorem jV.all{t:List UInt8}{n:Nat}(h:jV t n)(hn:¬(n:Int)<t.length):t.takeWhile aU=t.take n :=
 (Ls (fun i c hi hc=>h.2 i c hi hc) h.1 (fun c hc=>by have:=(List.getElem?_eq_some_iff.1 hc).1;omega)).1
abbrev F8(r:List Int):List AV:=[.sl 1 (r.map wA)]
def r9(row:List Int):List (List Int)×Bool→List Int→List (List Int)×Bool
 |(out,done),x=>if x.headD 0=row.headD 0 then (out,done)else if row.headD 0<x.headD 0∧done=false then (out++[row]++[x],true)else (out++[x],done)
def BL(l:List (List Int))(row:List Int):List (List Int) :=
 let q:=l.foldl (r9 row) ([],false)
 if q.2=true then q.1 else q.1++[row]
theorem dG{l:List (List Int)}{row x:List Int}{k:Nat}(hx:l[k]?=some x):(l.take (k+1)).foldl (r9 row) ([],false)=r9 row ((l.take k).foldl (r9 row) ([],false)) x:=by
 rw[H6 hx,List.foldl_append];rfl
theorem Ox(row:List Int):∀(l:List (List Int)) (q:List (List Int)×Bool),(l.foldl (r9 row) q).1.length+(if q.2=true then 1 else 0)≤q.1.length+l.length+(if (l.foldl (r9 row) q).2=true then 1 else 0)
 |[],q=>Nat.le_refl _
 |x::r,(out,done)=>by
  have ih:=Ox row r (r9 row (out,done) x)
  rw[List.foldl_cons]
  have h1:(r9 row (out,done) x).1.length+(if done=true then 1 else 0)≤out.length+1+(if (r9 row (out,done) x).2=true then 1 else 0):=by
   simp only[r9]
   split
   ·dsimp only;omega
   ·split
    ·rename_i h;rw[h.2];simp
    ·simp
  rw[List.length_cons]
  dsimp only at ih ⊢
  omega
theorem Lt(l:List (List Int))(row:List Int):(BL l row).length≤l.length+1:=by
 have h:=Ox row l ([],false)
 unfold BL
 dsimp only at h ⊢
 split
 ·rename_i h2;rw[if_pos h2]at h;simp at h;omega
 ·rename_i h2;rw[if_neg h2]at h;simp at h ⊢;omega
theorem TT(l:List (List Int))(row:List Int)(hl:l.length≤1000000)(h1:∀x∈l,x≠[])(h2:row≠[]):A3 Tryz.prog 90 [.sl 1 (l.map F8),.sl 1 (row.map wA)] (.sl 1 ((BL l row).map F8)):=by
 obtain⟨r0,mw⟩:∃z,row[0]?=some z:=⟨_,List.getElem?_eq_getElem (List.length_pos_iff.2 h2)⟩
 have xM:row.headD 0=r0:=by cases row with|nil=>cases mw|cons a r=>simp at mw;exact mw
 refine B6 Tryz.func90 56 fun lW E h0=>?_
 clear lW
 repeat'((first|refine S2 ?_|(refine T6 ?_ ?_<;>intro h<;>try exact V1 h)|intro el lU lV|intro el lU|exact T4|refine T5 ?_ ?_|intro ex)<;>try conv=>whnf)
 have hN:=Ox row
 refine B0 (ι:=Nat×List (List Int)×Bool) (fun x=>⟨[(0,.sl 1 (l.map F8)),(1,.sl 1 (row.map wA)),(5,.row 0 0 x.2.1.length),(6,.b x.2.2),(7,.i x.1)],1,[(0,some (.row 37 1 0 (x.2.1.map F8)))]⟩) (fun x=>x.1≤l.length∧(l.take x.1).foldl (r9 row) ([],false)=x.2) (fun x=>l.length-x.1) (0,[],false) ⟨Nat.zero_le _,rfl⟩
  (B5 (I9 (d:=5) (e:=37) (sz:=1) rfl) (A9 h0 rfl ⟨rfl,rfl,rfl,rfl,rfl,trivial⟩ ⟨⟨0,rfl⟩,trivial⟩ rfl rfl rfl)) (fun x hI=>?_)
 obtain⟨k,out,done⟩:=x
 obtain⟨hk,hI⟩:=hI
 dsimp only at hk hI ⊢
 have lX:=hN (l.take k) ([],false)
 rw[hI]at lX
 have pa:out.length≤1000001:=by
  simp only[List.length_take,List.length_nil]at lX
  split at lX<;>split at lX<;>omega
 clear lX hN
 by_cases lY:k<l.length
 ·obtain⟨x,hx⟩:∃x,l[k]?=some x:=⟨_,List.getElem?_eq_getElem lY⟩
  have wo:=h1 x (List.mem_of_getElem? hx)
  obtain⟨x0,nf⟩:∃z,x[0]?=some z:=⟨_,List.getElem?_eq_getElem (List.length_pos_iff.2 wo)⟩
  have hxd:x.headD 0=x0:=by cases x with|nil=>cases nf|cons a r=>simp at nf;exact nf
  have nE:=dG (row:=row) hx
  rw[hI]at nE
  simp only[r9,hxd,xM]at nE
  by_cases e1:x0=r0
  ·rw[if_pos e1]at nE
   repeat'((first|(refine A2 (x:=x) hx (by omega) ?_)|(refine A2 (x:=x0) nf (by omega) ?_)|(refine A2 (x:=r0) mw (by omega) ?_)|(refine B3 ?_ ?_;kernel_rfl) |refine S2 ?_|(refine T6 ?_ ?_<;>intro h<;>try exact V1 h)|intro el lU lV|intro el lU|exact T4|refine T5 ?_ ?_|intro ex)<;>try conv=>whnf)
   all_goals first
    |exact⟨(k+1,out,done),⟨by dsimp only;omega,nE⟩,by dsimp only;omega,A6 h0⟩
    |(exfalso;omega)
  ·rw[if_neg e1]at nE
   cases hd:done with
   |true =>
    subst hd
    rw[if_neg (by simp)]at nE
    repeat'((first|(refine A2 (x:=x) hx (by omega) ?_)|(refine A2 (x:=x0) nf (by omega) ?_)|(refine A2 (x:=r0) mw (by omega) ?_)|(refine B3 ?_ ?_;kernel_rfl) |refine S2 ?_|(refine T6 ?_ ?_<;>intro h<;>try exact V1 h)|intro el lU lV|intro el lU|exact T4|refine T5 ?_ ?_|intro ex)<;>try conv=>whnf)
    all_goals first
     |exact⟨(k+1,out++[x],true),⟨by dsimp only;omega,nE⟩,by dsimp only;omega,A9 h0 rfl ⟨rfl,rfl,congrArg (fun z=>some (AV.row 0 0 z)) (by simp[L9]),rfl,rfl,trivial⟩ ⟨⟨_,congrArg (C6.row 37 1 _) (by rw[List.map_append];rfl)⟩,trivial⟩ rfl rfl rfl⟩
     |(exfalso;omega)
   |false =>
    subst hd
    by_cases e2:r0<x0
    ·rw[if_pos ⟨e2,rfl⟩]at nE
     repeat'((first|(refine A2 (x:=x) hx (by omega) ?_)|(refine A2 (x:=x0) nf (by omega) ?_)|(refine A2 (x:=r0) mw (by omega) ?_)|(refine B3 ?_ ?_;kernel_rfl) |refine S2 ?_|(refine T6 ?_ ?_<;>intro h<;>try exact V1 h)|intro el lU lV|intro el lU|exact T4|refine T5 ?_ ?_|intro ex)<;>try conv=>whnf)
     all_goals first
      |exact⟨(k+1,out++[row]++[x],true),⟨by dsimp only;omega,nE⟩,by dsimp only;omega,A9 h0 rfl ⟨rfl,rfl,congrArg (fun z=>some (AV.row 0 0 z)) (by simp[L9]),rfl,rfl,trivial⟩ ⟨⟨_,congrArg (C6.row 37 1 _) (by rw[List.map_append,List.map_append];rfl)⟩,trivial⟩ rfl rfl rfl⟩
      |(exfalso;omega)
    ·rw[if_neg (fun h=>e2 h.1)]at nE
     repeat'((first|(refine A2 (x:=x) hx (by omega) ?_)|(refine A2 (x:=x0) nf (by omega) ?_)|(refine A2 (x:=r0) mw (by omega) ?_)|(refine B3 ?_ ?_;kernel_rfl) |refine S2 ?_|(refine T6 ?_ ?_<;>intro h<;>try exact V1 h)|intro el lU lV|intro el lU|exact T4|refine T5 ?_ ?_|intro ex)<;>try conv=>whnf)
     all_goals first
      |exact⟨(k+1,out++[x],false),⟨by dsimp only;omega,nE⟩,by dsimp only;omega,A9 h0 rfl ⟨rfl,rfl,congrArg (fun z=>some (AV.row 0 0 z)) (by simp[L9]),rfl,rfl,trivial⟩ ⟨⟨_,congrArg (C6.row 37 1 _) (by rw[List.map_append];rfl)⟩,trivial⟩ rfl rfl rfl⟩
      |(exfalso;omega)
 ·obtain rfl:k=l.length:=by omega
  rw[List.take_length]at hI
  have hP:BL l row=if done=true then out else out++[row]:=by unfold BL;rw[hI]
  cases done with
  |true =>
   rw[hP,if_pos rfl]
   repeat'((first|refine S2 ?_|(refine T6 ?_ ?_<;>intro h<;>try exact V1 h)|intro el lU lV|intro el lU|exact T4|refine T5 ?_ ?_|intro ex)<;>try conv=>whnf)
   all_goals first
    |exact A0 rfl rfl
    |(exfalso;omega)
  |false =>
   rw[hP,if_neg (by simp)]
   repeat'((first|refine S2 ?_|(refine T6 ?_ ?_<;>intro h<;>try exact V1 h)|intro el lU lV|intro el lU|exact T4|refine T5 ?_ ?_|intro ex)<;>try conv=>whnf)
   all_goals first
    |exact A0 rfl (congrArg (AV.sl 1) (by rw[List.map_append];rfl))
    |(exfalso;omega)
structure N5 where
 prj:List UInt8
 ver:Int
 picks:List Pk
 rows:List (List Int)
abbrev Fx(x:N5):List AV:=[.str x.prj,.i x.ver,.sl 2 (x.picks.map B4),.sl 1 (x.rows.map F8)]
abbrev c9(x:N5):AV:=.agg (Fx x)
def AN(s:A4)(picks:List Pk)(row:List Int):Bool:=decide (row.length=picks.length+1∧0≤row.headD 0∧row.headD 0≤1048575) && s6 s (picks.zip row.tail)
def An(s:A4)(x:N5)(i:Nat)(r:List Int):Int:=if AN s x.picks r=false then 9 else if 0<i∧r.headD 0≤(x.rows.getD (i-1) []).headD 0 then 10 else 0
def P6(s:A4)(x:N5):Int :=
 if ¬C3 s=0 then C3 s else if D6 x.prj=false then 3 else if x.ver<0∨300<x.ver then 13 else if ¬I5 s x.picks=0 then I5 s x.picks else if 200<x.rows.length then 1 else F0 (An s x) 0 x.rows
def Q0(s:A4)(column level:Int):List (Pk×Int)→Int×Bool
 |[]=>T8 s column 0 0 level
 |(p,v)::r=>if p.col=column then T8 s column p.lev v level else Q0 s column level r
theorem dH{row:List Int}{k:Nat}{v:Int}(h:row[k+1]?=some v):row.tail[k]?=some v:=by cases row with|nil=>simp at h|cons a r=>simpa using h
theorem Lu{picks:List Pk}{row:List Int}{k:Nat}{p:Pk}{v:Int}(h1:picks[k]?=some p)(h2:row[k+1]?=some v):(picks.zip row.tail)[k]?=some (p,v):=by
 rw[List.getElem?_zip_eq_some];exact⟨h1,dH h2⟩
theorem Q5{row:List Int}{v:Int}(h:row[0]?=some v):row.headD 0=v:=by cases row with|nil=>simp at h|cons a r=>simpa using h
theorem QO{s:A4}{l:List Pk}(h:I5 s l=0):∀(k:Nat) p,l[k]?=some p→(k:Int)+1≤p.col
 |0,p,hp=>by have:=(z8 h 0 p hp).1;omega
 |k+1,p,hp=>by
  obtain⟨q,hq⟩:∃q,l[k]?=some q:=⟨_,List.getElem?_eq_getElem (by have:=F5 hp;omega)⟩
  have ih:=QO h k q hq
  unfold I5 at h
  by_cases hr:C3 s=0
  ·rw[if_pos hr]at h
   have h2:=R6 h (k+1) p hp
   rw[Nat.zero_add]at h2
   unfold Db at h2
   split at h2
   ·split at h2
    ·cases h2
    ·rename_i h3
     rw[show k+1-1=k by omega,E4 hq]at h3
     have:¬p.col≤q.col:=fun h=>h3 ⟨by omega,h⟩
     omega
   ·contradiction
  ·rw[if_neg hr]at h;exact absurd h hr
theorem AA{s:A4}{l:List Pk}(h:I5 s l=0):l.length≤s.cols.length:=by
 by_cases h0:l.length=0
 ·omega
 ·obtain⟨p,hp⟩:∃p,l[l.length-1]?=some p:=⟨_,List.getElem?_eq_getElem (by omega)⟩
  have h1:=QO h _ p hp
  have h2:=(z8 h _ p hp).2.1
  omega
theorem VC(s:A4)(hr:C3 s=0)(picks:List Pk)(hp:I5 s picks=0)(row:List Int):A3 Tryz.prog 101 [sA s,.sl 2 (picks.map B4),.sl 1 (row.map wA)] (.b (AN s picks row)):=by
 have uk:=z8 hp
 have lX:=AA hp
 have ly:=(D5 hr).2.1
 unfold AN
 by_cases hl:row.length=picks.length+1
 ·obtain⟨r0,mw⟩:∃z,row[0]?=some z:=⟨_,List.getElem?_eq_getElem (by omega)⟩
  rw[Q5 mw]
  by_cases h01:0≤r0∧r0≤1048575
  ·rw[decide_eq_true ⟨hl,h01.1,h01.2⟩,Bool.true_and]
   generalize tG:picks.zip row.tail=pv at *
   have wg:pv.length=picks.length:=by rw[←tG,List.length_zip,List.length_tail];omega
   refine B6 Tryz.func101 53 fun lW E h0=>?_
   clear lW
   repeat'((first|(refine A2 (x:=r0) mw (by omega) ?_) |refine S2 ?_|(refine T6 ?_ ?_<;>intro h<;>try exact V1 h)|intro el lU lV|intro el lU|exact T4|refine T5 ?_ ?_|intro ex)<;>try conv=>whnf)
   all_goals first
    |(exfalso;omega)
    |skip
   refine B0 (ι:=Nat) (fun k=>⟨[(2,.sl 1 (row.map wA)),(3,.ref 0 0),(29,.sl 2 (picks.map B4)),(30,.i picks.length),(31,.i k)],1,[(0,some (.box (sL s)))]⟩)
    (fun k=>k≤picks.length∧s6 s (pv.take k)=true) (fun k=>picks.length-k) 0 ⟨Nat.zero_le _,rfl⟩
    (A6 h0) (fun k hK=>?_)
   obtain⟨nr,hK⟩:=hK
   by_cases lk:k<picks.length
   ·obtain⟨p,oI⟩:∃p,picks[k]?=some p:=⟨_,List.getElem?_eq_getElem lk⟩
    obtain⟨v,qo⟩:∃v,row[k+1]?=some v:=⟨_,List.getElem?_eq_getElem (by omega)⟩
    have uf:row[((k:Int)+1).toNat]?=some v:=by rw[show ((k:Int)+1).toNat=k+1 by omega];exact qo
    have hq:pv[k]?=some (p,v):=by rw[←tG];exact Lu oI qo
    obtain⟨c1,c2,c3,c4⟩:=uk k p oI
    obtain⟨x,hx⟩:∃x,s.cols[p.col.toNat]?=some x:=⟨_,List.getElem?_eq_getElem (by omega)⟩
    have sS:=JX s hr p.col p.lev v x c1 hx c3 c4
    have nO:s6 s (pv.take (k+1))=(M2 s p.col p.lev v).2:=by
     unfold s6 at hK ⊢
     rw[H6 hq,List.all_append,hK]
     simp
    have qC:(M2 s p.col p.lev v).2=false→s6 s pv=false:=fun h=>KV hq h
    generalize M2 s p.col p.lev v=S at *
    obtain⟨w,ok⟩:=S
    dsimp only at *
    cases ok
    ·rw[qC rfl]
     repeat'((first|refine A1 sS ?_|(refine A2 (x:=p) oI (by omega) ?_)|(refine A2 (x:=v) uf (by omega) ?_)|(refine B3 ?_ ?_;kernel_rfl) |refine S2 ?_|(refine T6 ?_ ?_<;>intro h<;>try exact V1 h)|intro el lU lV|intro el lU|exact T4|refine T5 ?_ ?_|intro ex)<;>try conv=>whnf)
     all_goals first
      |(exfalso;omega)
      |exact A0 rfl rfl
    ·repeat'((first|refine A1 sS ?_|(refine A2 (x:=p) oI (by omega) ?_)|(refine A2 (x:=v) uf (by omega) ?_)|(refine B3 ?_ ?_;kernel_rfl) |refine S2 ?_|(refine T6 ?_ ?_<;>intro h<;>try exact V1 h)|intro el lU lV|intro el lU|exact T4|refine T5 ?_ ?_|intro ex)<;>try conv=>whnf)
     all_goals first
      |(exfalso;omega)
      |exact⟨k+1,⟨by omega,nO⟩,by omega,A6 h0⟩
   ·have oH:pv.take k=pv:=List.take_of_length_le (by omega)
    rw[oH]at hK
    rw[hK]
    repeat'((first|refine S2 ?_|(refine T6 ?_ ?_<;>intro h<;>try exact V1 h)|intro el lU lV|intro el lU|exact T4|refine T5 ?_ ?_|intro ex)<;>try conv=>whnf)
    all_goals first
     |(exfalso;omega)
     |exact A0 rfl rfl
  ·rw[decide_eq_false (fun h=>h01 ⟨h.2.1,h.2.2⟩),Bool.false_and]
   refine B6 Tryz.func101 53 fun lW E h0=>?_
   clear lW
   repeat'((first|(refine A2 (x:=r0) mw (by omega) ?_) |refine S2 ?_|(refine T6 ?_ ?_<;>intro h<;>try exact V1 h)|intro el lU lV|intro el lU|exact T4|refine T5 ?_ ?_|intro ex)<;>try conv=>whnf)
   all_goals first
    |(exfalso;omega)
    |exact A0 rfl rfl
 ·rw[decide_eq_false (fun h=>hl h.1),Bool.false_and]
  refine B6 Tryz.func101 53 fun lW E h0=>?_
  have rY:row.length≤9223372036854775807:=by have:=(lW (.sl 1 (row.map wA)) (by simp)).sl;simpa using this
  clear lW
  repeat'((first|refine S2 ?_|(refine T6 ?_ ?_<;>intro h<;>try exact V1 h)|intro el lU lV|intro el lU|exact T4|refine T5 ?_ ?_|intro ex)<;>try conv=>whnf)
  all_goals first
   |(exfalso;omega)
   |exact A0 rfl rfl
end Go.Proofs.YtiphlhoclaogjaaGreatDoor
