/- Draws: values, rows and picks: the walks. -/
import Derived.Test.YtjkbhaaobhgkdabGreatDoorRB13
import Derived.Test.YtjkbhaaobhgkdabGreatDoorRSx
import Derived.Test.YtjkbhaaobhgkdabGreatDoorRAvTy
import Derived.Test.YtjkbhaaobhgkdabGreatDoorRE3
import Derived.Test.YtjkbhaaobhgkdabGreatDoorRB12
import Derived.Lib.ItoaNum
import Derived.Lib.AtoiAll
import Derived.Shelf.LaysM
import Derived.Shelf.Strconv.Itoa3
import Derived.Test.YtjkbhaaobhgkdabGreatDoorProg
import Derived.Lib.AppendIntMem
import Derived.Lib.AtoiErrMem
import Derived.Test.YtjkbhaaobhgkdabGreatDoorRCf1
import Derived.Test.YtjkbhaaobhgkdabGreatDoorRDr8
import Derived.Lib.AtoiAllCases
import Derived.Lib.ItoaLen
import Derived.Lib.Join
import Derived.Lib.IndexMore
set_option linter.unusedVariables false
set_option linter.unnecessarySimpa false
set_option linter.unusedSimpArgs false
set_option maxHeartbeats 64000000
namespace Go.Proofs.YtjkbhaaobhgkdabGreatDoor
open Go Go.Av
attribute [local irreducible] D0 B0 D2 C7 DQ D1 C8 St.le A3 B6
set_option maxRecDepth 100000
theorem km{l:List UInt8}{a:Nat}{s:A4}{k:Int}{c:D4}(nh:B4 s k=c)(h:c.kind=1):u4 l a s k=(1+((B3 l a 60).1:Int),(B3 l a 60).2):=by unfold u4;dsimp only;rw[nh,if_pos h]
theorem kn{l:List UInt8}{a:Nat}{s:A4}{k:Int}{c:D4}(nh:B4 s k=c)(h1:¬c.kind=1)(h:c.kind=2):u4 l a s k=((((J3 s k).getD (B3 l a (J3 s k).length).1 0:Nat):Int),(B3 l a (J3 s k).length).2):=by unfold u4;dsimp only;rw[nh,if_neg h1,if_pos h]
theorem ko{l:List UInt8}{a:Nat}{s:A4}{k:Int}{c:D4}(nh:B4 s k=c)(h1:¬c.kind=1)(h2:¬c.kind=2)(h:c.opt=true)(h4:((B3 l a 4).1:Int)=3):u4 l a s k=((-1099511627776),(B3 l a 4).2):=by unfold u4;dsimp only;rw[nh,if_neg h1,if_neg h2,if_pos h,if_pos h4]
theorem kp{l:List UInt8}{a:Nat}{s:A4}{k:Int}{c:D4}(nh:B4 s k=c)(h1:¬c.kind=1)(h2:¬c.kind=2)(h:c.opt=true)(h4:¬((B3 l a 4).1:Int)=3):u4 l a s k=(c.low+((B3 l (B3 l a 4).2 (c.high-c.low+1)).1:Int),(B3 l (B3 l a 4).2 (c.high-c.low+1)).2):=by unfold u4;dsimp only;rw[nh,if_neg h1,if_neg h2,if_pos h,if_neg h4]
theorem kq{l:List UInt8}{a:Nat}{s:A4}{k:Int}{c:D4}(nh:B4 s k=c)(h1:¬c.kind=1)(h2:¬c.kind=2)(h:c.opt=false):u4 l a s k=(c.low+((B3 l a (c.high-c.low+1)).1:Int),(B3 l a (c.high-c.low+1)).2):=by unfold u4;dsimp only;rw[nh,if_neg h1,if_neg h2,if_neg (by rw[h];exact Bool.false_ne_true)]
theorem YY(l:List UInt8)(a:Nat)(s:A4)(k:Nat){c:D4}(hd:C4 s)(hc:s.cols[k]?=some c)(hl:l.length≤400):B6 Tryz.prog 79 1 (V3 l a) [.ref 0 0,sA s,.i k] 1 (V3 l (u4 l a s k).2) (.i (u4 l a s k).1):=by
 have nh:B4 s k=c:=B7 (by simpa using hc)
 have nR:=D6 hc
 have qc:=hd.lens
 have hm:¬c.kind=1→¬c.kind=2→c.low≤c.high∧-4≤c.low∧c.high≤46:=by
  rcases hd.col hc with ⟨_,rfl⟩|⟨_,rfl|rfl⟩|⟨_,nm,hm⟩
  ·intro h;exact absurd rfl h
  ·intro _ h;exact absurd rfl h
  ·intro _ h;exact absurd rfl h
  ·have:=hm.low;have:=hm.high;omega
 have qa:c.kind=2→A3 Tryz.prog 116 [sA s,.i k] (.sl 1 ((J3 s k).map iA)):=fun h=>GX s k (by omega) (by simpa using hc) (hd.lvs hc h).1
 have rl:c.kind=2→(J3 s k).length≤10∧(J3 s k)[(B3 l a (J3 s k).length).1]?=some ((J3 s k).getD (B3 l a (J3 s k).length).1 0):=by
  intro h
  obtain⟨_,_,h1,h2⟩:=hd.lvs hc h
  have hn:=F9 l a (n:=(J3 s k).length) (by omega)
  have:(B3 l a (J3 s k).length).1<(J3 s k).length:=by omega
  rw[List.getD_eq_getElem?_getD,List.getElem?_eq_getElem this]
  exact⟨h2,rfl⟩
 have r1:=l5 l a 1 60 hl (by omega) (by omega) (by omega)
 have r2:=fun (h1:¬c.kind=1) (h2:¬c.kind=2) (b:Nat)=>l5 l b c.low c.high hl (hm h1 h2).1 (by have:=hm h1 h2;omega) (by have:=hm h1 h2;omega)
 have r3:=Bx l a 4 hl (by omega)
 have r4:=J2 l a (J3 s k).length hl
 refine X6 Tryz.func79 44 fun E h0=>?_
 repeat'((first|(refine A2 (x:=c) hc (by omega) ?_)|(refine A2 (rl (by assumption)).2 (by omega) ?_)|refine A1 (qa (by assumption)) ?_|refine⟨F6 [0] [0] r1 rfl rfl rfl rfl rfl ⟨rfl,trivial⟩ rfl rfl rfl rfl rfl ?_⟩|refine⟨F6 [0] [0] (r2 (by assumption) (by assumption) _) rfl rfl rfl rfl rfl ⟨rfl,trivial⟩ rfl rfl rfl rfl rfl ?_⟩|refine⟨F6 [0] [0] r3 rfl rfl rfl rfl rfl ⟨rfl,trivial⟩ rfl rfl rfl rfl rfl ?_⟩|refine⟨F6 [0] [0] r4 rfl rfl rfl rfl rfl ⟨rfl,trivial⟩ rfl rfl rfl rfl rfl ?_⟩ |refine S2 ?_|(refine T6 ?_ ?_<;>intro h<;>try exact V1 h)|intro el nN nP|intro el nN|exact T4|refine T5 ?_ ?_|intro ex)<;>try conv=>whnf)
 all_goals first
  |(rw[km nh (by assumption)];exact G9 (A6 h0))
  |(rw[kn nh (by assumption) (by assumption)];exact G9 (A6 h0))
  |(rw[ko nh (by assumption) (by assumption) (by assumption) (by omega)];exact G9 (A6 h0))
  |(rw[kp nh (by assumption) (by assumption) (by assumption) (by omega)];exact G9 (A6 h0))
  |(rw[kq nh (by assumption) (by assumption) (by assumption)];exact G9 (A6 h0))
theorem eG(l:List UInt8)(a:Nat)(s:A4)(hd:C4 s)(hl:l.length≤400):B6 Tryz.prog 40 1 (V3 l a) [.ref 0 0,sA s] 2 [(0,some (.box [.sl 1 (l.map O2),.i (j5 l a s).2])),(1,some (.row 3 1 0 ((j5 l a s).1.map wA)))] (.row 1 0 s.cols.length):=by
 have qc:=hd.lens
 refine X6 Tryz.func40 22 fun E h0=>?_
 repeat'((first|refine S2 ?_|(refine T6 ?_ ?_<;>intro h<;>try exact V1 h)|intro el nN nP|intro el nN|exact T4|refine T5 ?_ ?_|intro ex)<;>try conv=>whnf)
 refine B2 (ι:=Nat×List Int×Nat) (fun x=>⟨[(0,.ref 0 0),(3,.ref 1 0),(5,.row 2 0 x.1),(9,.i s.cols.length),(10,.i x.1)],3,[(0,some (.box [.sl 1 (l.map O2),.i x.2.2])),(1,some (.box (sL s))),(2,some (.row 3 1 0 (x.2.1.map wA)))]⟩)
  (fun x=>x.1≤s.cols.length∧x.2.1.length=x.1∧j5 l a s=rowFrom l s x.1 x.2 (s.cols.length-x.1)) (fun x=>s.cols.length-x.1) (0,[],a) ⟨by dsimp only;omega,rfl,rfl⟩
  (C2 (K4 (d:=5) (e:=3) (sz:=1) rfl) (A8 h0 rfl ⟨rfl,rfl,rfl,rfl,rfl,trivial⟩ ⟨rfl,rfl,⟨0,rfl⟩,trivial⟩ rfl rfl rfl)) (fun x hI=>?_)
 obtain⟨k,out,b⟩:=x
 obtain⟨hk,nO,hI⟩:=hI
 dsimp only at hk nO hI ⊢
 have hv:=fun (h:(k:Int)<s.cols.length)=>YY l b s k hd (List.getElem?_eq_getElem (show k<s.cols.length by omega)) hl
 repeat'((first|refine⟨F6 [0] [0] (hv (by assumption)) rfl rfl rfl rfl rfl ⟨rfl,trivial⟩ rfl rfl rfl rfl rfl ?_⟩ |refine S2 ?_|(refine T6 ?_ ?_<;>intro h<;>try exact V1 h)|intro el nN nP|intro el nN|exact T4|refine T5 ?_ ?_|intro ex)<;>try conv=>whnf)
 all_goals first
  |exact⟨(k+1,out++[(u4 l b s k).1],(u4 l b s k).2),⟨by dsimp only;omega,by dsimp only;rw[List.length_append,List.length_singleton,nO],by rw[hI,show s.cols.length-k=(s.cols.length-(k+1))+1 by omega];rfl⟩,by dsimp only;omega,A8 h0 rfl ⟨rfl,rfl,rfl,rfl,rfl,trivial⟩ ⟨rfl,rfl,⟨_,congrArg (C9.row 3 1 _) (by rw[List.map_append];rfl)⟩,trivial⟩ rfl rfl rfl⟩
  |(have e:j5 l a s=(out,b):=by rw[hI,show s.cols.length-k=0 by omega];rfl
    have ek:k=s.cols.length:=by omega
    rw[e]
    exact G9 (C2 (BZ 1 2 h0 rfl rfl) (A8 h0 rfl ⟨congrArg (fun z:Nat=>some (AV.row 1 0 z)) ek,trivial⟩ ⟨rfl,⟨_,rfl⟩,trivial⟩ rfl rfl rfl)))
end Go.Proofs.YtjkbhaaobhgkdabGreatDoor
namespace Go.Av
open Go Go.RowKit
theorem MH{P:Program}{f m0 m1 m2:Nat}{hp0 hp1 hp2:Hp}{args:List AV}{r r2:AV}(h:B6 P f m0 hp0 args m1 hp1 r)(hm:Nat.ble m0 m1=true)(ob:∀E:Env,E.n0=m0→St.le E 1 ⟨[(0,r)],m1,hp1⟩ ⟨[(0,r2)],m2,hp2⟩):B6 P f m0 hp0 args m2 hp2 r2:=by
 refine⟨h.1,fun X θ w vs hX oM rM hl pz=>?_⟩
 refine Calls.mono (h.2 X θ w vs hX oM rM hl pz) ?_
 rintro e w' ⟨⟨v,θ',rfl,hv,rH,nT,hθ⟩,rz,qP,rL,nY,oh⟩
 have sat:e7 ⟨w,X,owned θ hp0,θ,m0,oM,false⟩ 1 ⟨[(0,r)],m1,hp1⟩ { tmps:=#[v],defers:=[] } w':=by
  refine⟨θ',rfl,.nil,⟨rz,qP,rL,nY,oh⟩,fun s x hs=>?_,rH.owns,rH.apart,fun i b k hi hk=>⟨rH.fresh i b k hi hk,nT i b k hi hk⟩,hX,⟨Nat.ble_eq▸hm,hθ⟩⟩
  rw[E4]at hs
  split at hs
  ·rename_i e0
   subst e0
   cases hs
   exact hv
  ·cases hs
 obtain⟨θ2,hs⟩:=ob _ rfl _ _ sat
 have hr:=hs.slots 0 r2 rfl
 exact⟨⟨v,θ2,rfl,hr,⟨hs.owns,hs.apart,fun i b k hi hk=>(hs.mine i b k hi hk).1⟩,fun i b k hi hk=>(hs.mine i b k hi hk).2,hs.base.2⟩,hs.fr.os,hs.fr.tape,hs.fr.output,hs.fr.size,hs.fr.block⟩
end Go.Av
namespace Go.Proofs.YtjkbhaaobhgkdabGreatDoor
open Go Go.Av
attribute [local irreducible] D0 B0 D2 C7 DQ D1 C8 St.le A3 B6
set_option maxRecDepth 100000
theorem bK(l:List UInt8)(a:Nat)(hl:l.length≤400):B6 Tryz.prog 37 1 (V3 l a) [.ref 0 0] 1 (V3 l (Bz l a).2) (sA (Bz l a).1) :=
 MH (du l a hl) rfl fun E h0=>A6 h0
theorem bL(l:List UInt8)(a:Nat)(s:A4)(hd:C4 s)(hl:l.length≤400):B6 Tryz.prog 40 1 (V3 l a) [.ref 0 0,sA s] 1 (V3 l (j5 l a s).2) (.sl 1 ((j5 l a s).1.map wA)) :=
 MH (eG l a s hd hl) rfl fun E h0=>A6 h0
def Tf(b:UInt8):Bool:=decide (97≤b.toNat∧b.toNat≤122∨48≤b.toNat∧b.toNat≤57∨b.toNat=95)
theorem MI{p:UInt8→Bool}:∀{t:List UInt8} {n:Nat},(∀i b,i<n→t[i]?=some b→p b=true)→n≤t.length→(∀b,t[n]?=some b→p b=false)→t.takeWhile p=t.take n∧t.dropWhile p=t.drop n
 |[],n,_,hn,_=>by
  have:n=0:=by simpa using hn
  subst this;exact⟨rfl,rfl⟩
 |a::r,0,_,_,h2=>by
  have:=h2 a rfl
  rw[List.takeWhile_cons,List.dropWhile_cons,this]
  exact⟨rfl,rfl⟩
 |a::r,n+1,h1,hn,h2=>by
  have ha:=h1 0 a (by omega) rfl
  obtain⟨i1,i2⟩:=MI (p:=p) (t:=r) (n:=n) (fun i b hi hb=>h1 (i+1) b (by omega) (by simpa using hb)) (by simpa using hn) (fun b hb=>h2 b (by simpa using hb))
  rw[List.takeWhile_cons,List.dropWhile_cons,ha,i1,i2]
  exact⟨rfl,rfl⟩
abbrev kr:List UInt8:=[32,117,110,100,101,114,32]
abbrev mF:List UInt8:=[32,102,114,111,109,32]
abbrev nI:List UInt8:=[32,116,111,32]
abbrev mG:List UInt8:=[32,109,105,115,115,105,110,103]
abbrev mo:List UInt8:=[32,97,110,100,32]
abbrev nJ:List UInt8:=[32,111,114,32]
abbrev mq:List UInt8:=[110,111,116,32]
abbrev mr:List UInt8:=[97,108,108]
structure Rd4 where
 c:B1
 ok:Bool
 t:List UInt8
 left:Int
def YZ(s:A4)(col:Int):List UInt8:=(B4 s col).name
def mH(s:A4)(col code:Int):List UInt8:=((C1 s (B4 s col)).2.getD code.toNat ⟨[],0⟩).name
mutual
def mu(s:A4):B1→List UInt8
 |.mk o c k l h ks =>
  if o=2 then YZ s c++kr++mH s c k
  else if o=3 then YZ s c++mF++Lib.itoa l++nI++Lib.itoa h
  else if o=4 then YZ s c++mG
  else if o=5 then [40]++(PB s ks).getD 0 []++mo++(PB s ks).getD 1 []++[41]
  else if o=6 then [40]++(PB s ks).getD 0 []++nJ++(PB s ks).getD 1 []++[41]
  else if o=7 then mq++(PB s ks).getD 0 []
  else mr
def PB(s:A4):List B1→List (List UInt8)
 |[]=>[]
 |x::r=>mu s x::PB s r
end
def ku(t:List UInt8)(n:Nat):Prop:=n≤t.length∧∀i b,i<n→t[i]?=some b→Tf b=true
theorem ku.all{t:List UInt8}{n:Nat}(h:ku t n)(hn:¬(n:Int)<t.length):t.takeWhile Tf=t.take n∧t.dropWhile Tf=t.drop n :=
 MI (fun i c hi hc=>h.2 i c hi hc) h.1 (fun c hc=>by have:=(List.getElem?_eq_some_iff.1 hc).1;omega)
def mI(u:List UInt8):Prop:=∀b r,u=b::r→Tf b=false
def bM(b:UInt8):Bool:=decide (b.toNat≠32∧b.toNat≠40∧b.toNat≠41)
def gF(u:List UInt8):Prop:=∀b r,u=b::r→bM b=false
theorem mJ{b:UInt8}(h:Tf b=true):bM b=true:=by
 unfold Tf at h
 unfold bM
 have:=of_decide_eq_true h
 exact decide_eq_true (by omega)
theorem gF.stops{u:List UInt8}(h:gF u):mI u:=fun b r e=>by
 have h1:=h b r e
 cases hw:Tf b
 ·rfl
 ·rw[mJ hw]at h1;cases h1
def kv(t:List UInt8)(n:Nat):Prop:=n≤t.length∧∀i b,i<n→t[i]?=some b→bM b=true
theorem kv.all{t:List UInt8}{n:Nat}(h:kv t n)(hn:¬(n:Int)<t.length):t.takeWhile bM=t.take n :=
 (MI (fun i c hi hc=>h.2 i c hi hc) h.1 (fun c hc=>by have:=(List.getElem?_eq_some_iff.1 hc).1;omega)).1
abbrev H1(r:List Int):List AV:=[.sl 1 (r.map wA)]
def o5(row:List Int):List (List Int)×Bool→List Int→List (List Int)×Bool
 |(out,done),x=>if x.headD 0=row.headD 0 then (out,done)else if row.headD 0<x.headD 0∧done=false then (out++[row]++[x],true)else (out++[x],done)
def o6(l:List (List Int))(row:List Int):List (List Int) :=
 let q:=l.foldl (o5 row) ([],false)
 if q.2=true then q.1 else q.1++[row]
theorem eH{l:List (List Int)}{row x:List Int}{k:Nat}(hx:l[k]?=some x):(l.take (k+1)).foldl (o5 row) ([],false)=o5 row ((l.take k).foldl (o5 row) ([],false)) x:=by
 rw[I3 hx,List.foldl_append];rfl
theorem PC(row:List Int):∀(l:List (List Int)) (q:List (List Int)×Bool),(l.foldl (o5 row) q).1.length+(if q.2=true then 1 else 0)≤q.1.length+l.length+(if (l.foldl (o5 row) q).2=true then 1 else 0)
 |[],q=>Nat.le_refl _
 |x::r,(out,done)=>by
  have ih:=PC row r (o5 row (out,done) x)
  rw[List.foldl_cons]
  have h1:(o5 row (out,done) x).1.length+(if done=true then 1 else 0)≤out.length+1+(if (o5 row (out,done) x).2=true then 1 else 0):=by
   simp only[o5]
   split
   ·dsimp only;omega
   ·split
    ·rename_i h;rw[h.2];simp
    ·simp
  rw[List.length_cons]
  dsimp only at ih ⊢
  omega
theorem Hr(l:List (List Int))(row:List Int):(o6 l row).length≤l.length+1:=by
 have h:=PC row l ([],false)
 unfold o6
 dsimp only at h ⊢
 split
 ·rename_i h2;rw[if_pos h2]at h;simp at h;omega
 ·rename_i h2;rw[if_neg h2]at h;simp at h ⊢;omega
theorem Tg(l:List (List Int))(row:List Int)(hl:l.length≤1000000)(h1:∀x∈l,x≠[])(h2:row≠[]):A3 Tryz.prog 39 [.sl 1 (l.map H1),.sl 1 (row.map wA)] (.sl 1 ((o6 l row).map H1)):=by
 obtain⟨r0,pS⟩:∃z,row[0]?=some z:=⟨_,List.getElem?_eq_getElem (List.length_pos_iff.2 h2)⟩
 have zF:row.headD 0=r0:=by cases row with|nil=>cases pS|cons a r=>simp at pS;exact pS
 refine C0 Tryz.func39 56 fun nQ E h0=>?_
 clear nQ
 repeat'((first|refine S2 ?_|(refine T6 ?_ ?_<;>intro h<;>try exact V1 h)|intro el nN nP|intro el nN|exact T4|refine T5 ?_ ?_|intro ex)<;>try conv=>whnf)
 have hN:=PC row
 refine B2 (ι:=Nat×List (List Int)×Bool) (fun x=>⟨[(0,.sl 1 (l.map H1)),(1,.sl 1 (row.map wA)),(5,.row 0 0 x.2.1.length),(6,.b x.2.2),(7,.i x.1)],1,[(0,some (.row 30 1 0 (x.2.1.map H1)))]⟩) (fun x=>x.1≤l.length∧(l.take x.1).foldl (o5 row) ([],false)=x.2) (fun x=>l.length-x.1) (0,[],false) ⟨Nat.zero_le _,rfl⟩
  (C2 (K4 (d:=5) (e:=30) (sz:=1) rfl) (A8 h0 rfl ⟨rfl,rfl,rfl,rfl,rfl,trivial⟩ ⟨⟨0,rfl⟩,trivial⟩ rfl rfl rfl)) (fun x hI=>?_)
 obtain⟨k,out,done⟩:=x
 obtain⟨hk,hI⟩:=hI
 dsimp only at hk hI ⊢
 have nO:=hN (l.take k) ([],false)
 rw[hI]at nO
 have rL:out.length≤1000001:=by
  simp only[List.length_take,List.length_nil]at nO
  split at nO<;>split at nO<;>omega
 clear nO hN
 by_cases nR:k<l.length
 ·obtain⟨x,hx⟩:∃x,l[k]?=some x:=⟨_,List.getElem?_eq_getElem nR⟩
  have xw:=h1 x (List.mem_of_getElem? hx)
  obtain⟨x0,pb⟩:∃z,x[0]?=some z:=⟨_,List.getElem?_eq_getElem (List.length_pos_iff.2 xw)⟩
  have hxd:x.headD 0=x0:=by cases x with|nil=>cases pb|cons a r=>simp at pb;exact pb
  have pD:=eH (row:=row) hx
  rw[hI]at pD
  simp only[o5,hxd,zF]at pD
  by_cases e1:x0=r0
  ·rw[if_pos e1]at pD
   repeat'((first|(refine A2 (x:=x) hx (by omega) ?_)|(refine A2 (x:=x0) pb (by omega) ?_)|(refine A2 (x:=r0) pS (by omega) ?_)|(refine B8 ?_ ?_;kernel_rfl) |refine S2 ?_|(refine T6 ?_ ?_<;>intro h<;>try exact V1 h)|intro el nN nP|intro el nN|exact T4|refine T5 ?_ ?_|intro ex)<;>try conv=>whnf)
   all_goals first
    |exact⟨(k+1,out,done),⟨by dsimp only;omega,pD⟩,by dsimp only;omega,A6 h0⟩
    |(exfalso;omega)
  ·rw[if_neg e1]at pD
   cases hd:done with
   |true =>
    subst hd
    rw[if_neg (by simp)]at pD
    repeat'((first|(refine A2 (x:=x) hx (by omega) ?_)|(refine A2 (x:=x0) pb (by omega) ?_)|(refine A2 (x:=r0) pS (by omega) ?_)|(refine B8 ?_ ?_;kernel_rfl) |refine S2 ?_|(refine T6 ?_ ?_<;>intro h<;>try exact V1 h)|intro el nN nP|intro el nN|exact T4|refine T5 ?_ ?_|intro ex)<;>try conv=>whnf)
    all_goals first
     |exact⟨(k+1,out++[x],true),⟨by dsimp only;omega,pD⟩,by dsimp only;omega,A8 h0 rfl ⟨rfl,rfl,congrArg (fun z=>some (AV.row 0 0 z)) (by simp[M0]),rfl,rfl,trivial⟩ ⟨⟨_,congrArg (C9.row 30 1 _) (by rw[List.map_append];rfl)⟩,trivial⟩ rfl rfl rfl⟩
     |(exfalso;omega)
   |false =>
    subst hd
    by_cases e2:r0<x0
    ·rw[if_pos ⟨e2,rfl⟩]at pD
     repeat'((first|(refine A2 (x:=x) hx (by omega) ?_)|(refine A2 (x:=x0) pb (by omega) ?_)|(refine A2 (x:=r0) pS (by omega) ?_)|(refine B8 ?_ ?_;kernel_rfl) |refine S2 ?_|(refine T6 ?_ ?_<;>intro h<;>try exact V1 h)|intro el nN nP|intro el nN|exact T4|refine T5 ?_ ?_|intro ex)<;>try conv=>whnf)
     all_goals first
      |exact⟨(k+1,out++[row]++[x],true),⟨by dsimp only;omega,pD⟩,by dsimp only;omega,A8 h0 rfl ⟨rfl,rfl,congrArg (fun z=>some (AV.row 0 0 z)) (by simp[M0]),rfl,rfl,trivial⟩ ⟨⟨_,congrArg (C9.row 30 1 _) (by rw[List.map_append,List.map_append];rfl)⟩,trivial⟩ rfl rfl rfl⟩
      |(exfalso;omega)
    ·rw[if_neg (fun h=>e2 h.1)]at pD
     repeat'((first|(refine A2 (x:=x) hx (by omega) ?_)|(refine A2 (x:=x0) pb (by omega) ?_)|(refine A2 (x:=r0) pS (by omega) ?_)|(refine B8 ?_ ?_;kernel_rfl) |refine S2 ?_|(refine T6 ?_ ?_<;>intro h<;>try exact V1 h)|intro el nN nP|intro el nN|exact T4|refine T5 ?_ ?_|intro ex)<;>try conv=>whnf)
     all_goals first
      |exact⟨(k+1,out++[x],false),⟨by dsimp only;omega,pD⟩,by dsimp only;omega,A8 h0 rfl ⟨rfl,rfl,congrArg (fun z=>some (AV.row 0 0 z)) (by simp[M0]),rfl,rfl,trivial⟩ ⟨⟨_,congrArg (C9.row 30 1 _) (by rw[List.map_append];rfl)⟩,trivial⟩ rfl rfl rfl⟩
      |(exfalso;omega)
 ·obtain rfl:k=l.length:=by omega
  rw[List.take_length]at hI
  have hP:o6 l row=if done=true then out else out++[row]:=by unfold o6;rw[hI]
  cases done with
  |true =>
   rw[hP,if_pos rfl]
   repeat'((first|refine S2 ?_|(refine T6 ?_ ?_<;>intro h<;>try exact V1 h)|intro el nN nP|intro el nN|exact T4|refine T5 ?_ ?_|intro ex)<;>try conv=>whnf)
   all_goals first
    |exact A0 rfl rfl
    |(exfalso;omega)
  |false =>
   rw[hP,if_neg (by simp)]
   repeat'((first|refine S2 ?_|(refine T6 ?_ ?_<;>intro h<;>try exact V1 h)|intro el nN nP|intro el nN|exact T4|refine T5 ?_ ?_|intro ex)<;>try conv=>whnf)
   all_goals first
    |exact A0 rfl (congrArg (AV.sl 1) (by rw[List.map_append];rfl))
    |(exfalso;omega)
end Go.Proofs.YtjkbhaaobhgkdabGreatDoor
