/- Draws: values, rows and picks: the walks. -/
import Derived.Test.YtiphlhoclaogjaaGreatDoorQB13
import Derived.Test.YtiphlhoclaogjaaGreatDoorQCm2
import Derived.Test.YtiphlhoclaogjaaGreatDoorQAvTy
import Derived.Test.YtiphlhoclaogjaaGreatDoorQE3
import Derived.Test.YtiphlhoclaogjaaGreatDoorQB12
import Derived.Test.YtiphlhoclaogjaaGreatDoorQCm1
import Derived.Lib.ItoaNum
import Derived.Lib.AtoiAll
import Derived.Shelf.LaysM
import Derived.Shelf.Strconv.Itoa3
import Derived.Test.YtiphlhoclaogjaaGreatDoorProg
import Derived.Lib.AppendIntMem
import Derived.Lib.AtoiErrMem
import Derived.Test.YtiphlhoclaogjaaGreatDoorQCf1
import Derived.Test.YtiphlhoclaogjaaGreatDoorQDr8
import Derived.Lib.AtoiAllCases
import Derived.Lib.ItoaLen
import Derived.Lib.Join
import Derived.Lib.IndexMore
set_option linter.unusedVariables false
set_option linter.unnecessarySimpa false
set_option linter.unusedSimpArgs false
set_option maxHeartbeats 64000000
namespace Go.Proofs.YtiphlhoclaogjaaGreatDoor
open Go Go.Av
attribute [local irreducible] C7 B1 D1 C8 DQ D0 C6 St.le A3 B8
set_option maxRecDepth 100000
theorem lG{l:List UInt8}{a:Nat}{s:A4}{k:Int}{c:D6}(nt:B4 s k=c)(h:c.kind=1):t5 l a s k=(1+((B7 l a 60).1:Int),(B7 l a 60).2):=by unfold t5;dsimp only;rw[nt,if_pos h]
theorem lH{l:List UInt8}{a:Nat}{s:A4}{k:Int}{c:D6}(nt:B4 s k=c)(h1:¬c.kind=1)(h:c.kind=2):t5 l a s k=((((H4 s k).getD (B7 l a (H4 s k).length).1 0:Nat):Int),(B7 l a (H4 s k).length).2):=by unfold t5;dsimp only;rw[nt,if_neg h1,if_pos h]
theorem lI{l:List UInt8}{a:Nat}{s:A4}{k:Int}{c:D6}(nt:B4 s k=c)(h1:¬c.kind=1)(h2:¬c.kind=2)(h:c.opt=true)(h4:((B7 l a 4).1:Int)=3):t5 l a s k=((-1099511627776),(B7 l a 4).2):=by unfold t5;dsimp only;rw[nt,if_neg h1,if_neg h2,if_pos h,if_pos h4]
theorem lJ{l:List UInt8}{a:Nat}{s:A4}{k:Int}{c:D6}(nt:B4 s k=c)(h1:¬c.kind=1)(h2:¬c.kind=2)(h:c.opt=true)(h4:¬((B7 l a 4).1:Int)=3):t5 l a s k=(c.low+((B7 l (B7 l a 4).2 (c.high-c.low+1)).1:Int),(B7 l (B7 l a 4).2 (c.high-c.low+1)).2):=by unfold t5;dsimp only;rw[nt,if_neg h1,if_neg h2,if_pos h,if_neg h4]
theorem lK{l:List UInt8}{a:Nat}{s:A4}{k:Int}{c:D6}(nt:B4 s k=c)(h1:¬c.kind=1)(h2:¬c.kind=2)(h:c.opt=false):t5 l a s k=(c.low+((B7 l a (c.high-c.low+1)).1:Int),(B7 l a (c.high-c.low+1)).2):=by unfold t5;dsimp only;rw[nt,if_neg h1,if_neg h2,if_neg (by rw[h];exact Bool.false_ne_true)]
theorem Yd(l:List UInt8)(a:Nat)(s:A4)(k:Nat){c:D6}(hd:C3 s)(hc:s.cols[k]?=some c)(hl:l.length≤400):B8 Tryz.prog 143 1 (X0 l a) [.ref 0 0,sA s,.i k] 1 (X0 l (t5 l a s k).2) (.i (t5 l a s k).1):=by
 have nt:B4 s k=c:=C0 (by simpa using hc)
 have nf:=D4 hc
 have sc:=hd.lens
 have hm:¬c.kind=1→¬c.kind=2→c.low≤c.high∧-4≤c.low∧c.high≤46:=by
  rcases hd.col hc with ⟨_,rfl⟩|⟨_,rfl|rfl⟩|⟨_,nm,hm⟩
  ·intro h;exact absurd rfl h
  ·intro _ h;exact absurd rfl h
  ·intro _ h;exact absurd rfl h
  ·have:=hm.low;have:=hm.high;omega
 have qd:c.kind=2→A3 Tryz.prog 138 [sA s,.i k] (.sl 1 ((H4 s k).map iA)):=fun h=>De s k (by omega) (by simpa using hc) (hd.lvs hc h).1
 have sO:c.kind=2→(H4 s k).length≤10∧(H4 s k)[(B7 l a (H4 s k).length).1]?=some ((H4 s k).getD (B7 l a (H4 s k).length).1 0):=by
  intro h
  obtain⟨_,_,h1,h2⟩:=hd.lvs hc h
  have hn:=G1 l a (n:=(H4 s k).length) (by omega)
  have:(B7 l a (H4 s k).length).1<(H4 s k).length:=by omega
  rw[List.getD_eq_getElem?_getD,List.getElem?_eq_getElem this]
  exact⟨h2,rfl⟩
 have r1:=m4 l a 1 60 hl (by omega) (by omega) (by omega)
 have r2:=fun (h1:¬c.kind=1) (h2:¬c.kind=2) (b:Nat)=>m4 l b c.low c.high hl (hm h1 h2).1 (by have:=hm h1 h2;omega) (by have:=hm h1 h2;omega)
 have r3:=Bg l a 4 hl (by omega)
 have r4:=K0 l a (H4 s k).length hl
 refine a8 Tryz.func143 44 fun E h0=>?_
 repeat'((first|(refine A2 (x:=c) hc (by omega) ?_)|(refine A2 (sO (by assumption)).2 (by omega) ?_)|refine A1 (qd (by assumption)) ?_|refine⟨F6 [0] [0] r1 rfl rfl rfl rfl rfl ⟨rfl,trivial⟩ rfl rfl rfl rfl rfl ?_⟩|refine⟨F6 [0] [0] (r2 (by assumption) (by assumption) _) rfl rfl rfl rfl rfl ⟨rfl,trivial⟩ rfl rfl rfl rfl rfl ?_⟩|refine⟨F6 [0] [0] r3 rfl rfl rfl rfl rfl ⟨rfl,trivial⟩ rfl rfl rfl rfl rfl ?_⟩|refine⟨F6 [0] [0] r4 rfl rfl rfl rfl rfl ⟨rfl,trivial⟩ rfl rfl rfl rfl rfl ?_⟩ |refine S2 ?_|(refine T6 ?_ ?_<;>intro h<;>try exact V1 h)|intro el nX nY|intro el nX|exact T4|refine T5 ?_ ?_|intro ex)<;>try conv=>whnf)
 all_goals first
  |(rw[lG nt (by assumption)];exact H7 (A6 h0))
  |(rw[lH nt (by assumption) (by assumption)];exact H7 (A6 h0))
  |(rw[lI nt (by assumption) (by assumption) (by assumption) (by omega)];exact H7 (A6 h0))
  |(rw[lJ nt (by assumption) (by assumption) (by assumption) (by omega)];exact H7 (A6 h0))
  |(rw[lK nt (by assumption) (by assumption) (by assumption)];exact H7 (A6 h0))
theorem eZ(l:List UInt8)(a:Nat)(s:A4)(hd:C3 s)(hl:l.length≤400):B8 Tryz.prog 91 1 (X0 l a) [.ref 0 0,sA s] 2 [(0,some (.box [.sl 1 (l.map N9),.i (j7 l a s).2])),(1,some (.row 3 1 0 ((j7 l a s).1.map wA)))] (.row 1 0 s.cols.length):=by
 have sc:=hd.lens
 refine a8 Tryz.func91 22 fun E h0=>?_
 repeat'((first|refine S2 ?_|(refine T6 ?_ ?_<;>intro h<;>try exact V1 h)|intro el nX nY|intro el nX|exact T4|refine T5 ?_ ?_|intro ex)<;>try conv=>whnf)
 refine B2 (ι:=Nat×List Int×Nat) (fun x=>⟨[(0,.ref 0 0),(3,.ref 1 0),(5,.row 2 0 x.1),(9,.i s.cols.length),(10,.i x.1)],3,[(0,some (.box [.sl 1 (l.map N9),.i x.2.2])),(1,some (.box (sL s))),(2,some (.row 3 1 0 (x.2.1.map wA)))]⟩)
  (fun x=>x.1≤s.cols.length∧x.2.1.length=x.1∧j7 l a s=rowFrom l s x.1 x.2 (s.cols.length-x.1)) (fun x=>s.cols.length-x.1) (0,[],a) ⟨by dsimp only;omega,rfl,rfl⟩
  (C2 (K7 (d:=5) (e:=3) (sz:=1) rfl) (B3 h0 rfl ⟨rfl,rfl,rfl,rfl,rfl,trivial⟩ ⟨rfl,rfl,⟨0,rfl⟩,trivial⟩ rfl rfl rfl)) (fun x hI=>?_)
 obtain⟨k,out,b⟩:=x
 obtain⟨hk,nZ,hI⟩:=hI
 dsimp only at hk nZ hI ⊢
 have hv:=fun (h:(k:Int)<s.cols.length)=>Yd l b s k hd (List.getElem?_eq_getElem (show k<s.cols.length by omega)) hl
 repeat'((first|refine⟨F6 [0] [0] (hv (by assumption)) rfl rfl rfl rfl rfl ⟨rfl,trivial⟩ rfl rfl rfl rfl rfl ?_⟩ |refine S2 ?_|(refine T6 ?_ ?_<;>intro h<;>try exact V1 h)|intro el nX nY|intro el nX|exact T4|refine T5 ?_ ?_|intro ex)<;>try conv=>whnf)
 all_goals first
  |exact⟨(k+1,out++[(t5 l b s k).1],(t5 l b s k).2),⟨by dsimp only;omega,by dsimp only;rw[List.length_append,List.length_singleton,nZ],by rw[hI,show s.cols.length-k=(s.cols.length-(k+1))+1 by omega];rfl⟩,by dsimp only;omega,B3 h0 rfl ⟨rfl,rfl,rfl,rfl,rfl,trivial⟩ ⟨rfl,rfl,⟨_,congrArg (D3.row 3 1 _) (by rw[List.map_append];rfl)⟩,trivial⟩ rfl rfl rfl⟩
  |(have e:j7 l a s=(out,b):=by rw[hI,show s.cols.length-k=0 by omega];rfl
    have ek:k=s.cols.length:=by omega
    rw[e]
    exact H7 (C2 (BC 1 2 h0 rfl rfl) (B3 h0 rfl ⟨congrArg (fun z:Nat=>some (AV.row 1 0 z)) ek,trivial⟩ ⟨rfl,⟨_,rfl⟩,trivial⟩ rfl rfl rfl)))
end Go.Proofs.YtiphlhoclaogjaaGreatDoor
namespace Go.Av
open Go Go.RowKit
theorem Lw{P:Program}{f m0 m1 m2:Nat}{hp0 hp1 hp2:Hp}{args:List AV}{r r2:AV}(h:B8 P f m0 hp0 args m1 hp1 r)(hm:Nat.ble m0 m1=true)(ob:∀E:Env,E.n0=m0→St.le E 1 ⟨[(0,r)],m1,hp1⟩ ⟨[(0,r2)],m2,hp2⟩):B8 P f m0 hp0 args m2 hp2 r2:=by
 refine⟨h.1,fun X θ w vs hX oa rS hl qf=>?_⟩
 refine Calls.mono (h.2 X θ w vs hX oa rS hl qf) ?_
 rintro e w' ⟨⟨v,θ',rfl,hv,ri,nh,hθ⟩,sS,qY,rV,np,pE⟩
 have sat:i9 ⟨w,X,owned θ hp0,θ,m0,oa,false⟩ 1 ⟨[(0,r)],m1,hp1⟩ { tmps:=#[v],defers:=[] } w':=by
  refine⟨θ',rfl,.nil,⟨sS,qY,rV,np,pE⟩,fun s x hs=>?_,ri.owns,ri.apart,fun i b k hi hk=>⟨ri.fresh i b k hi hk,nh i b k hi hk⟩,hX,⟨Nat.ble_eq▸hm,hθ⟩⟩
  rw[E6]at hs
  split at hs
  ·rename_i e0
   subst e0
   cases hs
   exact hv
  ·cases hs
 obtain⟨θ2,hs⟩:=ob _ rfl _ _ sat
 have hr:=hs.slots 0 r2 rfl
 exact⟨⟨v,θ2,rfl,hr,⟨hs.owns,hs.apart,fun i b k hi hk=>(hs.mine i b k hi hk).1⟩,fun i b k hi hk=>(hs.mine i b k hi hk).2,hs.base.2⟩,hs.fr.os,hs.fr.tape,hs.fr.output,hs.fr.size,hs.fr.block⟩
end Go.Av
namespace Go.Proofs.YtiphlhoclaogjaaGreatDoor
open Go Go.Av
attribute [local irreducible] C7 B1 D1 C8 DQ D0 C6 St.le A3 B8
set_option maxRecDepth 100000
theorem bX(l:List UInt8)(a:Nat)(hl:l.length≤400):B8 Tryz.prog 89 1 (X0 l a) [.ref 0 0] 1 (X0 l (Bh l a).2) (sA (Bh l a).1) :=
 Lw (eP l a hl) rfl fun E h0=>A6 h0
theorem bY(l:List UInt8)(a:Nat)(s:A4)(hd:C3 s)(hl:l.length≤400):B8 Tryz.prog 91 1 (X0 l a) [.ref 0 0,sA s] 1 (X0 l (j7 l a s).2) (.sl 1 ((j7 l a s).1.map wA)) :=
 Lw (eZ l a s hd hl) rfl fun E h0=>A6 h0
def Tf(b:UInt8):Bool:=decide (97≤b.toNat∧b.toNat≤122∨48≤b.toNat∧b.toNat≤57∨b.toNat=95)
theorem Lx{p:UInt8→Bool}:∀{t:List UInt8} {n:Nat},(∀i b,i<n→t[i]?=some b→p b=true)→n≤t.length→(∀b,t[n]?=some b→p b=false)→t.takeWhile p=t.take n∧t.dropWhile p=t.drop n
 |[],n,_,hn,_=>by
  have:n=0:=by simpa using hn
  subst this;exact⟨rfl,rfl⟩
 |a::r,0,_,_,h2=>by
  have:=h2 a rfl
  rw[List.takeWhile_cons,List.dropWhile_cons,this]
  exact⟨rfl,rfl⟩
 |a::r,n+1,h1,hn,h2=>by
  have ha:=h1 0 a (by omega) rfl
  obtain⟨i1,i2⟩:=Lx (p:=p) (t:=r) (n:=n) (fun i b hi hb=>h1 (i+1) b (by omega) (by simpa using hb)) (by simpa using hn) (fun b hb=>h2 b (by simpa using hb))
  rw[List.takeWhile_cons,List.dropWhile_cons,ha,i1,i2]
  exact⟨rfl,rfl⟩
abbrev lL:List UInt8:=[32,117,110,100,101,114,32]
abbrev mU:List UInt8:=[32,102,114,111,109,32]
abbrev nS:List UInt8:=[32,116,111,32]
abbrev mV:List UInt8:=[32,109,105,115,115,105,110,103]
abbrev mz:List UInt8:=[32,97,110,100,32]
abbrev nT:List UInt8:=[32,111,114,32]
abbrev nA:List UInt8:=[110,111,116,32]
abbrev nB:List UInt8:=[97,108,108]
structure Rd4 where
 c:B0
 ok:Bool
 t:List UInt8
 left:Int
def Ye(s:A4)(col:Int):List UInt8:=(B4 s col).name
def mW(s:A4)(col code:Int):List UInt8:=((B9 s (B4 s col)).2.getD code.toNat ⟨[],0⟩).name
mutual
def nC(s:A4):B0→List UInt8
 |.mk o c k l h ks =>
  if o=2 then Ye s c++lL++mW s c k
  else if o=3 then Ye s c++mU++Lib.itoa l++nS++Lib.itoa h
  else if o=4 then Ye s c++mV
  else if o=5 then [40]++(Oz s ks).getD 0 []++mz++(Oz s ks).getD 1 []++[41]
  else if o=6 then [40]++(Oz s ks).getD 0 []++nT++(Oz s ks).getD 1 []++[41]
  else if o=7 then nA++(Oz s ks).getD 0 []
  else nB
def Oz(s:A4):List B0→List (List UInt8)
 |[]=>[]
 |x::r=>nC s x::Oz s r
end
def lM(t:List UInt8)(n:Nat):Prop:=n≤t.length∧∀i b,i<n→t[i]?=some b→Tf b=true
theorem lM.all{t:List UInt8}{n:Nat}(h:lM t n)(hn:¬(n:Int)<t.length):t.takeWhile Tf=t.take n∧t.dropWhile Tf=t.drop n :=
 Lx (fun i c hi hc=>h.2 i c hi hc) h.1 (fun c hc=>by have:=(List.getElem?_eq_some_iff.1 hc).1;omega)
def mX(u:List UInt8):Prop:=∀b r,u=b::r→Tf b=false
def bZ(b:UInt8):Bool:=decide (b.toNat≠32∧b.toNat≠40∧b.toNat≠41)
def gR(u:List UInt8):Prop:=∀b r,u=b::r→bZ b=false
theorem mY{b:UInt8}(h:Tf b=true):bZ b=true:=by
 unfold Tf at h
 unfold bZ
 have:=of_decide_eq_true h
 exact decide_eq_true (by omega)
theorem gR.stops{u:List UInt8}(h:gR u):mX u:=fun b r e=>by
 have h1:=h b r e
 cases hw:Tf b
 ·rfl
 ·rw[mY hw]at h1;cases h1
def lN(t:List UInt8)(n:Nat):Prop:=n≤t.length∧∀i b,i<n→t[i]?=some b→bZ b=true
theorem lN.all{t:List UInt8}{n:Nat}(h:lN t n)(hn:¬(n:Int)<t.length):t.takeWhile bZ=t.take n :=
 (Lx (fun i c hi hc=>h.2 i c hi hc) h.1 (fun c hc=>by have:=(List.getElem?_eq_some_iff.1 hc).1;omega)).1
abbrev G3(r:List Int):List AV:=[.sl 1 (r.map wA)]
def o3(row:List Int):List (List Int)×Bool→List Int→List (List Int)×Bool
 |(out,done),x=>if x.headD 0=row.headD 0 then (out,done)else if row.headD 0<x.headD 0∧done=false then (out++[row]++[x],true)else (out++[x],done)
def o4(l:List (List Int))(row:List Int):List (List Int) :=
 let q:=l.foldl (o3 row) ([],false)
 if q.2=true then q.1 else q.1++[row]
theorem eb{l:List (List Int)}{row x:List Int}{k:Nat}(hx:l[k]?=some x):(l.take (k+1)).foldl (o3 row) ([],false)=o3 row ((l.take k).foldl (o3 row) ([],false)) x:=by
 rw[I0 hx,List.foldl_append];rfl
theorem PA(row:List Int):∀(l:List (List Int)) (q:List (List Int)×Bool),(l.foldl (o3 row) q).1.length+(if q.2=true then 1 else 0)≤q.1.length+l.length+(if (l.foldl (o3 row) q).2=true then 1 else 0)
 |[],q=>Nat.le_refl _
 |x::r,(out,done)=>by
  have ih:=PA row r (o3 row (out,done) x)
  rw[List.foldl_cons]
  have h1:(o3 row (out,done) x).1.length+(if done=true then 1 else 0)≤out.length+1+(if (o3 row (out,done) x).2=true then 1 else 0):=by
   simp only[o3]
   split
   ·dsimp only;omega
   ·split
    ·rename_i h;rw[h.2];simp
    ·simp
  rw[List.length_cons]
  dsimp only at ih ⊢
  omega
theorem Hn(l:List (List Int))(row:List Int):(o4 l row).length≤l.length+1:=by
 have h:=PA row l ([],false)
 unfold o4
 dsimp only at h ⊢
 split
 ·rename_i h2;rw[if_pos h2]at h;simp at h;omega
 ·rename_i h2;rw[if_neg h2]at h;simp at h ⊢;omega
theorem Tg(l:List (List Int))(row:List Int)(hl:l.length≤1000000)(h1:∀x∈l,x≠[])(h2:row≠[]):A3 Tryz.prog 90 [.sl 1 (l.map G3),.sl 1 (row.map wA)] (.sl 1 ((o4 l row).map G3)):=by
 obtain⟨r0,pC⟩:∃z,row[0]?=some z:=⟨_,List.getElem?_eq_getElem (List.length_pos_iff.2 h2)⟩
 have AB3:row.headD 0=r0:=by cases row with|nil=>cases pC|cons a r=>simp at pC;exact pC
 refine C1 Tryz.func90 56 fun nd E h0=>?_
 clear nd
 repeat'((first|refine S2 ?_|(refine T6 ?_ ?_<;>intro h<;>try exact V1 h)|intro el nX nY|intro el nX|exact T4|refine T5 ?_ ?_|intro ex)<;>try conv=>whnf)
 have hN:=PA row
 refine B2 (ι:=Nat×List (List Int)×Bool) (fun x=>⟨[(0,.sl 1 (l.map G3)),(1,.sl 1 (row.map wA)),(5,.row 0 0 x.2.1.length),(6,.b x.2.2),(7,.i x.1)],1,[(0,some (.row 37 1 0 (x.2.1.map G3)))]⟩) (fun x=>x.1≤l.length∧(l.take x.1).foldl (o3 row) ([],false)=x.2) (fun x=>l.length-x.1) (0,[],false) ⟨Nat.zero_le _,rfl⟩
  (C2 (K7 (d:=5) (e:=37) (sz:=1) rfl) (B3 h0 rfl ⟨rfl,rfl,rfl,rfl,rfl,trivial⟩ ⟨⟨0,rfl⟩,trivial⟩ rfl rfl rfl)) (fun x hI=>?_)
 obtain⟨k,out,done⟩:=x
 obtain⟨hk,hI⟩:=hI
 dsimp only at hk hI ⊢
 have nZ:=hN (l.take k) ([],false)
 rw[hI]at nZ
 have rV:out.length≤1000001:=by
  simp only[List.length_take,List.length_nil]at nZ
  split at nZ<;>split at nZ<;>omega
 clear nZ hN
 by_cases nf:k<l.length
 ·obtain⟨x,hx⟩:∃x,l[k]?=some x:=⟨_,List.getElem?_eq_getElem nf⟩
  have hx1:=h1 x (List.mem_of_getElem? hx)
  obtain⟨x0,po⟩:∃z,x[0]?=some z:=⟨_,List.getElem?_eq_getElem (List.length_pos_iff.2 hx1)⟩
  have hxd:x.headD 0=x0:=by cases x with|nil=>cases po|cons a r=>simp at po;exact po
  have oP:=eb (row:=row) hx
  rw[hI]at oP
  simp only[o3,hxd,AB3]at oP
  by_cases e1:x0=r0
  ·rw[if_pos e1]at oP
   repeat'((first|(refine A2 (x:=x) hx (by omega) ?_)|(refine A2 (x:=x0) po (by omega) ?_)|(refine A2 (x:=r0) pC (by omega) ?_)|(refine B5 ?_ ?_;kernel_rfl) |refine S2 ?_|(refine T6 ?_ ?_<;>intro h<;>try exact V1 h)|intro el nX nY|intro el nX|exact T4|refine T5 ?_ ?_|intro ex)<;>try conv=>whnf)
   all_goals first
    |exact⟨(k+1,out,done),⟨by dsimp only;omega,oP⟩,by dsimp only;omega,A6 h0⟩
    |(exfalso;omega)
  ·rw[if_neg e1]at oP
   cases hd:done with
   |true =>
    subst hd
    rw[if_neg (by simp)]at oP
    repeat'((first|(refine A2 (x:=x) hx (by omega) ?_)|(refine A2 (x:=x0) po (by omega) ?_)|(refine A2 (x:=r0) pC (by omega) ?_)|(refine B5 ?_ ?_;kernel_rfl) |refine S2 ?_|(refine T6 ?_ ?_<;>intro h<;>try exact V1 h)|intro el nX nY|intro el nX|exact T4|refine T5 ?_ ?_|intro ex)<;>try conv=>whnf)
    all_goals first
     |exact⟨(k+1,out++[x],true),⟨by dsimp only;omega,oP⟩,by dsimp only;omega,B3 h0 rfl ⟨rfl,rfl,congrArg (fun z=>some (AV.row 0 0 z)) (by simp[M4]),rfl,rfl,trivial⟩ ⟨⟨_,congrArg (D3.row 37 1 _) (by rw[List.map_append];rfl)⟩,trivial⟩ rfl rfl rfl⟩
     |(exfalso;omega)
   |false =>
    subst hd
    by_cases e2:r0<x0
    ·rw[if_pos ⟨e2,rfl⟩]at oP
     repeat'((first|(refine A2 (x:=x) hx (by omega) ?_)|(refine A2 (x:=x0) po (by omega) ?_)|(refine A2 (x:=r0) pC (by omega) ?_)|(refine B5 ?_ ?_;kernel_rfl) |refine S2 ?_|(refine T6 ?_ ?_<;>intro h<;>try exact V1 h)|intro el nX nY|intro el nX|exact T4|refine T5 ?_ ?_|intro ex)<;>try conv=>whnf)
     all_goals first
      |exact⟨(k+1,out++[row]++[x],true),⟨by dsimp only;omega,oP⟩,by dsimp only;omega,B3 h0 rfl ⟨rfl,rfl,congrArg (fun z=>some (AV.row 0 0 z)) (by simp[M4]),rfl,rfl,trivial⟩ ⟨⟨_,congrArg (D3.row 37 1 _) (by rw[List.map_append,List.map_append];rfl)⟩,trivial⟩ rfl rfl rfl⟩
      |(exfalso;omega)
    ·rw[if_neg (fun h=>e2 h.1)]at oP
     repeat'((first|(refine A2 (x:=x) hx (by omega) ?_)|(refine A2 (x:=x0) po (by omega) ?_)|(refine A2 (x:=r0) pC (by omega) ?_)|(refine B5 ?_ ?_;kernel_rfl) |refine S2 ?_|(refine T6 ?_ ?_<;>intro h<;>try exact V1 h)|intro el nX nY|intro el nX|exact T4|refine T5 ?_ ?_|intro ex)<;>try conv=>whnf)
     all_goals first
      |exact⟨(k+1,out++[x],false),⟨by dsimp only;omega,oP⟩,by dsimp only;omega,B3 h0 rfl ⟨rfl,rfl,congrArg (fun z=>some (AV.row 0 0 z)) (by simp[M4]),rfl,rfl,trivial⟩ ⟨⟨_,congrArg (D3.row 37 1 _) (by rw[List.map_append];rfl)⟩,trivial⟩ rfl rfl rfl⟩
      |(exfalso;omega)
 ·obtain rfl:k=l.length:=by omega
  rw[List.take_length]at hI
  have hP:o4 l row=if done=true then out else out++[row]:=by unfold o4;rw[hI]
  cases done with
  |true =>
   rw[hP,if_pos rfl]
   repeat'((first|refine S2 ?_|(refine T6 ?_ ?_<;>intro h<;>try exact V1 h)|intro el nX nY|intro el nX|exact T4|refine T5 ?_ ?_|intro ex)<;>try conv=>whnf)
   all_goals first
    |exact A0 rfl rfl
    |(exfalso;omega)
  |false =>
   rw[hP,if_neg (by simp)]
   repeat'((first|refine S2 ?_|(refine T6 ?_ ?_<;>intro h<;>try exact V1 h)|intro el nX nY|intro el nX|exact T4|refine T5 ?_ ?_|intro ex)<;>try conv=>whnf)
   all_goals first
    |exact A0 rfl (congrArg (AV.sl 1) (by rw[List.map_append];rfl))
    |(exfalso;omega)
structure H6 where
 prj:List UInt8
 ver:Int
 picks:List Pk
 rows:List (List Int)
abbrev Nl(x:H6):List AV:=[.str x.prj,.i x.ver,.sl 2 (x.picks.map B6),.sl 1 (x.rows.map G3)]
abbrev f4(x:H6):AV:=.agg (Nl x)
def j8(s:A4)(picks:List Pk)(row:List Int):Bool:=decide (row.length=picks.length+1∧0≤row.headD 0∧row.headD 0≤1048575) && p8 s (picks.zip row.tail)
def w5(s:A4)(x:H6)(i:Nat)(r:List Int):Int:=if j8 s x.picks r=false then 9 else if 0<i∧r.headD 0≤(x.rows.getD (i-1) []).headD 0 then 10 else 0
def R2(s:A4)(x:H6):Int :=
 if ¬C5 s=0 then C5 s else if D5 x.prj=false then 3 else if x.ver<0∨300<x.ver then 13 else if ¬J7 s x.picks=0 then J7 s x.picks else if 200<x.rows.length then 1 else E4 (w5 s x) 0 x.rows
def V6(s:A4)(column level:Int):List (Pk×Int)→Int×Bool
 |[]=>d7 s column 0 0 level
 |(p,v)::r=>if p.col=column then d7 s column p.lev v level else V6 s column level r
theorem ee{row:List Int}{k:Nat}{v:Int}(h:row[k+1]?=some v):row.tail[k]?=some v:=by cases row with|nil=>simp at h|cons a r=>simpa using h
theorem Ti{picks:List Pk}{row:List Int}{k:Nat}{p:Pk}{v:Int}(h1:picks[k]?=some p)(h2:row[k+1]?=some v):(picks.zip row.tail)[k]?=some (p,v):=by
 rw[List.getElem?_zip_eq_some];exact⟨h1,ee h2⟩
theorem Q7{row:List Int}{v:Int}(h:row[0]?=some v):row.headD 0=v:=by cases row with|nil=>simp at h|cons a r=>simpa using h
theorem QU{s:A4}{l:List Pk}(h:J7 s l=0):∀(k:Nat) p,l[k]?=some p→(k:Int)+1≤p.col
 |0,p,hp=>by have:=(CD h 0 p hp).1;omega
 |k+1,p,hp=>by
  obtain⟨q,hq⟩:∃q,l[k]?=some q:=⟨_,List.getElem?_eq_getElem (by have:=D4 hp;omega)⟩
  have ih:=QU h k q hq
  unfold J7 at h
  by_cases hr:C5 s=0
  ·rw[if_pos hr]at h
   have h2:=O5 h (k+1) p hp
   rw[Nat.zero_add]at h2
   unfold Cd at h2
   split at h2
   ·split at h2
    ·cases h2
    ·rename_i h3
     rw[show k+1-1=k by omega,D2 hq]at h3
     have:¬p.col≤q.col:=fun h=>h3 ⟨by omega,h⟩
     omega
   ·contradiction
  ·rw[if_neg hr]at h;exact absurd h hr
theorem AY{s:A4}{l:List Pk}(h:J7 s l=0):l.length≤s.cols.length:=by
 by_cases h0:l.length=0
 ·omega
 ·obtain⟨p,hp⟩:∃p,l[l.length-1]?=some p:=⟨_,List.getElem?_eq_getElem (by omega)⟩
  have h1:=QU h _ p hp
  have h2:=(CD h _ p hp).2.1
  omega
theorem VY(s:A4)(hr:C5 s=0)(picks:List Pk)(hp:J7 s picks=0)(row:List Int):A3 Tryz.prog 101 [sA s,.sl 2 (picks.map B6),.sl 1 (row.map wA)] (.b (j8 s picks row)):=by
 have xz:=CD hp
 have nZ:=AY hp
 have nz:=(E9 hr).2.1
 unfold j8
 by_cases hl:row.length=picks.length+1
 ·obtain⟨r0,pC⟩:∃z,row[0]?=some z:=⟨_,List.getElem?_eq_getElem (by omega)⟩
  rw[Q7 pC]
  by_cases h01:0≤r0∧r0≤1048575
  ·rw[decide_eq_true ⟨hl,h01.1,h01.2⟩,Bool.true_and]
   generalize wU:picks.zip row.tail=pv at *
   have zx:pv.length=picks.length:=by rw[←wU,List.length_zip,List.length_tail];omega
   refine C1 Tryz.func101 53 fun nd E h0=>?_
   clear nd
   repeat'((first|(refine A2 (x:=r0) pC (by omega) ?_) |refine S2 ?_|(refine T6 ?_ ?_<;>intro h<;>try exact V1 h)|intro el nX nY|intro el nX|exact T4|refine T5 ?_ ?_|intro ex)<;>try conv=>whnf)
   all_goals first
    |(exfalso;omega)
    |skip
   refine B2 (ι:=Nat) (fun k=>⟨[(2,.sl 1 (row.map wA)),(3,.ref 0 0),(29,.sl 2 (picks.map B6)),(30,.i picks.length),(31,.i k)],1,[(0,some (.box (sL s)))]⟩)
    (fun k=>k≤picks.length∧p8 s (pv.take k)=true) (fun k=>picks.length-k) 0 ⟨Nat.zero_le _,rfl⟩
    (A6 h0) (fun k hK=>?_)
   obtain⟨qA,hK⟩:=hK
   by_cases no:k<picks.length
   ·obtain⟨p,qh⟩:∃p,picks[k]?=some p:=⟨_,List.getElem?_eq_getElem no⟩
    obtain⟨v,wS⟩:∃v,row[k+1]?=some v:=⟨_,List.getElem?_eq_getElem (by omega)⟩
    have xY:row[((k:Int)+1).toNat]?=some v:=by rw[show ((k:Int)+1).toNat=k+1 by omega];exact wS
    have hq:pv[k]?=some (p,v):=by rw[←wU];exact Ti qh wS
    obtain⟨c1,c2,c3,c4⟩:=xz k p qh
    obtain⟨x,hx⟩:∃x,s.cols[p.col.toNat]?=some x:=⟨_,List.getElem?_eq_getElem (by omega)⟩
    have ui:=JY s hr p.col p.lev v x c1 hx c3 c4
    have pS:p8 s (pv.take (k+1))=(N5 s p.col p.lev v).2:=by
     unfold p8 at hK ⊢
     rw[I0 hq,List.all_append,hK]
     simp
    have sD:(N5 s p.col p.lev v).2=false→p8 s pv=false:=fun h=>Oy hq h
    generalize N5 s p.col p.lev v=S at *
    obtain⟨w,ok⟩:=S
    dsimp only at *
    cases ok
    ·rw[sD rfl]
     repeat'((first|refine A1 ui ?_|(refine A2 (x:=p) qh (by omega) ?_)|(refine A2 (x:=v) xY (by omega) ?_)|(refine B5 ?_ ?_;kernel_rfl) |refine S2 ?_|(refine T6 ?_ ?_<;>intro h<;>try exact V1 h)|intro el nX nY|intro el nX|exact T4|refine T5 ?_ ?_|intro ex)<;>try conv=>whnf)
     all_goals first
      |(exfalso;omega)
      |exact A0 rfl rfl
    ·repeat'((first|refine A1 ui ?_|(refine A2 (x:=p) qh (by omega) ?_)|(refine A2 (x:=v) xY (by omega) ?_)|(refine B5 ?_ ?_;kernel_rfl) |refine S2 ?_|(refine T6 ?_ ?_<;>intro h<;>try exact V1 h)|intro el nX nY|intro el nX|exact T4|refine T5 ?_ ?_|intro ex)<;>try conv=>whnf)
     all_goals first
      |(exfalso;omega)
      |exact⟨k+1,⟨by omega,pS⟩,by omega,A6 h0⟩
   ·have qG:pv.take k=pv:=List.take_of_length_le (by omega)
    rw[qG]at hK
    rw[hK]
    repeat'((first|refine S2 ?_|(refine T6 ?_ ?_<;>intro h<;>try exact V1 h)|intro el nX nY|intro el nX|exact T4|refine T5 ?_ ?_|intro ex)<;>try conv=>whnf)
    all_goals first
     |(exfalso;omega)
     |exact A0 rfl rfl
  ·rw[decide_eq_false (fun h=>h01 ⟨h.2.1,h.2.2⟩),Bool.false_and]
   refine C1 Tryz.func101 53 fun nd E h0=>?_
   clear nd
   repeat'((first|(refine A2 (x:=r0) pC (by omega) ?_) |refine S2 ?_|(refine T6 ?_ ?_<;>intro h<;>try exact V1 h)|intro el nX nY|intro el nX|exact T4|refine T5 ?_ ?_|intro ex)<;>try conv=>whnf)
   all_goals first
    |(exfalso;omega)
    |exact A0 rfl rfl
 ·rw[decide_eq_false (fun h=>hl h.1),Bool.false_and]
  refine C1 Tryz.func101 53 fun nd E h0=>?_
  have vJ:row.length≤9223372036854775807:=by have:=(nd (.sl 1 (row.map wA)) (by simp)).sl;simpa using this
  clear nd
  repeat'((first|refine S2 ?_|(refine T6 ?_ ?_<;>intro h<;>try exact V1 h)|intro el nX nY|intro el nX|exact T4|refine T5 ?_ ?_|intro ex)<;>try conv=>whnf)
  all_goals first
   |(exfalso;omega)
   |exact A0 rfl rfl
end Go.Proofs.YtiphlhoclaogjaaGreatDoor
