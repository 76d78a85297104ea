/- Chapter 17: the example of the chapter. -/
import Derived.Test.YtiphlhoclaogjaaGreatDoorJF3
import Derived.Test.YtiphlhoclaogjaaGreatDoorJF1
import Derived.Test.YtiphlhoclaogjaaGreatDoorJC1
import Derived.Test.YtiphlhoclaogjaaGreatDoorJB12
import Derived.Test.YtiphlhoclaogjaaGreatDoorJB4
import Derived.Test.YtiphlhoclaogjaaGreatDoorJRg0
import Derived.Test.YtiphlhoclaogjaaGreatDoorJTa5
set_option linter.unusedVariables false
set_option linter.unnecessarySimpa false
set_option linter.unusedSimpArgs false
set_option maxHeartbeats 64000000
namespace Go.Proofs.YtiphlhoclaogjaaGreatDoor
open Go Go.Av
attribute [local irreducible] C9 B3 C8 D1 DQ D0 C7 St.le A3 B8
set_option maxRecDepth 100000
theorem Om(xs ys:List Int):A3 Tryz.prog 23 [.sl 1 (xs.map wA),.sl 1 (ys.map wA)] (.b (decide (xs=ys))):=by
 refine B5 Tryz.func23 26 fun nL E h0=>?_
 have nM:xs.length≤9223372036854775807:=by
  have:=(nL (.sl 1 (xs.map wA)) (by simp)).sl
  simpa using this
 have rp:ys.length≤9223372036854775807:=by
  have:=(nL (.sl 1 (ys.map wA)) (by simp)).sl
  simpa using this
 clear nL
 repeat'((first|refine S2 ?_|(refine T6 ?_ ?_<;>intro h<;>try exact V1 h)|intro el nJ nK|intro el nJ|exact T4|refine T5 ?_ ?_|intro ex)<;>try conv=>whnf)
 ·exact A1 rfl (congrArg AV.b (by
   have:xs≠ys:=by intro e;subst e;omega
   simp[this]))
 have hl:xs.length=ys.length:=by omega
 refine B0 (ι:=Nat) (fun k=>⟨[(0,.sl 1 (xs.map wA)),(1,.sl 1 (ys.map wA)),(5,.i k)],0,[]⟩) (fun k=>k≤xs.length∧ys.take k=xs.take k) (fun k=>xs.length-k) 0 ⟨Nat.zero_le _,rfl⟩ (A6 h0) (fun k hI=>?_)
 obtain⟨hk,hI⟩:=hI
 by_cases nN:k<xs.length
 ·obtain⟨x,hx⟩:∃x,xs[k]?=some x:=⟨_,List.getElem?_eq_getElem nN⟩
  obtain⟨y,hy⟩:∃y,ys[k]?=some y:=⟨_,List.getElem?_eq_getElem (by omega)⟩
  repeat'((first|(refine A2 (x:=x) hx (by omega) ?_)|(refine A2 (x:=y) hy (by omega) ?_)|(refine A9 ?_ ?_;kernel_rfl) |refine S2 ?_|(refine T6 ?_ ?_<;>intro h<;>try exact V1 h)|intro el nJ nK|intro el nJ|exact T4|refine T5 ?_ ?_|intro ex)<;>try conv=>whnf)
  all_goals first
   |(exfalso;omega)
   |(refine A1 rfl (congrArg AV.b (decide_eq_false (fun e=>?_)).symm)
     subst e
     rw[hx]at hy
     cases hy
     omega)
   |exact⟨k+1,⟨by omega,by rw[F1 hx,F1 hy,hI];congr 2;omega⟩,by omega,A6 h0⟩
 ·repeat'((first|refine S2 ?_|(refine T6 ?_ ?_<;>intro h<;>try exact V1 h)|intro el nJ nK|intro el nJ|exact T4|refine T5 ?_ ?_|intro ex)<;>try conv=>whnf)
  all_goals first
   |(exfalso;omega)
   |(refine A1 rfl (congrArg AV.b (decide_eq_true ?_).symm)
     rw[List.take_of_length_le (by omega),List.take_of_length_le (by omega)]at hI
     exact hI.symm)
theorem WH(s:A4)(e:F6):A3 Tryz.prog 46 [sA s,AQ e] (.sl 2 ((W8 s e).map A8)):=by
 have h1:=k6 s
 have h2:=WB s e
 have h3:W6 s e=true→A3 Tryz.prog 107 [sA s,AQ e] (.sl 2 ((Y5 s e).map A8)):=fun h=>by
  unfold W6 at h
  simp only[Bool.and_eq_true]at h
  exact WG s (of_decide_eq_true h.1) e h.2
 have h4:C3 s≠0→W6 s e=false:=fun h=>by unfold W6;rw[decide_eq_false h];rfl
 unfold W8
 generalize W6 s e=b at *
 generalize Y5 s e=R at *
 refine B5 Tryz.func46 17 fun nL E h0=>?_
 clear nL
 repeat'((first|refine A0 h1 ?_|refine A0 h2 ?_|(refine A0 (h3 (by assumption)) ?_)|(refine A9 ?_ ?_;kernel_rfl) |refine S2 ?_|(refine T6 ?_ ?_<;>intro h<;>try exact V1 h)|intro el nJ nK|intro el nJ|exact T4|refine T5 ?_ ?_|intro ex)<;>try conv=>whnf)
 all_goals first
  |(rw[h4 (by assumption)];exact p8 (sz:=2) rfl rfl)
  |(rw[if_neg (by simp[*])];exact p8 (sz:=2) rfl rfl)
  |(rw[if_pos (by assumption)];exact A1 rfl rfl)
def KW:A4:=⟨[([108],[⟨[97],-1⟩,⟨[98],0⟩,⟨[99],0⟩])],[⟨[119,104,111],1,0,0,0,[],false⟩,⟨[115,101,120],2,0,0,0,[],false⟩]⟩
abbrev Uq:AV:=.agg [.sl 2 [[.str [108],.sl 2 [[.str [97],.i (-1)],[.str [98],.i 0],[.str [99],.i 0]]]],.sl 7 [[.str [119,104,111],.i 1,.i 0,.i 0,.i 0,.v (.slice none 0 0),.b false],[.str [115,101,120],.i 2,.i 0,.i 0,.i 0,.v (.slice none 0 0),.b false]]]
theorem LG:NL Uq (sA KW):=CX ⟨.refl _,gM ⟨⟨.refl _,.refl _,.refl _,.refl _,.refl _,.nil 1,.refl _,trivial⟩,⟨.refl _,.refl _,.refl _,.refl _,.refl _,.nil 1,.refl _,trivial⟩,trivial⟩,trivial⟩
def z7:B7:=.mk 0 0 0 0 0 []
def Px:B7:=.mk 1 0 0 0 0 []
def x7:F6:=.mk 6 0 [] 0 [] [] z7 z7 [.mk 2 0 [116] 0 [] [] z7 z7 [],.mk 1 0 [] 0 [] [] z7 z7 []]
abbrev n7:AV:=.v (.slice none 0 0)
def my:B7:=.mk 0 0 0 0 0 []
def j9(dims:List Pk)(mea:Int)(cnd:B7):F6:=.mk 10 0 [] mea [] dims cnd my []
def R9(dims:List Pk)(mea:Int)(cnd:B7):Y3:=⟨[116],1,cnd,dims,mea,[],.mk 0 0 0 0 0 []⟩
def BK(l:List Int):G2:=⟨l,0,0,0,0,0,[]⟩
def b9(s:A4)(x:J9)(dims:List Pk)(i:Int):List Int:=dims.map fun d=>(N8 s d.col d.lev (x.picks.zip (x.rows.getD i.toNat []).tail)).1
def BU(s:A4)(x:J9)(mea i:Int):Int:=if 0≤mea then KI s x mea i else 0
def Ap(x:J9)(i:Int):Int:=(x.rows.getD i.toNat []).headD 0
def Ew(s:A4)(x:J9)(dims:List Pk)(mea:Int)(C:List G2)(i:Int):List G2:=C.map fun c=>if AP (b9 s x dims i) c.codes=true then N4 (Ap x i) (BU s x mea i) (decide (0≤mea)) c else c
def V0(mea:Int):List Int:=if 0≤mea then [mea]else []
def V8(s:A4)(x:J9)(dims:List Pk)(mea:Int)(L:List (List Int))(is:List Int):List G2:=is.foldl (Ew s x dims mea) (L.map BK)
def k0(s:A4)(x:J9)(dims:List Pk)(mea:Int)(cnd:B7):Int :=
 if ¬L2 s x=0 then L2 s x else if ¬L7 s (R9 dims mea cnd)=0 then L7 s (R9 dims mea cnd)else if X8 x.picks (W8 s (j9 dims mea cnd))=false then 23 else if (U9 s dims [[]]).isSome=false then 1 else 0
def GJ(s:A4)(x:J9)(dims:List Pk)(mea:Int)(cnd:B7):Ez :=
 if k0 s x dims mea cnd=0 then ⟨dims,mea,V8 s x dims mea ((U9 s dims [[]]).getD []) (b7 s x cnd (V0 mea))⟩else ⟨[],0,[]⟩
theorem DJ{s:A4}{dims:List Pk}{mea:Int}{cnd:B7}(h:L7 s (R9 dims mea cnd)=0):C3 s=0∧J6 s cnd=0∧Q4 s dims=0∧(mea=-1∨S0 s mea=3):=by
 unfold L7 R9 at h
 dsimp only at h
 split at h
 ·contradiction
 ·split at h
  ·cases h
  ·split at h
   ·cases h
   ·split at h
    ·contradiction
    ·rw[if_pos rfl]at h
     unfold KP at h
     dsimp only at h
     split at h
     ·contradiction
     ·split at h
      ·cases h
      ·refine⟨by omega,by omega,by omega,by omega⟩
theorem Ct{s:A4}{l:List Pk}(h:Q4 s l=0):1≤l.length∧l.length≤3∧∀d∈l,N5 s d=0∧(B6 s d.col).kind=2:=by
 unfold Q4 at h
 split at h
 ·cases h
 ·refine⟨by omega,by omega,fun d hd=>?_⟩
  obtain⟨k,hk⟩:=List.getElem?_of_mem hd
  have:=P2 h k d hk
  unfold W5 at this
  split at this
  ·contradiction
  ·split at this
   ·cases this
   ·exact⟨by omega,by omega⟩
theorem mz{s:A4}(hr:C3 s=0){c:Int}(h:S0 s c=3):∃x,s.cols[c.toNat]?=some x∧B6 s c=x∧1≤c∧c<s.cols.length∧x.kind=3∧meaE x=0:=by
 unfold S0 at h
 split at h
 ·rename_i hc
  obtain⟨x,hx⟩:∃x,s.cols[c.toNat]?=some x:=⟨_,List.getElem?_eq_getElem (by omega)⟩
  have nY:B6 s c=x:=B9 hx
  rw[nY]at h
  have h1:1≤c:=by
   have h0:=(D2 hr).2.2.2.2
   by_cases hz:c=0
   ·subst hz
    cases oN:s.cols with
    |nil=>rw[oN]at hx;simp at hx
    |cons a r =>
     rw[oN]at hx h0
     simp at hx h0
     subst hx
     omega
   ·omega
  exact⟨x,hx,nY,h1,hc.2,h,AZ (j5 ((D2 hr).2.2.2.1 _ x hx)).2.2.1 h⟩
 ·cases h
theorem On{s:A4}(hr:C3 s=0){c:Int}(h:S0 s c=3)(fr v to:Int):-1099511627776≤(U2 s c fr v to).1∧(U2 s c fr v to).1≤1099511627776:=by
 obtain⟨x,hx,nY,h1,h2,h3,h4⟩:=mz hr h
 have hf:E6 s c=x.widths.length:=by unfold E6 M1;rw[if_neg (by omega),nY,if_neg (by omega)]
 unfold U2
 split
 ·exact⟨by decide,by decide⟩
 ·rename_i hn
  rw[nY]
  simp only[if_neg (show ¬x.kind=2 by omega)]
  split
  ·dsimp only
   unfold CA
   have hs:=Tg (c:=x) (level:=fr) (v:=v) h4 (by omega) (by omega)
   split
   ·split
    ·exact⟨by dsimp only;decide,by dsimp only;decide⟩
    ·rename_i hv _
     rw[hv.2];exact⟨by dsimp only;decide,by dsimp only;decide⟩
   ·split
    ·exact⟨by decide,by decide⟩
    ·split
     ·exact⟨by decide,by decide⟩
     ·split
      ·exact⟨by decide,by decide⟩
      ·have hw:=k7 (c:=x) (level:=to) (U1 h4).2.2.2.2.2 (by omega) (by omega)
       have hd:=W3 (M2 x fr v).1 hw.1
       dsimp only
       omega
  ·exact⟨by decide,by decide⟩
theorem Ur{s:A4}(hr:C3 s=0){c:Int}(h:S0 s c=3)(lev:Int):∀pv:List (Pk×Int),-1099511627776≤(N8 s c lev pv).1∧(N8 s c lev pv).1≤1099511627776
 |[]=>On hr h _ _ _
 |(p,v)::r=>by
  unfold N8
  split
  ·exact On hr h _ _ _
  ·exact Ur hr h lev r
theorem Oo{s:A4}(hr:C3 s=0){mea:Int}(h:mea=-1∨S0 s mea=3)(x:J9)(i:Int):-1099511627776≤BU s x mea i∧BU s x mea i≤1099511627776:=by
 unfold BU
 split
 ·rcases h with h|h
  ·omega
  ·exact Ur hr h _ _
 ·exact⟨by decide,by decide⟩
structure Ex(m n:Nat)(c:G2):Prop where
 codes:c.codes.length=m
 cnt:0≤c.cnt∧c.cnt≤n
 sum:-(1099511627776*(n:Int))≤c.sum∧c.sum≤1099511627776*n
 amo:0≤c.amo∧c.amo≤1099511627776*n
 rows:c.rows.length≤n
theorem Ex.ok{m n:Nat}{c:G2}(h:Ex m n c)(hn:n≤500):Ps c:=by
 obtain⟨_,h1,h2,h3,h4⟩:=h
 exact⟨by omega,by omega,by omega,by omega⟩
theorem Ex.add{m n:Nat}{c:G2}(h:Ex m n c){key v:Int}(hv:-1099511627776≤v∧v≤1099511627776)(b:Bool):Ex m (n+1) (N4 key v b c):=by
 obtain⟨h0,h1,h2,h3,h4⟩:=h
 have ha:0≤max v (-v)∧max v (-v)≤1099511627776:=by omega
 generalize max v (-v)=a at *
 unfold N4
 split
 ·refine⟨h0,?_,?_,?_,?_⟩<;>dsimp only<;>first|(simp;omega)|omega
 ·split
  ·refine⟨h0,?_,?_,?_,?_⟩<;>dsimp only<;>first|(simp;omega)|omega
  ·split
   ·refine⟨h0,?_,?_,?_,?_⟩<;>dsimp only<;>first|(simp;omega)|omega
   ·refine⟨h0,?_,?_,?_,?_⟩<;>dsimp only<;>first|(simp;omega)|omega
theorem Ex.more{m n:Nat}{c:G2}(h:Ex m n c):Ex m (n+1) c:=by
 obtain⟨h0,h1,h2,h3,h4⟩:=h
 exact⟨h0,by omega,by omega,by omega,by omega⟩
theorem fE(s:A4)(x:J9)(dims:List Pk)(mea:Int)(C:List G2)(i:Int):(Ew s x dims mea C i).length=C.length:=List.length_map ..
theorem jN{s:A4}{x:J9}{dims:List Pk}{mea:Int}(hv:∀i,-1099511627776≤BU s x mea i∧BU s x mea i≤1099511627776){m n:Nat}{C:List G2}(h:∀c∈C,Ex m n c)(i:Int):∀c∈Ew s x dims mea C i,Ex m (n+1) c:=by
 intro c hc
 unfold Ew at hc
 rw[List.mem_map]at hc
 obtain⟨c0,h0,rfl⟩:=hc
 split
 ·exact(h c0 h0).add (hv i) _
 ·exact(h c0 h0).more
theorem Mt{s:A4}:∀{ds:List Pk} {out L:List (List Int)} {m:Nat},U9 s ds out=some L→(∀l∈out,l.length=m)→∀l∈L,l.length=m+ds.length
 |[],out,L,m,h,ho=>by unfold U9 at h;cases h;simpa using ho
 |d::r,out,L,m,h,ho=>by
  unfold U9 at h
  split at h
  ·cases h
  ·have:=Mt (m:=m+1) h fun l hl=>by
    obtain⟨l0,h1,h2⟩:=Ui hl
    rw[h2,ho l0 h1]
   intro l hl
   rw[this l hl,List.length_cons];omega
theorem It{s:A4}:∀{ds:List Pk} {out L:List (List Int)},U9 s ds out=some L→out.length≤2000→L.length≤2000
 |[],out,L,h,ho=>by unfold U9 at h;cases h;exact ho
 |d::r,out,L,h,ho=>by
  unfold U9 at h
  split at h
  ·cases h
  ·exact It h (by rw[Cs];omega)
theorem Iu(s:A4)(x:J9)(dims:List Pk)(mea:Int)(L:List (List Int)){is:List Int}{k:Nat}{i:Int}(h:is[k]?=some i):V8 s x dims mea L (is.take (k+1))=Ew s x dims mea (V8 s x dims mea L (is.take k)) i:=by
 unfold V8
 rw[F1 h,List.foldl_append]
 rfl
theorem Mu{s:A4}{x:J9}{dims:List Pk}{mea:Int}(hv:∀i,-1099511627776≤BU s x mea i∧BU s x mea i≤1099511627776){L:List (List Int)}(hL:∀l∈L,l.length=dims.length)(is:List Int):∀k:Nat,k≤is.length→(V8 s x dims mea L (is.take k)).length=L.length∧∀c∈V8 s x dims mea L (is.take k),Ex dims.length k c
 |0,_=>by
  refine⟨by simp[V8],fun c hc=>?_⟩
  simp only[List.take_zero,V8,List.foldl_nil,List.mem_map]at hc
  obtain⟨l,hl,rfl⟩:=hc
  exact⟨hL l hl,by simp[BK],by simp[BK],by simp[BK],by simp[BK]⟩
 |k+1,hk=>by
  obtain⟨i,hi⟩:∃i,is[k]?=some i:=⟨_,List.getElem?_eq_getElem (by omega)⟩
  obtain⟨h1,h2⟩:=Mu hv hL is k (by omega)
  rw[Iu s x dims mea L hi]
  exact⟨by rw[fE,h1],jN hv h2 i⟩
theorem LH{s:A4}{x:J9}{cnd:B7}{cols:List Int}{i:Int}(h:i∈b7 s x cnd cols):∃(k:Nat) (r:List Int),i=k∧x.rows[k]?=some r:=by
 unfold b7 at h
 split at h
 ·cases h
 ·exact XF (List.mem_filter.1 h).1
theorem LI(s:A4)(x:J9)(cnd:B7)(cols:List Int):(b7 s x cnd cols).length≤x.rows.length:=by
 unfold b7
 split
 ·exact Nat.zero_le _
 ·exact Nat.le_trans (RL _ _) (XG s x cnd)
end Go.Proofs.YtiphlhoclaogjaaGreatDoor
namespace Go.Proofs.YtiphlhoclaogjaaGreatDoor
open Go Go.Av
attribute [local irreducible] C9 B3 C8 D1 DQ D0 C7 St.le A3 B8
set_option maxRecDepth 100000
attribute [local irreducible] HH Et LF Hi
abbrev cF(l:List Int):List AV:=[.sl 1 (l.map wA),.i 0,.i 0,.i 0,.i 0,.i 0,.v (.slice none 0 0)]
theorem XP(L:List (List Int)):UP (L.map cF) ((L.map BK).map N3):=by
 rw[List.map_map]
 exact Yq fun x _=>⟨rfl,rfl,rfl,rfl,rfl,rfl,⟨rfl,rfl,by decide⟩,trivial⟩
theorem RS(C:List G2):C.map O8=(C.map N3).map (·.map Pq):=by
 rw[List.map_map]
 rfl
abbrev lX(dims:List Pk)(mea:Int)(cnd:B7):List AV:=[.i 10,.i 0,.str [],.i mea,.v (.slice none 0 0),.sl 2 (dims.map A8),.i cnd.op,.i cnd.col,.i cnd.code,.i cnd.lo,.i cnd.hi,.sl 6 (cnd.kids.map R0),.i 0,.i 0,.i 0,.i 0,.i 0,.v (.slice none 0 0),.v (.slice none 0 0)]
theorem gQ(dims:List Pk)(mea:Int)(cnd:B7):Ln (lX dims mea cnd) (Cr (j9 dims mea cnd)):=⟨.refl _,.refl _,.refl _,.refl _,.nil 1,.refl _,.refl _,.refl _,.refl _,.refl _,.refl _,.refl _,.refl _,.refl _,.refl _,.refl _,.refl _,.nil 6,.nil 19,trivial⟩
theorem FZ(s:A4)(dims:List Pk)(mea:Int)(cnd:B7):A3 Tryz.prog 46 [sA s,.agg (lX dims mea cnd)] (.sl 2 ((W8 s (j9 dims mea cnd)).map A8)):=z1 (WH s (j9 dims mea cnd)) ⟨.refl _,CX (gQ dims mea cnd),trivial⟩
theorem DK:NL (.agg [.v (.slice none 0 0),.i 0,.v (.slice none 0 0)]) (S3 ⟨[],0,[]⟩):=CX ⟨.nil 2,.refl _,.nil 7,trivial⟩
theorem jO(s:A4)(x:J9)(dims:List Pk)(mea:Int)(cnd:B7)(hE:¬L2 s x=0):A3 Tryz.prog 16 [sA s,X9 x,.sl 2 (dims.map A8),.i mea,D5 cnd] (.tup [S3 ⟨[],0,[]⟩,.i (L2 s x)]):=by
 have h1:=n6 s x
 generalize L2 s x=e at *
 obtain⟨pr,ver,picks,rows⟩:=x
 try dsimp only at *
 refine BC Tryz.func16 (by kernel_rfl) rfl rfl rfl rfl rfl (by intro t T h;cases h) fun nL E h0 tJ=>?_
 clear nL
 repeat'((first|refine A0 h1 ?_ |refine S2 ?_|(refine T6 ?_ ?_<;>intro h<;>try exact V1 h)|intro el nJ nK|intro el nJ|exact T4|refine T5 ?_ ?_|intro ex)<;>try conv=>whnf)
 all_goals first
  |(exfalso;omega)
  |exact T3 rfl rfl rfl DK rfl (.refl _) rfl
theorem jP(s:A4)(x:J9)(dims:List Pk)(mea:Int)(cnd:B7)(e1:L2 s x=0)(hE:¬L7 s (R9 dims mea cnd)=0):A3 Tryz.prog 16 [sA s,X9 x,.sl 2 (dims.map A8),.i mea,D5 cnd] (.tup [S3 ⟨[],0,[]⟩,.i (L7 s (R9 dims mea cnd))]):=by
 have h1:=n6 s x
 rw[e1]at h1
 have h2:=Dn s dims mea cnd
 unfold R9 at *
 generalize L7 s _=e at *
 obtain⟨pr,ver,picks,rows⟩:=x
 try dsimp only at *
 refine BC Tryz.func16 (by kernel_rfl) rfl rfl rfl rfl rfl (by intro t T h;cases h) fun nL E h0 tJ=>?_
 clear nL
 repeat'((first|refine A0 h1 ?_|refine A0 h2 ?_ |refine S2 ?_|(refine T6 ?_ ?_<;>intro h<;>try exact V1 h)|intro el nJ nK|intro el nJ|exact T4|refine T5 ?_ ?_|intro ex)<;>try conv=>whnf)
 all_goals first
  |(exfalso;omega)
  |exact T3 rfl rfl rfl DK rfl (.refl _) rfl
theorem jQ(s:A4)(x:J9)(dims:List Pk)(mea:Int)(cnd:B7)(e1:L2 s x=0)(e2:L7 s (R9 dims mea cnd)=0)(hE:X8 x.picks (W8 s (j9 dims mea cnd))=false):A3 Tryz.prog 16 [sA s,X9 x,.sl 2 (dims.map A8),.i mea,D5 cnd] (.tup [S3 ⟨[],0,[]⟩,.i (23)]):=by
 have h1:=n6 s x
 rw[e1]at h1
 have h2:A3 Tryz.prog 44 [sA s,.sl 2 (dims.map A8),.i mea,D5 cnd] (.i 0):=e2▸Dn s dims mea cnd
 have h3:=FZ s dims mea cnd
 have h4:=CW x.picks (W8 s (j9 dims mea cnd))
 rw[hE]at h4
 obtain⟨pr,ver,picks,rows⟩:=x
 try dsimp only at *
 refine BC Tryz.func16 (by kernel_rfl) rfl rfl rfl rfl rfl (by intro t T h;cases h) fun nL E h0 tJ=>?_
 clear nL
 repeat'((first|refine A0 h1 ?_|refine A0 h2 ?_|refine A0 h3 ?_|refine A0 h4 ?_|(refine A9 ?_ ?_;kernel_rfl) |refine S2 ?_|(refine T6 ?_ ?_<;>intro h<;>try exact V1 h)|intro el nJ nK|intro el nJ|exact T4|refine T5 ?_ ?_|intro ex)<;>try conv=>whnf)
 all_goals first
  |(exfalso;omega)
  |exact T3 rfl rfl rfl DK rfl (.refl _) rfl
theorem jR(s:A4)(x:J9)(dims:List Pk)(mea:Int)(cnd:B7)(e1:L2 s x=0)(e2:L7 s (R9 dims mea cnd)=0)(e3:X8 x.picks (W8 s (j9 dims mea cnd))=true)(hE:U9 s dims [[]]=none):A3 Tryz.prog 16 [sA s,X9 x,.sl 2 (dims.map A8),.i mea,D5 cnd] (.tup [S3 ⟨[],0,[]⟩,.i (1)]):=by
 have h1:=n6 s x
 rw[e1]at h1
 have h2:A3 Tryz.prog 44 [sA s,.sl 2 (dims.map A8),.i mea,D5 cnd] (.i 0):=e2▸Dn s dims mea cnd
 have h3:=FZ s dims mea cnd
 have h4:=CW x.picks (W8 s (j9 dims mea cnd))
 rw[e3]at h4
 obtain⟨hr,rY,pA,ut⟩:=DJ e2
 have h5:=GI s hr dims (Ct pA).2.1 (Ct pA).2.2
 rw[hE]at h5
 obtain⟨pr,ver,picks,rows⟩:=x
 try dsimp only at *
 refine BC Tryz.func16 (by kernel_rfl) rfl rfl rfl rfl rfl (by intro t T h;cases h) fun nL E h0 tJ=>?_
 clear nL
 repeat'((first|refine A0 h1 ?_|refine A0 h2 ?_|refine A0 h3 ?_|refine A0 h4 ?_|refine A0 h5 ?_|(refine A9 ?_ ?_;kernel_rfl) |refine S2 ?_|(refine T6 ?_ ?_<;>intro h<;>try exact V1 h)|intro el nJ nK|intro el nJ|exact T4|refine T5 ?_ ?_|intro ex)<;>try conv=>whnf)
 all_goals first
  |(exfalso;omega)
  |exact T3 rfl rfl rfl DK rfl (.refl _) rfl
end Go.Proofs.YtiphlhoclaogjaaGreatDoor
