/- Chapter 17: the example of the chapter. -/
import Derived.Test.YtiphlhoclaogjaaGreatDoorSF3
import Derived.Test.YtiphlhoclaogjaaGreatDoorSF1
import Derived.Test.YtiphlhoclaogjaaGreatDoorSC1
import Derived.Test.YtiphlhoclaogjaaGreatDoorSB12
import Derived.Test.YtiphlhoclaogjaaGreatDoorSB4
import Derived.Test.YtiphlhoclaogjaaGreatDoorSTa9
import Derived.Test.YtiphlhoclaogjaaGreatDoorSTa5
set_option linter.unusedVariables false
set_option linter.unnecessarySimpa false
set_option linter.unusedSimpArgs false
set_option maxHeartbeats 64000000
namespace Go.Proofs.YtiphlhoclaogjaaGreatDoor
open Go Go.Av
attribute [local irreducible] C7 B2 D3 C9 DQ D0 C8 St.le A3 B9
set_option maxRecDepth 100000
theorem IA(xs ys:List Int):A3 Tryz.prog 23 [.sl 1 (xs.map wA),.sl 1 (ys.map wA)] (.b (decide (xs=ys))):=by
 refine B6 Tryz.func23 26 fun lW E h0=>?_
 have lX:xs.length≤9223372036854775807:=by
  have:=(lW (.sl 1 (xs.map wA)) (by simp)).sl
  simpa using this
 have rY:ys.length≤9223372036854775807:=by
  have:=(lW (.sl 1 (ys.map wA)) (by simp)).sl
  simpa using this
 clear lW
 repeat'((first|refine S2 ?_|(refine T6 ?_ ?_<;>intro h<;>try exact V1 h)|intro el lU lV|intro el lU|exact T4|refine T5 ?_ ?_|intro ex)<;>try conv=>whnf)
 ·exact A0 rfl (congrArg AV.b (by
   have:xs≠ys:=by intro e;subst e;omega
   simp[this]))
 have hl:xs.length=ys.length:=by omega
 refine B0 (ι:=Nat) (fun k=>⟨[(0,.sl 1 (xs.map wA)),(1,.sl 1 (ys.map wA)),(5,.i k)],0,[]⟩) (fun k=>k≤xs.length∧ys.take k=xs.take k) (fun k=>xs.length-k) 0 ⟨Nat.zero_le _,rfl⟩ (A6 h0) (fun k hI=>?_)
 obtain⟨hk,hI⟩:=hI
 by_cases lY:k<xs.length
 ·obtain⟨x,hx⟩:∃x,xs[k]?=some x:=⟨_,List.getElem?_eq_getElem lY⟩
  obtain⟨y,hy⟩:∃y,ys[k]?=some y:=⟨_,List.getElem?_eq_getElem (by omega)⟩
  repeat'((first|(refine A2 (x:=x) hx (by omega) ?_)|(refine A2 (x:=y) hy (by omega) ?_)|(refine B3 ?_ ?_;kernel_rfl) |refine S2 ?_|(refine T6 ?_ ?_<;>intro h<;>try exact V1 h)|intro el lU lV|intro el lU|exact T4|refine T5 ?_ ?_|intro ex)<;>try conv=>whnf)
  all_goals first
   |(exfalso;omega)
   |(refine A0 rfl (congrArg AV.b (decide_eq_false (fun e=>?_)).symm)
     subst e
     rw[hx]at hy
     cases hy
     omega)
   |exact⟨k+1,⟨by omega,by rw[H6 hx,H6 hy,hI];congr 2;omega⟩,by omega,A6 h0⟩
 ·repeat'((first|refine S2 ?_|(refine T6 ?_ ?_<;>intro h<;>try exact V1 h)|intro el lU lV|intro el lU|exact T4|refine T5 ?_ ?_|intro ex)<;>try conv=>whnf)
  all_goals first
   |(exfalso;omega)
   |(refine A0 rfl (congrArg AV.b (decide_eq_true ?_).symm)
     rw[List.take_of_length_le (by omega),List.take_of_length_le (by omega)]at hI
     exact hI.symm)
theorem VQ(s:A4)(e:G8):A3 Tryz.prog 46 [sA s,DJ e] (.sl 2 ((Dk s e).map B4)):=by
 have h1:=a6 s
 have h2:=VJ s e
 have h3:Ji s e=true→A3 Tryz.prog 107 [sA s,DJ e] (.sl 2 ((Bm s e).map B4)):=fun h=>by
  unfold Ji at h
  simp only[Bool.and_eq_true]at h
  exact VP s (of_decide_eq_true h.1) e h.2
 have h4:C3 s≠0→Ji s e=false:=fun h=>by unfold Ji;rw[decide_eq_false h];rfl
 unfold Dk
 generalize Ji s e=b at *
 generalize Bm s e=R at *
 refine B6 Tryz.func46 17 fun lW E h0=>?_
 clear lW
 repeat'((first|refine A1 h1 ?_|refine A1 h2 ?_|(refine A1 (h3 (by assumption)) ?_)|(refine B3 ?_ ?_;kernel_rfl) |refine S2 ?_|(refine T6 ?_ ?_<;>intro h<;>try exact V1 h)|intro el lU lV|intro el lU|exact T4|refine T5 ?_ ?_|intro ex)<;>try conv=>whnf)
 all_goals first
  |(rw[h4 (by assumption)];exact u4 (sz:=2) rfl rfl)
  |(rw[if_neg (by simp[*])];exact u4 (sz:=2) rfl rfl)
  |(rw[if_pos (by assumption)];exact A0 rfl rfl)
def Jn:A4:=⟨[([108],[⟨[97],-1⟩,⟨[98],0⟩,⟨[99],0⟩])],[⟨[119,104,111],1,0,0,0,[],false⟩,⟨[115,101,120],2,0,0,0,[],false⟩]⟩
abbrev Ty:AV:=.agg [.sl 2 [[.str [108],.sl 2 [[.str [97],.i (-1)],[.str [98],.i 0],[.str [99],.i 0]]]],.sl 7 [[.str [119,104,111],.i 1,.i 0,.i 0,.i 0,.v (.slice none 0 0),.b false],[.str [115,101,120],.i 2,.i 0,.i 0,.i 0,.v (.slice none 0 0),.b false]]]
theorem Ka:NL Ty (sA Jn):=EG ⟨.refl _,kN ⟨⟨.refl _,.refl _,.refl _,.refl _,.refl _,.nil 1,.refl _,trivial⟩,⟨.refl _,.refl _,.refl _,.refl _,.refl _,.nil 1,.refl _,trivial⟩,trivial⟩,trivial⟩
def PG:B1:=.mk 1 0 0 0 0 []
abbrev n7:AV:=.v (.slice none 0 0)
def lL:B1:=.mk 0 0 0 0 0 []
def Dl(dims:List Pk)(mea:Int)(cnd:B1):G8:=.mk 10 0 [] mea [] dims cnd lL []
def Bf(dims:List Pk)(mea:Int)(cnd:B1):N6:=⟨[116],1,cnd,dims,mea,[],.mk 0 0 0 0 0 []⟩
def Jo(l:List Int):J7:=⟨l,0,0,0,0,0,[]⟩
def FQ(s:A4)(x:N5)(dims:List Pk)(i:Int):List Int:=dims.map fun d=>(Q0 s d.col d.lev (x.picks.zip (x.rows.getD i.toNat []).tail)).1
def GE(s:A4)(x:N5)(mea i:Int):Int:=if 0≤mea then Lw s x mea i else 0
def IB(x:N5)(i:Int):Int:=(x.rows.getD i.toNat []).headD 0
def IC(s:A4)(x:N5)(dims:List Pk)(mea:Int)(C:List J7)(i:Int):List J7:=C.map fun c=>if Bi (FQ s x dims i) c.codes=true then X9 (IB x i) (GE s x mea i) (decide (0≤mea)) c else c
def DM(mea:Int):List Int:=if 0≤mea then [mea]else []
def Z8(s:A4)(x:N5)(dims:List Pk)(mea:Int)(L:List (List Int))(is:List Int):List J7:=is.foldl (IC s x dims mea) (L.map Jo)
def Dm(s:A4)(x:N5)(dims:List Pk)(mea:Int)(cnd:B1):Int :=
 if ¬P6 s x=0 then P6 s x else if ¬Q1 s (Bf dims mea cnd)=0 then Q1 s (Bf dims mea cnd)else if q8 x.picks (Dk s (Dl dims mea cnd))=false then 23 else if (AP s dims [[]]).isSome=false then 1 else 0
def Tz(s:A4)(x:N5)(dims:List Pk)(mea:Int)(cnd:B1):Nz :=
 if Dm s x dims mea cnd=0 then ⟨dims,mea,Z8 s x dims mea ((AP s dims [[]]).getD []) (X8 s x cnd (DM mea))⟩else ⟨[],0,[]⟩
theorem Jp{s:A4}{dims:List Pk}{mea:Int}{cnd:B1}(h:Q1 s (Bf dims mea cnd)=0):C3 s=0∧K7 s cnd=0∧Q8 s dims=0∧(mea=-1∨Q9 s mea=3):=by
 unfold Q1 Bf at h
 dsimp only at h
 split at h
 ·contradiction
 ·split at h
  ·cases h
  ·split at h
   ·cases h
   ·split at h
    ·contradiction
    ·rw[if_pos rfl]at h
     unfold Jj at h
     dsimp only at h
     split at h
     ·contradiction
     ·split at h
      ·cases h
      ·refine⟨by omega,by omega,by omega,by omega⟩
theorem ID{s:A4}{l:List Pk}(h:Q8 s l=0):1≤l.length∧l.length≤3∧∀d∈l,P4 s d=0∧(C0 s d.col).kind=2:=by
 unfold Q8 at h
 split at h
 ·cases h
 ·refine⟨by omega,by omega,fun d hd=>?_⟩
  obtain⟨k,hk⟩:=List.getElem?_of_mem hd
  have:=R6 h k d hk
  unfold W0 at this
  split at this
  ·contradiction
  ·split at this
   ·cases this
   ·exact⟨by omega,by omega⟩
theorem lM{s:A4}(hr:C3 s=0){c:Int}(h:Q9 s c=3):∃x,s.cols[c.toNat]?=some x∧C0 s c=x∧1≤c∧c<s.cols.length∧x.kind=3∧meaE x=0:=by
 unfold Q9 at h
 split at h
 ·rename_i hc
  obtain⟨x,hx⟩:∃x,s.cols[c.toNat]?=some x:=⟨_,List.getElem?_eq_getElem (by omega)⟩
  have lm:C0 s c=x:=C1 hx
  rw[lm]at h
  have h1:1≤c:=by
   have h0:=(D5 hr).2.2.2.2
   by_cases hz:c=0
   ·subst hz
    cases mz:s.cols with
    |nil=>rw[mz]at hx;simp at hx
    |cons a r =>
     rw[mz]at hx h0
     simp at hx h0
     subst hx
     omega
   ·omega
  exact⟨x,hx,lm,h1,hc.2,h,z6 (Y8 ((D5 hr).2.2.2.1 _ x hx)).2.2.1 h⟩
 ·cases h
theorem OA{s:A4}(hr:C3 s=0){c:Int}(h:Q9 s c=3)(fr v to:Int):-1099511627776≤(T8 s c fr v to).1∧(T8 s c fr v to).1≤1099511627776:=by
 obtain⟨x,hx,lm,h1,h2,h3,h4⟩:=lM hr h
 have hf:E5 s c=x.widths.length:=by unfold E5 M7;rw[if_neg (by omega),lm,if_neg (by omega)]
 unfold T8
 split
 ·exact⟨by decide,by decide⟩
 ·rename_i hn
  rw[lm]
  simp only[if_neg (show ¬x.kind=2 by omega)]
  split
  ·dsimp only
   unfold Ba
   have hs:=So (c:=x) (level:=fr) (v:=v) h4 (by omega) (by omega)
   split
   ·split
    ·exact⟨by dsimp only;decide,by dsimp only;decide⟩
    ·rename_i hv _
     rw[hv.2];exact⟨by dsimp only;decide,by dsimp only;decide⟩
   ·split
    ·exact⟨by decide,by decide⟩
    ·split
     ·exact⟨by decide,by decide⟩
     ·split
      ·exact⟨by decide,by decide⟩
      ·have hw:=a7 (c:=x) (level:=to) (T0 h4).2.2.2.2.2 (by omega) (by omega)
       have hd:=V3 (M0 x fr v).1 hw.1
       dsimp only
       omega
  ·exact⟨by decide,by decide⟩
theorem UA{s:A4}(hr:C3 s=0){c:Int}(h:Q9 s c=3)(lev:Int):∀pv:List (Pk×Int),-1099511627776≤(Q0 s c lev pv).1∧(Q0 s c lev pv).1≤1099511627776
 |[]=>OA hr h _ _ _
 |(p,v)::r=>by
  unfold Q0
  split
  ·exact OA hr h _ _ _
  ·exact UA hr h lev r
theorem bE{s:A4}(hr:C3 s=0){mea:Int}(h:mea=-1∨Q9 s mea=3)(x:N5)(i:Int):-1099511627776≤GE s x mea i∧GE s x mea i≤1099511627776:=by
 unfold GE
 split
 ·rcases h with h|h
  ·omega
  ·exact UA hr h _ _
 ·exact⟨by decide,by decide⟩
structure FR(m n:Nat)(c:J7):Prop where
 codes:c.codes.length=m
 cnt:0≤c.cnt∧c.cnt≤n
 sum:-(1099511627776*(n:Int))≤c.sum∧c.sum≤1099511627776*n
 amo:0≤c.amo∧c.amo≤1099511627776*n
 rows:c.rows.length≤n
theorem FR.ok{m n:Nat}{c:J7}(h:FR m n c)(hn:n≤500):PA c:=by
 obtain⟨_,h1,h2,h3,h4⟩:=h
 exact⟨by omega,by omega,by omega,by omega⟩
theorem FR.add{m n:Nat}{c:J7}(h:FR m n c){key v:Int}(hv:-1099511627776≤v∧v≤1099511627776)(b:Bool):FR m (n+1) (X9 key v b c):=by
 obtain⟨h0,h1,h2,h3,h4⟩:=h
 have ha:0≤max v (-v)∧max v (-v)≤1099511627776:=by omega
 generalize max v (-v)=a at *
 unfold X9
 split
 ·refine⟨h0,?_,?_,?_,?_⟩<;>dsimp only<;>first|(simp;omega)|omega
 ·split
  ·refine⟨h0,?_,?_,?_,?_⟩<;>dsimp only<;>first|(simp;omega)|omega
  ·split
   ·refine⟨h0,?_,?_,?_,?_⟩<;>dsimp only<;>first|(simp;omega)|omega
   ·refine⟨h0,?_,?_,?_,?_⟩<;>dsimp only<;>first|(simp;omega)|omega
theorem FR.more{m n:Nat}{c:J7}(h:FR m n c):FR m (n+1) c:=by
 obtain⟨h0,h1,h2,h3,h4⟩:=h
 exact⟨h0,by omega,by omega,by omega,by omega⟩
theorem de(s:A4)(x:N5)(dims:List Pk)(mea:Int)(C:List J7)(i:Int):(IC s x dims mea C i).length=C.length:=List.length_map ..
theorem gn{s:A4}{x:N5}{dims:List Pk}{mea:Int}(hv:∀i,-1099511627776≤GE s x mea i∧GE s x mea i≤1099511627776){m n:Nat}{C:List J7}(h:∀c∈C,FR m n c)(i:Int):∀c∈IC s x dims mea C i,FR m (n+1) c:=by
 intro c hc
 unfold IC at hc
 rw[List.mem_map]at hc
 obtain⟨c0,h0,rfl⟩:=hc
 split
 ·exact(h c0 h0).add (hv i) _
 ·exact(h c0 h0).more
theorem MG{s:A4}:∀{ds:List Pk} {out L:List (List Int)} {m:Nat},AP s ds out=some L→(∀l∈out,l.length=m)→∀l∈L,l.length=m+ds.length
 |[],out,L,m,h,ho=>by unfold AP at h;cases h;simpa using ho
 |d::r,out,L,m,h,ho=>by
  unfold AP at h
  split at h
  ·cases h
  ·have:=MG (m:=m+1) h fun l hl=>by
    obtain⟨l0,h1,h2⟩:=Tr hl
    rw[h2,ho l0 h1]
   intro l hl
   rw[this l hl,List.length_cons];omega
theorem MH{s:A4}:∀{ds:List Pk} {out L:List (List Int)},AP s ds out=some L→out.length≤2000→L.length≤2000
 |[],out,L,h,ho=>by unfold AP at h;cases h;exact ho
 |d::r,out,L,h,ho=>by
  unfold AP at h
  split at h
  ·cases h
  ·exact MH h (by rw[Hy];omega)
theorem IE(s:A4)(x:N5)(dims:List Pk)(mea:Int)(L:List (List Int)){is:List Int}{k:Nat}{i:Int}(h:is[k]?=some i):Z8 s x dims mea L (is.take (k+1))=IC s x dims mea (Z8 s x dims mea L (is.take k)) i:=by
 unfold Z8
 rw[H6 h,List.foldl_append]
 rfl
theorem MI{s:A4}{x:N5}{dims:List Pk}{mea:Int}(hv:∀i,-1099511627776≤GE s x mea i∧GE s x mea i≤1099511627776){L:List (List Int)}(hL:∀l∈L,l.length=dims.length)(is:List Int):∀k:Nat,k≤is.length→(Z8 s x dims mea L (is.take k)).length=L.length∧∀c∈Z8 s x dims mea L (is.take k),FR dims.length k c
 |0,_=>by
  refine⟨by simp[Z8],fun c hc=>?_⟩
  simp only[List.take_zero,Z8,List.foldl_nil,List.mem_map]at hc
  obtain⟨l,hl,rfl⟩:=hc
  exact⟨hL l hl,by simp[Jo],by simp[Jo],by simp[Jo],by simp[Jo]⟩
 |k+1,hk=>by
  obtain⟨i,hi⟩:∃i,is[k]?=some i:=⟨_,List.getElem?_eq_getElem (by omega)⟩
  obtain⟨h1,h2⟩:=MI hv hL is k (by omega)
  rw[IE s x dims mea L hi]
  exact⟨by rw[de,h1],gn hv h2 i⟩
theorem WY{s:A4}{x:N5}{cnd:B1}{cols:List Int}{i:Int}(h:i∈X8 s x cnd cols):∃(k:Nat) (r:List Int),i=k∧x.rows[k]?=some r:=by
 unfold X8 at h
 split at h
 ·cases h
 ·exact WP (List.mem_filter.1 h).1
theorem WZ(s:A4)(x:N5)(cnd:B1)(cols:List Int):(X8 s x cnd cols).length≤x.rows.length:=by
 unfold X8
 split
 ·exact Nat.zero_le _
 ·exact Nat.le_trans (QU _ _) (WQ s x cnd)
end Go.Proofs.YtiphlhoclaogjaaGreatDoor
namespace Go.Proofs.YtiphlhoclaogjaaGreatDoor
open Go Go.Av
attribute [local irreducible] C7 B2 D3 C9 DQ D0 C8 St.le A3 B9
set_option maxRecDepth 100000
attribute [local irreducible] GX EM KW Gx
abbrev bF(l:List Int):List AV:=[.sl 1 (l.map wA),.i 0,.i 0,.i 0,.i 0,.i 0,.v (.slice none 0 0)]
theorem Wa(L:List (List Int)):TX (L.map bF) ((L.map Jo).map N0):=by
 rw[List.map_map]
 exact YA fun x _=>⟨rfl,rfl,rfl,rfl,rfl,rfl,⟨rfl,rfl,by decide⟩,trivial⟩
theorem Qe(C:List J7):C.map Cf=(C.map N0).map (·.map Oy):=by
 rw[List.map_map]
 rfl
abbrev kg(dims:List Pk)(mea:Int)(cnd:B1):List AV:=[.i 10,.i 0,.str [],.i mea,.v (.slice none 0 0),.sl 2 (dims.map B4),.i cnd.op,.i cnd.col,.i cnd.code,.i cnd.lo,.i cnd.hi,.sl 6 (cnd.kids.map L0),.i 0,.i 0,.i 0,.i 0,.i 0,.v (.slice none 0 0),.v (.slice none 0 0)]
theorem kX(dims:List Pk)(mea:Int)(cnd:B1):LC (kg dims mea cnd) (DI (Dl dims mea cnd)):=⟨.refl _,.refl _,.refl _,.refl _,.nil 1,.refl _,.refl _,.refl _,.refl _,.refl _,.refl _,.refl _,.refl _,.refl _,.refl _,.refl _,.refl _,.nil 6,.nil 19,trivial⟩
theorem Ei(s:A4)(dims:List Pk)(mea:Int)(cnd:B1):A3 Tryz.prog 46 [sA s,.agg (kg dims mea cnd)] (.sl 2 ((Dk s (Dl dims mea cnd)).map B4)):=BJ (VQ s (Dl dims mea cnd)) ⟨.refl _,EG (kX dims mea cnd),trivial⟩
theorem Kb:NL (.agg [.v (.slice none 0 0),.i 0,.v (.slice none 0 0)]) (Bk ⟨[],0,[]⟩):=EG ⟨.nil 2,.refl _,.nil 7,trivial⟩
theorem gp(s:A4)(x:N5)(dims:List Pk)(mea:Int)(cnd:B1)(hE:¬P6 s x=0):A3 Tryz.prog 16 [sA s,c9 x,.sl 2 (dims.map B4),.i mea,E0 cnd] (.tup [Bk ⟨[],0,[]⟩,.i (P6 s x)]):=by
 have h1:=e8 s x
 generalize P6 s x=e at *
 obtain⟨pr,ver,picks,rows⟩:=x
 try dsimp only at *
 refine Ai Tryz.func16 (by kernel_rfl) rfl rfl rfl rfl rfl (by intro t T h;cases h) fun lW E h0 qp=>?_
 clear lW
 repeat'((first|refine A1 h1 ?_ |refine S2 ?_|(refine T6 ?_ ?_<;>intro h<;>try exact V1 h)|intro el lU lV|intro el lU|exact T4|refine T5 ?_ ?_|intro ex)<;>try conv=>whnf)
 all_goals first
  |(exfalso;omega)
  |exact u3 rfl rfl rfl Kb rfl (.refl _) rfl
theorem gq(s:A4)(x:N5)(dims:List Pk)(mea:Int)(cnd:B1)(e1:P6 s x=0)(hE:¬Q1 s (Bf dims mea cnd)=0):A3 Tryz.prog 16 [sA s,c9 x,.sl 2 (dims.map B4),.i mea,E0 cnd] (.tup [Bk ⟨[],0,[]⟩,.i (Q1 s (Bf dims mea cnd))]):=by
 have h1:=e8 s x
 rw[e1]at h1
 have h2:=DK s dims mea cnd
 unfold Bf at *
 generalize Q1 s _=e at *
 obtain⟨pr,ver,picks,rows⟩:=x
 try dsimp only at *
 refine Ai Tryz.func16 (by kernel_rfl) rfl rfl rfl rfl rfl (by intro t T h;cases h) fun lW E h0 qp=>?_
 clear lW
 repeat'((first|refine A1 h1 ?_|refine A1 h2 ?_ |refine S2 ?_|(refine T6 ?_ ?_<;>intro h<;>try exact V1 h)|intro el lU lV|intro el lU|exact T4|refine T5 ?_ ?_|intro ex)<;>try conv=>whnf)
 all_goals first
  |(exfalso;omega)
  |exact u3 rfl rfl rfl Kb rfl (.refl _) rfl
theorem gr(s:A4)(x:N5)(dims:List Pk)(mea:Int)(cnd:B1)(e1:P6 s x=0)(e2:Q1 s (Bf dims mea cnd)=0)(hE:q8 x.picks (Dk s (Dl dims mea cnd))=false):A3 Tryz.prog 16 [sA s,c9 x,.sl 2 (dims.map B4),.i mea,E0 cnd] (.tup [Bk ⟨[],0,[]⟩,.i (23)]):=by
 have h1:=e8 s x
 rw[e1]at h1
 have h2:A3 Tryz.prog 44 [sA s,.sl 2 (dims.map B4),.i mea,E0 cnd] (.i 0):=e2▸DK s dims mea cnd
 have h3:=Ei s dims mea cnd
 have h4:=Bu x.picks (Dk s (Dl dims mea cnd))
 rw[hE]at h4
 obtain⟨pr,ver,picks,rows⟩:=x
 try dsimp only at *
 refine Ai Tryz.func16 (by kernel_rfl) rfl rfl rfl rfl rfl (by intro t T h;cases h) fun lW E h0 qp=>?_
 clear lW
 repeat'((first|refine A1 h1 ?_|refine A1 h2 ?_|refine A1 h3 ?_|refine A1 h4 ?_|(refine B3 ?_ ?_;kernel_rfl) |refine S2 ?_|(refine T6 ?_ ?_<;>intro h<;>try exact V1 h)|intro el lU lV|intro el lU|exact T4|refine T5 ?_ ?_|intro ex)<;>try conv=>whnf)
 all_goals first
  |(exfalso;omega)
  |exact u3 rfl rfl rfl Kb rfl (.refl _) rfl
theorem gu(s:A4)(x:N5)(dims:List Pk)(mea:Int)(cnd:B1)(e1:P6 s x=0)(e2:Q1 s (Bf dims mea cnd)=0)(e3:q8 x.picks (Dk s (Dl dims mea cnd))=true)(hE:AP s dims [[]]=none):A3 Tryz.prog 16 [sA s,c9 x,.sl 2 (dims.map B4),.i mea,E0 cnd] (.tup [Bk ⟨[],0,[]⟩,.i (1)]):=by
 have h1:=e8 s x
 rw[e1]at h1
 have h2:A3 Tryz.prog 44 [sA s,.sl 2 (dims.map B4),.i mea,E0 cnd] (.i 0):=e2▸DK s dims mea cnd
 have h3:=Ei s dims mea cnd
 have h4:=Bu x.picks (Dk s (Dl dims mea cnd))
 rw[e3]at h4
 obtain⟨hr,qO,pM,wc⟩:=Jp e2
 have h5:=FO s hr dims (ID pM).2.1 (ID pM).2.2
 rw[hE]at h5
 obtain⟨pr,ver,picks,rows⟩:=x
 try dsimp only at *
 refine Ai Tryz.func16 (by kernel_rfl) rfl rfl rfl rfl rfl (by intro t T h;cases h) fun lW E h0 qp=>?_
 clear lW
 repeat'((first|refine A1 h1 ?_|refine A1 h2 ?_|refine A1 h3 ?_|refine A1 h4 ?_|refine A1 h5 ?_|(refine B3 ?_ ?_;kernel_rfl) |refine S2 ?_|(refine T6 ?_ ?_<;>intro h<;>try exact V1 h)|intro el lU lV|intro el lU|exact T4|refine T5 ?_ ?_|intro ex)<;>try conv=>whnf)
 all_goals first
  |(exfalso;omega)
  |exact u3 rfl rfl rfl Kb rfl (.refl _) rfl
end Go.Proofs.YtiphlhoclaogjaaGreatDoor
