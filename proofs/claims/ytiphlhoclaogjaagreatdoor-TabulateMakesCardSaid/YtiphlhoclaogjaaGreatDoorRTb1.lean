/- Chapter 17: the example of the chapter. -/
import Derived.Test.YtiphlhoclaogjaaGreatDoorRF3
import Derived.Test.YtiphlhoclaogjaaGreatDoorRF1
import Derived.Test.YtiphlhoclaogjaaGreatDoorRC1
import Derived.Test.YtiphlhoclaogjaaGreatDoorRB12
import Derived.Test.YtiphlhoclaogjaaGreatDoorRB4
import Derived.Test.YtiphlhoclaogjaaGreatDoorRRg0
import Derived.Test.YtiphlhoclaogjaaGreatDoorRTa5
set_option linter.unusedVariables false
set_option linter.unnecessarySimpa false
set_option linter.unusedSimpArgs false
set_option maxHeartbeats 64000000
namespace Go.Proofs.YtiphlhoclaogjaaGreatDoor
open Go Go.Av
attribute [local irreducible] C9 B3 C7 D1 DQ D0 C6 St.le A3 B7
set_option maxRecDepth 100000
theorem Np(xs ys:List Int):A3 Tryz.prog 23 [.sl 1 (xs.map wA),.sl 1 (ys.map wA)] (.b (decide (xs=ys))):=by
 refine B5 Tryz.func23 26 fun mK E h0=>?_
 have mL:xs.length≤9223372036854775807:=by
  have:=(mK (.sl 1 (xs.map wA)) (by simp)).sl
  simpa using this
 have qS:ys.length≤9223372036854775807:=by
  have:=(mK (.sl 1 (ys.map wA)) (by simp)).sl
  simpa using this
 clear mK
 repeat'((first|refine S2 ?_|(refine T6 ?_ ?_<;>intro h<;>try exact V1 h)|intro el mI mJ|intro el mI|exact T4|refine T5 ?_ ?_|intro ex)<;>try conv=>whnf)
 ·exact A1 rfl (congrArg AV.b (by
   have:xs≠ys:=by intro e;subst e;omega
   simp[this]))
 have hl:xs.length=ys.length:=by omega
 refine A9 (ι:=Nat) (fun k=>⟨[(0,.sl 1 (xs.map wA)),(1,.sl 1 (ys.map wA)),(5,.i k)],0,[]⟩) (fun k=>k≤xs.length∧ys.take k=xs.take k) (fun k=>xs.length-k) 0 ⟨Nat.zero_le _,rfl⟩ (A6 h0) (fun k hI=>?_)
 obtain⟨hk,hI⟩:=hI
 by_cases mM:k<xs.length
 ·obtain⟨x,hx⟩:∃x,xs[k]?=some x:=⟨_,List.getElem?_eq_getElem mM⟩
  obtain⟨y,hy⟩:∃y,ys[k]?=some y:=⟨_,List.getElem?_eq_getElem (by omega)⟩
  repeat'((first|(refine A2 (x:=x) hx (by omega) ?_)|(refine A2 (x:=y) hy (by omega) ?_)|(refine B0 ?_ ?_;kernel_rfl) |refine S2 ?_|(refine T6 ?_ ?_<;>intro h<;>try exact V1 h)|intro el mI mJ|intro el mI|exact T4|refine T5 ?_ ?_|intro ex)<;>try conv=>whnf)
  all_goals first
   |(exfalso;omega)
   |(refine A1 rfl (congrArg AV.b (decide_eq_false (fun e=>?_)).symm)
     subst e
     rw[hx]at hy
     cases hy
     omega)
   |exact⟨k+1,⟨by omega,by rw[E7 hx,E7 hy,hI];congr 2;omega⟩,by omega,A6 h0⟩
 ·repeat'((first|refine S2 ?_|(refine T6 ?_ ?_<;>intro h<;>try exact V1 h)|intro el mI mJ|intro el mI|exact T4|refine T5 ?_ ?_|intro ex)<;>try conv=>whnf)
  all_goals first
   |(exfalso;omega)
   |(refine A1 rfl (congrArg AV.b (decide_eq_true ?_).symm)
     rw[List.take_of_length_le (by omega),List.take_of_length_le (by omega)]at hI
     exact hI.symm)
theorem VM(s:A4)(e:F6):A3 Tryz.prog 46 [sA s,u9 e] (.sl 2 ((W4 s e).map A8)):=by
 have h1:=f5 s
 have h2:=VF s e
 have h3:W2 s e=true→A3 Tryz.prog 107 [sA s,u9 e] (.sl 2 ((Y3 s e).map A8)):=fun h=>by
  unfold W2 at h
  simp only[Bool.and_eq_true]at h
  exact VL s (of_decide_eq_true h.1) e h.2
 have h4:C3 s≠0→W2 s e=false:=fun h=>by unfold W2;rw[decide_eq_false h];rfl
 unfold W4
 generalize W2 s e=b at *
 generalize Y3 s e=R at *
 refine B5 Tryz.func46 17 fun mK E h0=>?_
 clear mK
 repeat'((first|refine A0 h1 ?_|refine A0 h2 ?_|(refine A0 (h3 (by assumption)) ?_)|(refine B0 ?_ ?_;kernel_rfl) |refine S2 ?_|(refine T6 ?_ ?_<;>intro h<;>try exact V1 h)|intro el mI mJ|intro el mI|exact T4|refine T5 ?_ ?_|intro ex)<;>try conv=>whnf)
 all_goals first
  |(rw[h4 (by assumption)];exact l5 (sz:=2) rfl rfl)
  |(rw[if_neg (by simp[*])];exact l5 (sz:=2) rfl rfl)
  |(rw[if_pos (by assumption)];exact A1 rfl rfl)
def Jc:A4:=⟨[([108],[⟨[97],-1⟩,⟨[98],0⟩,⟨[99],0⟩])],[⟨[119,104,111],1,0,0,0,[],false⟩,⟨[115,101,120],2,0,0,0,[],false⟩]⟩
abbrev Tx:AV:=.agg [.sl 2 [[.str [108],.sl 2 [[.str [97],.i (-1)],[.str [98],.i 0],[.str [99],.i 0]]]],.sl 7 [[.str [119,104,111],.i 1,.i 0,.i 0,.i 0,.v (.slice none 0 0),.b false],[.str [115,101,120],.i 2,.i 0,.i 0,.i 0,.v (.slice none 0 0),.b false]]]
theorem KK:NL Tx (sA Jc):=Bb ⟨.refl _,Xl ⟨⟨.refl _,.refl _,.refl _,.refl _,.refl _,.nil 1,.refl _,trivial⟩,⟨.refl _,.refl _,.refl _,.refl _,.refl _,.nil 1,.refl _,trivial⟩,trivial⟩,trivial⟩
def Ox:B6:=.mk 1 0 0 0 0 []
abbrev n7:AV:=.v (.slice none 0 0)
def lw:B6:=.mk 0 0 0 0 0 []
def e9(dims:List Pk)(mea:Int)(cnd:B6):F6:=.mk 10 0 [] mea [] dims cnd lw []
def R5(dims:List Pk)(mea:Int)(cnd:B6):X7:=⟨[116],1,cnd,dims,mea,[],.mk 0 0 0 0 0 []⟩
def AP(l:List Int):G8:=⟨l,0,0,0,0,0,[]⟩
def b6(s:A4)(x:J7)(dims:List Pk)(i:Int):List Int:=dims.map fun d=>(N6 s d.col d.lev (x.picks.zip (x.rows.getD i.toNat []).tail)).1
def Ab(s:A4)(x:J7)(mea i:Int):Int:=if 0≤mea then JR s x mea i else 0
def z4(x:J7)(i:Int):Int:=(x.rows.getD i.toNat []).headD 0
def EE(s:A4)(x:J7)(dims:List Pk)(mea:Int)(C:List G8)(i:Int):List G8:=C.map fun c=>if z1 (b6 s x dims i) c.codes=true then N2 (z4 x i) (Ab s x mea i) (decide (0≤mea)) c else c
def W5(mea:Int):List Int:=if 0≤mea then [mea]else []
def W9(s:A4)(x:J7)(dims:List Pk)(mea:Int)(L:List (List Int))(is:List Int):List G8:=is.foldl (EE s x dims mea) (L.map AP)
def b7(s:A4)(x:J7)(dims:List Pk)(mea:Int)(cnd:B6):Int :=
 if ¬K9 s x=0 then K9 s x else if ¬L6 s (R5 dims mea cnd)=0 then L6 s (R5 dims mea cnd)else if X5 x.picks (W4 s (e9 dims mea cnd))=false then 23 else if (Y0 s dims [[]]).isSome=false then 1 else 0
def EF(s:A4)(x:J7)(dims:List Pk)(mea:Int)(cnd:B6):Kz :=
 if b7 s x dims mea cnd=0 then ⟨dims,mea,W9 s x dims mea ((Y0 s dims [[]]).getD []) (e8 s x cnd (W5 mea))⟩else ⟨[],0,[]⟩
theorem CO{s:A4}{dims:List Pk}{mea:Int}{cnd:B6}(h:L6 s (R5 dims mea cnd)=0):C3 s=0∧J6 s cnd=0∧Q2 s dims=0∧(mea=-1∨R6 s mea=3):=by
 unfold L6 R5 at h
 dsimp only at h
 split at h
 ·contradiction
 ·split at h
  ·cases h
  ·split at h
   ·cases h
   ·split at h
    ·contradiction
    ·rw[if_pos rfl]at h
     unfold JX at h
     dsimp only at h
     split at h
     ·contradiction
     ·split at h
      ·cases h
      ·refine⟨by omega,by omega,by omega,by omega⟩
theorem Bx{s:A4}{l:List Pk}(h:Q2 s l=0):1≤l.length∧l.length≤3∧∀d∈l,N3 s d=0∧(B8 s d.col).kind=2:=by
 unfold Q2 at h
 split at h
 ·cases h
 ·refine⟨by omega,by omega,fun d hd=>?_⟩
  obtain⟨k,hk⟩:=List.getElem?_of_mem hd
  have:=O9 h k d hk
  unfold W0 at this
  split at this
  ·contradiction
  ·split at this
   ·cases this
   ·exact⟨by omega,by omega⟩
theorem ly{s:A4}(hr:C3 s=0){c:Int}(h:R6 s c=3):∃x,s.cols[c.toNat]?=some x∧B8 s c=x∧1≤c∧c<s.cols.length∧x.kind=3∧meaE x=0:=by
 unfold R6 at h
 split at h
 ·rename_i hc
  obtain⟨x,hx⟩:∃x,s.cols[c.toNat]?=some x:=⟨_,List.getElem?_eq_getElem (by omega)⟩
  have mX:B8 s c=x:=C1 hx
  rw[mX]at h
  have h1:1≤c:=by
   have h0:=(D3 hr).2.2.2.2
   by_cases hz:c=0
   ·subst hz
    cases nJ:s.cols with
    |nil=>rw[nJ]at hx;simp at hx
    |cons a r =>
     rw[nJ]at hx h0
     simp at hx h0
     subst hx
     omega
   ·omega
  exact⟨x,hx,mX,h1,hc.2,h,v9 (d6 ((D3 hr).2.2.2.1 _ x hx)).2.2.1 h⟩
 ·cases h
theorem Nq{s:A4}(hr:C3 s=0){c:Int}(h:R6 s c=3)(fr v to:Int):-1099511627776≤(T9 s c fr v to).1∧(T9 s c fr v to).1≤1099511627776:=by
 obtain⟨x,hx,mX,h1,h2,h3,h4⟩:=ly hr h
 have hf:E5 s c=x.widths.length:=by unfold E5 M0;rw[if_neg (by omega),mX,if_neg (by omega)]
 unfold T9
 split
 ·exact⟨by decide,by decide⟩
 ·rename_i hn
  rw[mX]
  simp only[if_neg (show ¬x.kind=2 by omega)]
  split
  ·dsimp only
   unfold BF
   have hs:=Sk (c:=x) (level:=fr) (v:=v) h4 (by omega) (by omega)
   split
   ·split
    ·exact⟨by dsimp only;decide,by dsimp only;decide⟩
    ·rename_i hv _
     rw[hv.2];exact⟨by dsimp only;decide,by dsimp only;decide⟩
   ·split
    ·exact⟨by decide,by decide⟩
    ·split
     ·exact⟨by decide,by decide⟩
     ·split
      ·exact⟨by decide,by decide⟩
      ·have hw:=f6 (c:=x) (level:=to) (T7 h4).2.2.2.2.2 (by omega) (by omega)
       have hd:=V9 (M1 x fr v).1 hw.1
       dsimp only
       omega
  ·exact⟨by decide,by decide⟩
theorem Ty{s:A4}(hr:C3 s=0){c:Int}(h:R6 s c=3)(lev:Int):∀pv:List (Pk×Int),-1099511627776≤(N6 s c lev pv).1∧(N6 s c lev pv).1≤1099511627776
 |[]=>Nq hr h _ _ _
 |(p,v)::r=>by
  unfold N6
  split
  ·exact Nq hr h _ _ _
  ·exact Ty hr h lev r
theorem Nr{s:A4}(hr:C3 s=0){mea:Int}(h:mea=-1∨R6 s mea=3)(x:J7)(i:Int):-1099511627776≤Ab s x mea i∧Ab s x mea i≤1099511627776:=by
 unfold Ab
 split
 ·rcases h with h|h
  ·omega
  ·exact Ty hr h _ _
 ·exact⟨by decide,by decide⟩
structure EG(m n:Nat)(c:G8):Prop where
 codes:c.codes.length=m
 cnt:0≤c.cnt∧c.cnt≤n
 sum:-(1099511627776*(n:Int))≤c.sum∧c.sum≤1099511627776*n
 amo:0≤c.amo∧c.amo≤1099511627776*n
 rows:c.rows.length≤n
theorem EG.ok{m n:Nat}{c:G8}(h:EG m n c)(hn:n≤500):Oq c:=by
 obtain⟨_,h1,h2,h3,h4⟩:=h
 exact⟨by omega,by omega,by omega,by omega⟩
theorem EG.add{m n:Nat}{c:G8}(h:EG m n c){key v:Int}(hv:-1099511627776≤v∧v≤1099511627776)(b:Bool):EG m (n+1) (N2 key v b c):=by
 obtain⟨h0,h1,h2,h3,h4⟩:=h
 have ha:0≤max v (-v)∧max v (-v)≤1099511627776:=by omega
 generalize max v (-v)=a at *
 unfold N2
 split
 ·refine⟨h0,?_,?_,?_,?_⟩<;>dsimp only<;>first|(simp;omega)|omega
 ·split
  ·refine⟨h0,?_,?_,?_,?_⟩<;>dsimp only<;>first|(simp;omega)|omega
  ·split
   ·refine⟨h0,?_,?_,?_,?_⟩<;>dsimp only<;>first|(simp;omega)|omega
   ·refine⟨h0,?_,?_,?_,?_⟩<;>dsimp only<;>first|(simp;omega)|omega
theorem EG.more{m n:Nat}{c:G8}(h:EG m n c):EG m (n+1) c:=by
 obtain⟨h0,h1,h2,h3,h4⟩:=h
 exact⟨h0,by omega,by omega,by omega,by omega⟩
theorem dp(s:A4)(x:J7)(dims:List Pk)(mea:Int)(C:List G8)(i:Int):(EE s x dims mea C i).length=C.length:=List.length_map ..
theorem iE{s:A4}{x:J7}{dims:List Pk}{mea:Int}(hv:∀i,-1099511627776≤Ab s x mea i∧Ab s x mea i≤1099511627776){m n:Nat}{C:List G8}(h:∀c∈C,EG m n c)(i:Int):∀c∈EE s x dims mea C i,EG m (n+1) c:=by
 intro c hc
 unfold EE at hc
 rw[List.mem_map]at hc
 obtain⟨c0,h0,rfl⟩:=hc
 split
 ·exact(h c0 h0).add (hv i) _
 ·exact(h c0 h0).more
theorem Lu{s:A4}:∀{ds:List Pk} {out L:List (List Int)} {m:Nat},Y0 s ds out=some L→(∀l∈out,l.length=m)→∀l∈L,l.length=m+ds.length
 |[],out,L,m,h,ho=>by unfold Y0 at h;cases h;simpa using ho
 |d::r,out,L,m,h,ho=>by
  unfold Y0 at h
  split at h
  ·cases h
  ·have:=Lu (m:=m+1) h fun l hl=>by
    obtain⟨l0,h1,h2⟩:=Tp hl
    rw[h2,ho l0 h1]
   intro l hl
   rw[this l hl,List.length_cons];omega
theorem Lv{s:A4}:∀{ds:List Pk} {out L:List (List Int)},Y0 s ds out=some L→out.length≤2000→L.length≤2000
 |[],out,L,h,ho=>by unfold Y0 at h;cases h;exact ho
 |d::r,out,L,h,ho=>by
  unfold Y0 at h
  split at h
  ·cases h
  ·exact Lv h (by rw[Bw];omega)
theorem Hr(s:A4)(x:J7)(dims:List Pk)(mea:Int)(L:List (List Int)){is:List Int}{k:Nat}{i:Int}(h:is[k]?=some i):W9 s x dims mea L (is.take (k+1))=EE s x dims mea (W9 s x dims mea L (is.take k)) i:=by
 unfold W9
 rw[E7 h,List.foldl_append]
 rfl
theorem Lw{s:A4}{x:J7}{dims:List Pk}{mea:Int}(hv:∀i,-1099511627776≤Ab s x mea i∧Ab s x mea i≤1099511627776){L:List (List Int)}(hL:∀l∈L,l.length=dims.length)(is:List Int):∀k:Nat,k≤is.length→(W9 s x dims mea L (is.take k)).length=L.length∧∀c∈W9 s x dims mea L (is.take k),EG dims.length k c
 |0,_=>by
  refine⟨by simp[W9],fun c hc=>?_⟩
  simp only[List.take_zero,W9,List.foldl_nil,List.mem_map]at hc
  obtain⟨l,hl,rfl⟩:=hc
  exact⟨hL l hl,by simp[AP],by simp[AP],by simp[AP],by simp[AP]⟩
 |k+1,hk=>by
  obtain⟨i,hi⟩:∃i,is[k]?=some i:=⟨_,List.getElem?_eq_getElem (by omega)⟩
  obtain⟨h1,h2⟩:=Lw hv hL is k (by omega)
  rw[Hr s x dims mea L hi]
  exact⟨by rw[dp,h1],iE hv h2 i⟩
theorem KL{s:A4}{x:J7}{cnd:B6}{cols:List Int}{i:Int}(h:i∈e8 s x cnd cols):∃(k:Nat) (r:List Int),i=k∧x.rows[k]?=some r:=by
 unfold e8 at h
 split at h
 ·cases h
 ·exact WN (List.mem_filter.1 h).1
theorem KM(s:A4)(x:J7)(cnd:B6)(cols:List Int):(e8 s x cnd cols).length≤x.rows.length:=by
 unfold e8
 split
 ·exact Nat.zero_le _
 ·exact Nat.le_trans (QN _ _) (WO s x cnd)
end Go.Proofs.YtiphlhoclaogjaaGreatDoor
namespace Go.Proofs.YtiphlhoclaogjaaGreatDoor
open Go Go.Av
attribute [local irreducible] C9 B3 C7 D1 DQ D0 C6 St.le A3 B7
set_option maxRecDepth 100000
attribute [local irreducible] GN EC KJ Gq
abbrev bE(l:List Int):List AV:=[.sl 1 (l.map wA),.i 0,.i 0,.i 0,.i 0,.i 0,.v (.slice none 0 0)]
theorem WX(L:List (List Int)):TT (L.map bE) ((L.map AP).map N0):=by
 rw[List.map_map]
 exact Xy fun x _=>⟨rfl,rfl,rfl,rfl,rfl,rfl,⟨rfl,rfl,by decide⟩,trivial⟩
theorem QX(C:List G8):C.map U5=(C.map N0).map (·.map On):=by
 rw[List.map_map]
 rfl
abbrev kP(dims:List Pk)(mea:Int)(cnd:B6):List AV:=[.i 10,.i 0,.str [],.i mea,.v (.slice none 0 0),.sl 2 (dims.map A8),.i cnd.op,.i cnd.col,.i cnd.code,.i cnd.lo,.i cnd.hi,.sl 6 (cnd.kids.map P9),.i 0,.i 0,.i 0,.i 0,.i 0,.v (.slice none 0 0),.v (.slice none 0 0)]
theorem fJ(dims:List Pk)(mea:Int)(cnd:B6):FI (kP dims mea cnd) (Bv (e9 dims mea cnd)):=⟨.refl _,.refl _,.refl _,.refl _,.nil 1,.refl _,.refl _,.refl _,.refl _,.refl _,.refl _,.refl _,.refl _,.refl _,.refl _,.refl _,.refl _,.nil 6,.nil 19,trivial⟩
theorem Ed(s:A4)(dims:List Pk)(mea:Int)(cnd:B6):A3 Tryz.prog 46 [sA s,.agg (kP dims mea cnd)] (.sl 2 ((W4 s (e9 dims mea cnd)).map A8)):=s5 (VM s (e9 dims mea cnd)) ⟨.refl _,Bb (fJ dims mea cnd),trivial⟩
theorem CP:NL (.agg [.v (.slice none 0 0),.i 0,.v (.slice none 0 0)]) (X8 ⟨[],0,[]⟩):=Bb ⟨.nil 2,.refl _,.nil 7,trivial⟩
theorem iF(s:A4)(x:J7)(dims:List Pk)(mea:Int)(cnd:B6)(hE:¬K9 s x=0):A3 Tryz.prog 16 [sA s,T8 x,.sl 2 (dims.map A8),.i mea,D5 cnd] (.tup [X8 ⟨[],0,[]⟩,.i (K9 s x)]):=by
 have h1:=j3 s x
 generalize K9 s x=e at *
 obtain⟨pr,ver,picks,rows⟩:=x
 try dsimp only at *
 refine AG Tryz.func16 (by kernel_rfl) rfl rfl rfl rfl rfl (by intro t T h;cases h) fun mK E h0 sE=>?_
 clear mK
 repeat'((first|refine A0 h1 ?_ |refine S2 ?_|(refine T6 ?_ ?_<;>intro h<;>try exact V1 h)|intro el mI mJ|intro el mI|exact T4|refine T5 ?_ ?_|intro ex)<;>try conv=>whnf)
 all_goals first
  |(exfalso;omega)
  |exact S8 rfl rfl rfl CP rfl (.refl _) rfl
theorem iG(s:A4)(x:J7)(dims:List Pk)(mea:Int)(cnd:B6)(e1:K9 s x=0)(hE:¬L6 s (R5 dims mea cnd)=0):A3 Tryz.prog 16 [sA s,T8 x,.sl 2 (dims.map A8),.i mea,D5 cnd] (.tup [X8 ⟨[],0,[]⟩,.i (L6 s (R5 dims mea cnd))]):=by
 have h1:=j3 s x
 rw[e1]at h1
 have h2:=Cu s dims mea cnd
 unfold R5 at *
 generalize L6 s _=e at *
 obtain⟨pr,ver,picks,rows⟩:=x
 try dsimp only at *
 refine AG Tryz.func16 (by kernel_rfl) rfl rfl rfl rfl rfl (by intro t T h;cases h) fun mK E h0 sE=>?_
 clear mK
 repeat'((first|refine A0 h1 ?_|refine A0 h2 ?_ |refine S2 ?_|(refine T6 ?_ ?_<;>intro h<;>try exact V1 h)|intro el mI mJ|intro el mI|exact T4|refine T5 ?_ ?_|intro ex)<;>try conv=>whnf)
 all_goals first
  |(exfalso;omega)
  |exact S8 rfl rfl rfl CP rfl (.refl _) rfl
theorem iH(s:A4)(x:J7)(dims:List Pk)(mea:Int)(cnd:B6)(e1:K9 s x=0)(e2:L6 s (R5 dims mea cnd)=0)(hE:X5 x.picks (W4 s (e9 dims mea cnd))=false):A3 Tryz.prog 16 [sA s,T8 x,.sl 2 (dims.map A8),.i mea,D5 cnd] (.tup [X8 ⟨[],0,[]⟩,.i (23)]):=by
 have h1:=j3 s x
 rw[e1]at h1
 have h2:A3 Tryz.prog 44 [sA s,.sl 2 (dims.map A8),.i mea,D5 cnd] (.i 0):=e2▸Cu s dims mea cnd
 have h3:=Ed s dims mea cnd
 have h4:=Ba x.picks (W4 s (e9 dims mea cnd))
 rw[hE]at h4
 obtain⟨pr,ver,picks,rows⟩:=x
 try dsimp only at *
 refine AG Tryz.func16 (by kernel_rfl) rfl rfl rfl rfl rfl (by intro t T h;cases h) fun mK E h0 sE=>?_
 clear mK
 repeat'((first|refine A0 h1 ?_|refine A0 h2 ?_|refine A0 h3 ?_|refine A0 h4 ?_|(refine B0 ?_ ?_;kernel_rfl) |refine S2 ?_|(refine T6 ?_ ?_<;>intro h<;>try exact V1 h)|intro el mI mJ|intro el mI|exact T4|refine T5 ?_ ?_|intro ex)<;>try conv=>whnf)
 all_goals first
  |(exfalso;omega)
  |exact S8 rfl rfl rfl CP rfl (.refl _) rfl
theorem iI(s:A4)(x:J7)(dims:List Pk)(mea:Int)(cnd:B6)(e1:K9 s x=0)(e2:L6 s (R5 dims mea cnd)=0)(e3:X5 x.picks (W4 s (e9 dims mea cnd))=true)(hE:Y0 s dims [[]]=none):A3 Tryz.prog 16 [sA s,T8 x,.sl 2 (dims.map A8),.i mea,D5 cnd] (.tup [X8 ⟨[],0,[]⟩,.i (1)]):=by
 have h1:=j3 s x
 rw[e1]at h1
 have h2:A3 Tryz.prog 44 [sA s,.sl 2 (dims.map A8),.i mea,D5 cnd] (.i 0):=e2▸Cu s dims mea cnd
 have h3:=Ed s dims mea cnd
 have h4:=Ba x.picks (W4 s (e9 dims mea cnd))
 rw[e3]at h4
 obtain⟨hr,qa,nw,th⟩:=CO e2
 have h5:=FQ s hr dims (Bx nw).2.1 (Bx nw).2.2
 rw[hE]at h5
 obtain⟨pr,ver,picks,rows⟩:=x
 try dsimp only at *
 refine AG Tryz.func16 (by kernel_rfl) rfl rfl rfl rfl rfl (by intro t T h;cases h) fun mK E h0 sE=>?_
 clear mK
 repeat'((first|refine A0 h1 ?_|refine A0 h2 ?_|refine A0 h3 ?_|refine A0 h4 ?_|refine A0 h5 ?_|(refine B0 ?_ ?_;kernel_rfl) |refine S2 ?_|(refine T6 ?_ ?_<;>intro h<;>try exact V1 h)|intro el mI mJ|intro el mI|exact T4|refine T5 ?_ ?_|intro ex)<;>try conv=>whnf)
 all_goals first
  |(exfalso;omega)
  |exact S8 rfl rfl rfl CP rfl (.refl _) rfl
end Go.Proofs.YtiphlhoclaogjaaGreatDoor
