/- Chapter 17: the example of the chapter. -/
import Derived.Test.YtiphlhoclaogjaaGreatDoorQF3
import Derived.Test.YtiphlhoclaogjaaGreatDoorQQn0
import Derived.Test.YtiphlhoclaogjaaGreatDoorQCm1
import Derived.Test.YtiphlhoclaogjaaGreatDoorQB12
import Derived.Test.YtiphlhoclaogjaaGreatDoorQB4
import Derived.Test.YtiphlhoclaogjaaGreatDoorQRg0
import Derived.Test.YtiphlhoclaogjaaGreatDoorQTa5
set_option linter.unusedVariables false
set_option linter.unnecessarySimpa false
set_option linter.unusedSimpArgs false
set_option maxHeartbeats 64000000
namespace Go.Proofs.YtiphlhoclaogjaaGreatDoor
open Go Go.Av
attribute [local irreducible] C7 B1 D1 C8 DQ D0 C6 St.le A3 B8
set_option maxRecDepth 100000
theorem OA(xs ys:List Int):A3 Tryz.prog 23 [.sl 1 (xs.map wA),.sl 1 (ys.map wA)] (.b (decide (xs=ys))):=by
 refine C1 Tryz.func23 26 fun nd E h0=>?_
 have nZ:xs.length≤9223372036854775807:=by
  have:=(nd (.sl 1 (xs.map wA)) (by simp)).sl
  simpa using this
 have vJ:ys.length≤9223372036854775807:=by
  have:=(nd (.sl 1 (ys.map wA)) (by simp)).sl
  simpa using this
 clear nd
 repeat'((first|refine S2 ?_|(refine T6 ?_ ?_<;>intro h<;>try exact V1 h)|intro el nX nY|intro el nX|exact T4|refine T5 ?_ ?_|intro ex)<;>try conv=>whnf)
 ·exact A0 rfl (congrArg AV.b (by
   have:xs≠ys:=by intro e;subst e;omega
   simp[this]))
 have hl:xs.length=ys.length:=by omega
 refine B2 (ι:=Nat) (fun k=>⟨[(0,.sl 1 (xs.map wA)),(1,.sl 1 (ys.map wA)),(5,.i k)],0,[]⟩) (fun k=>k≤xs.length∧ys.take k=xs.take k) (fun k=>xs.length-k) 0 ⟨Nat.zero_le _,rfl⟩ (A6 h0) (fun k hI=>?_)
 obtain⟨hk,hI⟩:=hI
 by_cases nf:k<xs.length
 ·obtain⟨x,hx⟩:∃x,xs[k]?=some x:=⟨_,List.getElem?_eq_getElem nf⟩
  obtain⟨y,hy⟩:∃y,ys[k]?=some y:=⟨_,List.getElem?_eq_getElem (by omega)⟩
  repeat'((first|(refine A2 (x:=x) hx (by omega) ?_)|(refine A2 (x:=y) hy (by omega) ?_)|(refine B5 ?_ ?_;kernel_rfl) |refine S2 ?_|(refine T6 ?_ ?_<;>intro h<;>try exact V1 h)|intro el nX nY|intro el nX|exact T4|refine T5 ?_ ?_|intro ex)<;>try conv=>whnf)
  all_goals first
   |(exfalso;omega)
   |(refine A0 rfl (congrArg AV.b (decide_eq_false (fun e=>?_)).symm)
     subst e
     rw[hx]at hy
     cases hy
     omega)
   |exact⟨k+1,⟨by omega,by rw[I0 hx,I0 hy,hI];congr 2;omega⟩,by omega,A6 h0⟩
 ·repeat'((first|refine S2 ?_|(refine T6 ?_ ?_<;>intro h<;>try exact V1 h)|intro el nX nY|intro el nX|exact T4|refine T5 ?_ ?_|intro ex)<;>try conv=>whnf)
  all_goals first
   |(exfalso;omega)
   |(refine A0 rfl (congrArg AV.b (decide_eq_true ?_).symm)
     rw[List.take_of_length_le (by omega),List.take_of_length_le (by omega)]at hI
     exact hI.symm)
theorem Vm(s:A4)(e:G2):A3 Tryz.prog 46 [sA s,Cp e] (.sl 2 ((Bl s e).map B6)):=by
 have h1:=c8 s
 have h2:=Vf s e
 have h3:Hx s e=true→A3 Tryz.prog 107 [sA s,Cp e] (.sl 2 ((w8 s e).map B6)):=fun h=>by
  unfold Hx at h
  simp only[Bool.and_eq_true]at h
  exact Vl s (of_decide_eq_true h.1) e h.2
 have h4:C5 s≠0→Hx s e=false:=fun h=>by unfold Hx;rw[decide_eq_false h];rfl
 unfold Bl
 generalize Hx s e=b at *
 generalize w8 s e=R at *
 refine C1 Tryz.func46 17 fun nd E h0=>?_
 clear nd
 repeat'((first|refine A1 h1 ?_|refine A1 h2 ?_|(refine A1 (h3 (by assumption)) ?_)|(refine B5 ?_ ?_;kernel_rfl) |refine S2 ?_|(refine T6 ?_ ?_<;>intro h<;>try exact V1 h)|intro el nX nY|intro el nX|exact T4|refine T5 ?_ ?_|intro ex)<;>try conv=>whnf)
 all_goals first
  |(rw[h4 (by assumption)];exact x9 (sz:=2) rfl rfl)
  |(rw[if_neg (by simp[*])];exact x9 (sz:=2) rfl rfl)
  |(rw[if_pos (by assumption)];exact A0 rfl rfl)
def Jm:A4:=⟨[([108],[⟨[97],-1⟩,⟨[98],0⟩,⟨[99],0⟩])],[⟨[119,104,111],1,0,0,0,[],false⟩,⟨[115,101,120],2,0,0,0,[],false⟩]⟩
abbrev UN:AV:=.agg [.sl 2 [[.str [108],.sl 2 [[.str [97],.i (-1)],[.str [98],.i 0],[.str [99],.i 0]]]],.sl 7 [[.str [119,104,111],.i 1,.i 0,.i 0,.i 0,.v (.slice none 0 0),.b false],[.str [115,101,120],.i 2,.i 0,.i 0,.i 0,.v (.slice none 0 0),.b false]]]
theorem KV:NL UN (sA Jm):=Do ⟨.refl _,gQ ⟨⟨.refl _,.refl _,.refl _,.refl _,.refl _,.nil 1,.refl _,trivial⟩,⟨.refl _,.refl _,.refl _,.refl _,.refl _,.nil 1,.refl _,trivial⟩,trivial⟩,trivial⟩
def PH:B0:=.mk 1 0 0 0 0 []
abbrev n7:AV:=.v (.slice none 0 0)
def nJ:B0:=.mk 0 0 0 0 0 []
def Ct(dims:List Pk)(mea:Int)(cnd:B0):G2:=.mk 10 0 [] mea [] dims cnd nJ []
def AD(dims:List Pk)(mea:Int)(cnd:B0):W2:=⟨[116],1,cnd,dims,mea,[],.mk 0 0 0 0 0 []⟩
def o6(l:List Int):F1:=⟨l,0,0,0,0,0,[]⟩
def Bm(s:A4)(x:H6)(dims:List Pk)(i:Int):List Int:=dims.map fun d=>(V6 s d.col d.lev (x.picks.zip (x.rows.getD i.toNat []).tail)).1
def Cu(s:A4)(x:H6)(mea i:Int):Int:=if 0≤mea then Jc s x mea i else 0
def Bn(x:H6)(i:Int):Int:=(x.rows.getD i.toNat []).headD 0
def EC(s:A4)(x:H6)(dims:List Pk)(mea:Int)(C:List F1)(i:Int):List F1:=C.map fun c=>if I7 (Bm s x dims i) c.codes=true then L2 (Bn x i) (Cu s x mea i) (decide (0≤mea)) c else c
def V7(mea:Int):List Int:=if 0≤mea then [mea]else []
def U5(s:A4)(x:H6)(dims:List Pk)(mea:Int)(L:List (List Int))(is:List Int):List F1:=is.foldl (EC s x dims mea) (L.map o6)
def i6(s:A4)(x:H6)(dims:List Pk)(mea:Int)(cnd:B0):Int :=
 if ¬R2 s x=0 then R2 s x else if ¬O3 s (AD dims mea cnd)=0 then O3 s (AD dims mea cnd)else if z4 x.picks (Bl s (Ct dims mea cnd))=false then 23 else if (Y0 s dims [[]]).isSome=false then 1 else 0
def Cv(s:A4)(x:H6)(dims:List Pk)(mea:Int)(cnd:B0):LP :=
 if i6 s x dims mea cnd=0 then ⟨dims,mea,U5 s x dims mea ((Y0 s dims [[]]).getD []) (R3 s x cnd (V7 mea))⟩else ⟨[],0,[]⟩
theorem Jn{s:A4}{dims:List Pk}{mea:Int}{cnd:B0}(h:O3 s (AD dims mea cnd)=0):C5 s=0∧H0 s cnd=0∧J4 s dims=0∧(mea=-1∨R4 s mea=3):=by
 unfold O3 AD at h
 dsimp only at h
 split at h
 ·contradiction
 ·split at h
  ·cases h
  ·split at h
   ·cases h
   ·split at h
    ·contradiction
    ·rw[if_pos rfl]at h
     unfold Hy at h
     dsimp only at h
     split at h
     ·contradiction
     ·split at h
      ·cases h
      ·refine⟨by omega,by omega,by omega,by omega⟩
theorem o7{s:A4}{l:List Pk}(h:J4 s l=0):1≤l.length∧l.length≤3∧∀d∈l,I4 s d=0∧(B4 s d.col).kind=2:=by
 unfold J4 at h
 split at h
 ·cases h
 ·refine⟨by omega,by omega,fun d hd=>?_⟩
  obtain⟨k,hk⟩:=List.getElem?_of_mem hd
  have:=O5 h k d hk
  unfold Q0 at this
  split at this
  ·contradiction
  ·split at this
   ·cases this
   ·exact⟨by omega,by omega⟩
theorem nK{s:A4}(hr:C5 s=0){c:Int}(h:R4 s c=3):∃x,s.cols[c.toNat]?=some x∧B4 s c=x∧1≤c∧c<s.cols.length∧x.kind=3∧meaE x=0:=by
 unfold R4 at h
 split at h
 ·rename_i hc
  obtain⟨x,hx⟩:∃x,s.cols[c.toNat]?=some x:=⟨_,List.getElem?_eq_getElem (by omega)⟩
  have nt:B4 s c=x:=C0 hx
  rw[nt]at h
  have h1:1≤c:=by
   have h0:=(E9 hr).2.2.2.2
   by_cases hz:c=0
   ·subst hz
    cases oz:s.cols with
    |nil=>rw[oz]at hx;simp at hx
    |cons a r =>
     rw[oz]at hx h0
     simp at hx h0
     subst hx
     omega
   ·omega
  exact⟨x,hx,nt,h1,hc.2,h,CA (v4 ((E9 hr).2.2.2.1 _ x hx)).2.2.1 h⟩
 ·cases h
theorem OB{s:A4}(hr:C5 s=0){c:Int}(h:R4 s c=3)(fr v to:Int):-1099511627776≤(d7 s c fr v to).1∧(d7 s c fr v to).1≤1099511627776:=by
 obtain⟨x,hx,nt,h1,h2,h3,h4⟩:=nK hr h
 have hf:F2 s c=x.widths.length:=by unfold F2 N0;rw[if_neg (by omega),nt,if_neg (by omega)]
 unfold d7
 split
 ·exact⟨by decide,by decide⟩
 ·rename_i hn
  rw[nt]
  simp only[if_neg (show ¬x.kind=2 by omega)]
  split
  ·dsimp only
   unfold BP
   have hs:=TC (c:=x) (level:=fr) (v:=v) h4 (by omega) (by omega)
   split
   ·split
    ·exact⟨by dsimp only;decide,by dsimp only;decide⟩
    ·rename_i hv _
     rw[hv.2];exact⟨by dsimp only;decide,by dsimp only;decide⟩
   ·split
    ·exact⟨by decide,by decide⟩
    ·split
     ·exact⟨by decide,by decide⟩
     ·split
      ·exact⟨by decide,by decide⟩
      ·have hw:=c9 (c:=x) (level:=to) (W5 h4).2.2.2.2.2 (by omega) (by omega)
       have hd:=V3 (M1 x fr v).1 hw.1
       dsimp only
       omega
  ·exact⟨by decide,by decide⟩
theorem UO{s:A4}(hr:C5 s=0){c:Int}(h:R4 s c=3)(lev:Int):∀pv:List (Pk×Int),-1099511627776≤(V6 s c lev pv).1∧(V6 s c lev pv).1≤1099511627776
 |[]=>OB hr h _ _ _
 |(p,v)::r=>by
  unfold V6
  split
  ·exact OB hr h _ _ _
  ·exact UO hr h lev r
theorem UP{s:A4}(hr:C5 s=0){mea:Int}(h:mea=-1∨R4 s mea=3)(x:H6)(i:Int):-1099511627776≤Cu s x mea i∧Cu s x mea i≤1099511627776:=by
 unfold Cu
 split
 ·rcases h with h|h
  ·omega
  ·exact UO hr h _ _
 ·exact⟨by decide,by decide⟩
structure ED(m n:Nat)(c:F1):Prop where
 codes:c.codes.length=m
 cnt:0≤c.cnt∧c.cnt≤n
 sum:-(1099511627776*(n:Int))≤c.sum∧c.sum≤1099511627776*n
 amo:0≤c.amo∧c.amo≤1099511627776*n
 rows:c.rows.length≤n
theorem ED.ok{m n:Nat}{c:F1}(h:ED m n c)(hn:n≤500):PE c:=by
 obtain⟨_,h1,h2,h3,h4⟩:=h
 exact⟨by omega,by omega,by omega,by omega⟩
theorem ED.add{m n:Nat}{c:F1}(h:ED m n c){key v:Int}(hv:-1099511627776≤v∧v≤1099511627776)(b:Bool):ED m (n+1) (L2 key v b c):=by
 obtain⟨h0,h1,h2,h3,h4⟩:=h
 have ha:0≤max v (-v)∧max v (-v)≤1099511627776:=by omega
 generalize max v (-v)=a at *
 unfold L2
 split
 ·refine⟨h0,?_,?_,?_,?_⟩<;>dsimp only<;>first|(simp;omega)|omega
 ·split
  ·refine⟨h0,?_,?_,?_,?_⟩<;>dsimp only<;>first|(simp;omega)|omega
  ·split
   ·refine⟨h0,?_,?_,?_,?_⟩<;>dsimp only<;>first|(simp;omega)|omega
   ·refine⟨h0,?_,?_,?_,?_⟩<;>dsimp only<;>first|(simp;omega)|omega
theorem ED.more{m n:Nat}{c:F1}(h:ED m n c):ED m (n+1) c:=by
 obtain⟨h0,h1,h2,h3,h4⟩:=h
 exact⟨h0,by omega,by omega,by omega,by omega⟩
theorem fO(s:A4)(x:H6)(dims:List Pk)(mea:Int)(C:List F1)(i:Int):(EC s x dims mea C i).length=C.length:=List.length_map ..
theorem jL{s:A4}{x:H6}{dims:List Pk}{mea:Int}(hv:∀i,-1099511627776≤Cu s x mea i∧Cu s x mea i≤1099511627776){m n:Nat}{C:List F1}(h:∀c∈C,ED m n c)(i:Int):∀c∈EC s x dims mea C i,ED m (n+1) c:=by
 intro c hc
 unfold EC at hc
 rw[List.mem_map]at hc
 obtain⟨c0,h0,rfl⟩:=hc
 split
 ·exact(h c0 h0).add (hv i) _
 ·exact(h c0 h0).more
theorem MH{s:A4}:∀{ds:List Pk} {out L:List (List Int)} {m:Nat},Y0 s ds out=some L→(∀l∈out,l.length=m)→∀l∈L,l.length=m+ds.length
 |[],out,L,m,h,ho=>by unfold Y0 at h;cases h;simpa using ho
 |d::r,out,L,m,h,ho=>by
  unfold Y0 at h
  split at h
  ·cases h
  ·have:=MH (m:=m+1) h fun l hl=>by
    obtain⟨l0,h1,h2⟩:=UF hl
    rw[h2,ho l0 h1]
   intro l hl
   rw[this l hl,List.length_cons];omega
theorem MI{s:A4}:∀{ds:List Pk} {out L:List (List Int)},Y0 s ds out=some L→out.length≤2000→L.length≤2000
 |[],out,L,h,ho=>by unfold Y0 at h;cases h;exact ho
 |d::r,out,L,h,ho=>by
  unfold Y0 at h
  split at h
  ·cases h
  ·exact MI h (by rw[Bj];omega)
theorem Hz(s:A4)(x:H6)(dims:List Pk)(mea:Int)(L:List (List Int)){is:List Int}{k:Nat}{i:Int}(h:is[k]?=some i):U5 s x dims mea L (is.take (k+1))=EC s x dims mea (U5 s x dims mea L (is.take k)) i:=by
 unfold U5
 rw[I0 h,List.foldl_append]
 rfl
theorem MJ{s:A4}{x:H6}{dims:List Pk}{mea:Int}(hv:∀i,-1099511627776≤Cu s x mea i∧Cu s x mea i≤1099511627776){L:List (List Int)}(hL:∀l∈L,l.length=dims.length)(is:List Int):∀k:Nat,k≤is.length→(U5 s x dims mea L (is.take k)).length=L.length∧∀c∈U5 s x dims mea L (is.take k),ED dims.length k c
 |0,_=>by
  refine⟨by simp[U5],fun c hc=>?_⟩
  simp only[List.take_zero,U5,List.foldl_nil,List.mem_map]at hc
  obtain⟨l,hl,rfl⟩:=hc
  exact⟨hL l hl,by simp[o6],by simp[o6],by simp[o6],by simp[o6]⟩
 |k+1,hk=>by
  obtain⟨i,hi⟩:∃i,is[k]?=some i:=⟨_,List.getElem?_eq_getElem (by omega)⟩
  obtain⟨h1,h2⟩:=MJ hv hL is k (by omega)
  rw[Hz s x dims mea L hi]
  exact⟨by rw[fO,h1],jL hv h2 i⟩
theorem CG{s:A4}{x:H6}{cnd:B0}{cols:List Int}{i:Int}(h:i∈R3 s x cnd cols):∃(k:Nat) (r:List Int),i=k∧x.rows[k]?=some r:=by
 unfold R3 at h
 split at h
 ·cases h
 ·exact Wn (List.mem_filter.1 h).1
theorem KW(s:A4)(x:H6)(cnd:B0)(cols:List Int):(R3 s x cnd cols).length≤x.rows.length:=by
 unfold R3
 split
 ·exact Nat.zero_le _
 ·exact Nat.le_trans (QZ _ _) (Wo s x cnd)
end Go.Proofs.YtiphlhoclaogjaaGreatDoor
namespace Go.Proofs.YtiphlhoclaogjaaGreatDoor
open Go Go.Av
attribute [local irreducible] C7 B1 D1 C8 DQ D0 C6 St.le A3 B8
set_option maxRecDepth 100000
attribute [local irreducible] GP Dz KQ Gn
abbrev cI(l:List Int):List AV:=[.sl 1 (l.map wA),.i 0,.i 0,.i 0,.i 0,.i 0,.v (.slice none 0 0)]
theorem Wy(L:List (List Int)):Tm (L.map cI) ((L.map o6).map M7):=by
 rw[List.map_map]
 exact Yl fun x _=>⟨rfl,rfl,rfl,rfl,rfl,rfl,⟨rfl,rfl,by decide⟩,trivial⟩
theorem Qi(C:List F1):C.map L8=(C.map M7).map (·.map PC):=by
 rw[List.map_map]
 rfl
abbrev mm(dims:List Pk)(mea:Int)(cnd:B0):List AV:=[.i 10,.i 0,.str [],.i mea,.v (.slice none 0 0),.sl 2 (dims.map B6),.i cnd.op,.i cnd.col,.i cnd.code,.i cnd.lo,.i cnd.hi,.sl 6 (cnd.kids.map Z8),.i 0,.i 0,.i 0,.i 0,.i 0,.v (.slice none 0 0),.v (.slice none 0 0)]
theorem me(dims:List Pk)(mea:Int)(cnd:B0):LG (mm dims mea cnd) (Co (Ct dims mea cnd)):=⟨.refl _,.refl _,.refl _,.refl _,.nil 1,.refl _,.refl _,.refl _,.refl _,.refl _,.refl _,.refl _,.refl _,.refl _,.refl _,.refl _,.refl _,.nil 6,.nil 19,trivial⟩
theorem Eg(s:A4)(dims:List Pk)(mea:Int)(cnd:B0):A3 Tryz.prog 46 [sA s,.agg (mm dims mea cnd)] (.sl 2 ((Bl s (Ct dims mea cnd)).map B6)):=AW (Vm s (Ct dims mea cnd)) ⟨.refl _,Do (me dims mea cnd),trivial⟩
theorem KY:NL (.agg [.v (.slice none 0 0),.i 0,.v (.slice none 0 0)]) (Ay ⟨[],0,[]⟩):=Do ⟨.nil 2,.refl _,.nil 7,trivial⟩
theorem jM(s:A4)(x:H6)(dims:List Pk)(mea:Int)(cnd:B0)(hE:¬R2 s x=0):A3 Tryz.prog 16 [sA s,f4 x,.sl 2 (dims.map B6),.i mea,E0 cnd] (.tup [Ay ⟨[],0,[]⟩,.i (R2 s x)]):=by
 have h1:=f5 s x
 generalize R2 s x=e at *
 obtain⟨pr,ver,picks,rows⟩:=x
 try dsimp only at *
 refine y7 Tryz.func16 (by kernel_rfl) rfl rfl rfl rfl rfl (by intro t T h;cases h) fun nd E h0 tB=>?_
 clear nd
 repeat'((first|refine A1 h1 ?_ |refine S2 ?_|(refine T6 ?_ ?_<;>intro h<;>try exact V1 h)|intro el nX nY|intro el nX|exact T4|refine T5 ?_ ?_|intro ex)<;>try conv=>whnf)
 all_goals first
  |(exfalso;omega)
  |exact r9 rfl rfl rfl KY rfl (.refl _) rfl
theorem jN(s:A4)(x:H6)(dims:List Pk)(mea:Int)(cnd:B0)(e1:R2 s x=0)(hE:¬O3 s (AD dims mea cnd)=0):A3 Tryz.prog 16 [sA s,f4 x,.sl 2 (dims.map B6),.i mea,E0 cnd] (.tup [Ay ⟨[],0,[]⟩,.i (O3 s (AD dims mea cnd))]):=by
 have h1:=f5 s x
 rw[e1]at h1
 have h2:=Cr s dims mea cnd
 unfold AD at *
 generalize O3 s _=e at *
 obtain⟨pr,ver,picks,rows⟩:=x
 try dsimp only at *
 refine y7 Tryz.func16 (by kernel_rfl) rfl rfl rfl rfl rfl (by intro t T h;cases h) fun nd E h0 tB=>?_
 clear nd
 repeat'((first|refine A1 h1 ?_|refine A1 h2 ?_ |refine S2 ?_|(refine T6 ?_ ?_<;>intro h<;>try exact V1 h)|intro el nX nY|intro el nX|exact T4|refine T5 ?_ ?_|intro ex)<;>try conv=>whnf)
 all_goals first
  |(exfalso;omega)
  |exact r9 rfl rfl rfl KY rfl (.refl _) rfl
theorem jO(s:A4)(x:H6)(dims:List Pk)(mea:Int)(cnd:B0)(e1:R2 s x=0)(e2:O3 s (AD dims mea cnd)=0)(hE:z4 x.picks (Bl s (Ct dims mea cnd))=false):A3 Tryz.prog 16 [sA s,f4 x,.sl 2 (dims.map B6),.i mea,E0 cnd] (.tup [Ay ⟨[],0,[]⟩,.i (23)]):=by
 have h1:=f5 s x
 rw[e1]at h1
 have h2:A3 Tryz.prog 44 [sA s,.sl 2 (dims.map B6),.i mea,E0 cnd] (.i 0):=e2▸Cr s dims mea cnd
 have h3:=Eg s dims mea cnd
 have h4:=BI x.picks (Bl s (Ct dims mea cnd))
 rw[hE]at h4
 obtain⟨pr,ver,picks,rows⟩:=x
 try dsimp only at *
 refine y7 Tryz.func16 (by kernel_rfl) rfl rfl rfl rfl rfl (by intro t T h;cases h) fun nd E h0 tB=>?_
 clear nd
 repeat'((first|refine A1 h1 ?_|refine A1 h2 ?_|refine A1 h3 ?_|refine A1 h4 ?_|(refine B5 ?_ ?_;kernel_rfl) |refine S2 ?_|(refine T6 ?_ ?_<;>intro h<;>try exact V1 h)|intro el nX nY|intro el nX|exact T4|refine T5 ?_ ?_|intro ex)<;>try conv=>whnf)
 all_goals first
  |(exfalso;omega)
  |exact r9 rfl rfl rfl KY rfl (.refl _) rfl
theorem jP(s:A4)(x:H6)(dims:List Pk)(mea:Int)(cnd:B0)(e1:R2 s x=0)(e2:O3 s (AD dims mea cnd)=0)(e3:z4 x.picks (Bl s (Ct dims mea cnd))=true)(hE:Y0 s dims [[]]=none):A3 Tryz.prog 16 [sA s,f4 x,.sl 2 (dims.map B6),.i mea,E0 cnd] (.tup [Ay ⟨[],0,[]⟩,.i (1)]):=by
 have h1:=f5 s x
 rw[e1]at h1
 have h2:A3 Tryz.prog 44 [sA s,.sl 2 (dims.map B6),.i mea,E0 cnd] (.i 0):=e2▸Cr s dims mea cnd
 have h3:=Eg s dims mea cnd
 have h4:=BI x.picks (Bl s (Ct dims mea cnd))
 rw[e3]at h4
 obtain⟨hr,rJ,pn,yo⟩:=Jn e2
 have h5:=FO s hr dims (o7 pn).2.1 (o7 pn).2.2
 rw[hE]at h5
 obtain⟨pr,ver,picks,rows⟩:=x
 try dsimp only at *
 refine y7 Tryz.func16 (by kernel_rfl) rfl rfl rfl rfl rfl (by intro t T h;cases h) fun nd E h0 tB=>?_
 clear nd
 repeat'((first|refine A1 h1 ?_|refine A1 h2 ?_|refine A1 h3 ?_|refine A1 h4 ?_|refine A1 h5 ?_|(refine B5 ?_ ?_;kernel_rfl) |refine S2 ?_|(refine T6 ?_ ?_<;>intro h<;>try exact V1 h)|intro el nX nY|intro el nX|exact T4|refine T5 ?_ ?_|intro ex)<;>try conv=>whnf)
 all_goals first
  |(exfalso;omega)
  |exact r9 rfl rfl rfl KY rfl (.refl _) rfl
end Go.Proofs.YtiphlhoclaogjaaGreatDoor
