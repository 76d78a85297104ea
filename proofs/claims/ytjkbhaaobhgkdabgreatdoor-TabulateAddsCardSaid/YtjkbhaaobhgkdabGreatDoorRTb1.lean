/- Chapter 17: the example of the chapter. -/
import Derived.Test.YtjkbhaaobhgkdabGreatDoorRF3
import Derived.Test.YtjkbhaaobhgkdabGreatDoorRF1
import Derived.Test.YtjkbhaaobhgkdabGreatDoorRC1
import Derived.Test.YtjkbhaaobhgkdabGreatDoorRB12
import Derived.Test.YtjkbhaaobhgkdabGreatDoorRB4
import Derived.Test.YtjkbhaaobhgkdabGreatDoorRTa9
import Derived.Test.YtjkbhaaobhgkdabGreatDoorRTa5
set_option linter.unusedVariables false
set_option linter.unnecessarySimpa false
set_option linter.unusedSimpArgs false
set_option maxHeartbeats 64000000
namespace Go.Proofs.YtjkbhaaobhgkdabGreatDoor
open Go Go.Av
attribute [local irreducible] D0 B0 D2 C7 DQ D1 C8 St.le A3 B6
set_option maxRecDepth 100000
theorem OE(xs ys:List Int):A3 Tryz.prog 35 [.sl 1 (xs.map wA),.sl 1 (ys.map wA)] (.b (decide (xs=ys))):=by
 refine C0 Tryz.func35 26 fun nQ E h0=>?_
 have nO:xs.length≤9223372036854775807:=by
  have:=(nQ (.sl 1 (xs.map wA)) (by simp)).sl
  simpa using this
 have uu:ys.length≤9223372036854775807:=by
  have:=(nQ (.sl 1 (ys.map wA)) (by simp)).sl
  simpa using this
 clear nQ
 repeat'((first|refine S2 ?_|(refine T6 ?_ ?_<;>intro h<;>try exact V1 h)|intro el nN nP|intro el nN|exact T4|refine T5 ?_ ?_|intro ex)<;>try conv=>whnf)
 ·exact A0 rfl (congrArg AV.b (by
   have:xs≠ys:=by intro e;subst e;omega
   simp[this]))
 have hl:xs.length=ys.length:=by omega
 refine B2 (ι:=Nat) (fun k=>⟨[(0,.sl 1 (xs.map wA)),(1,.sl 1 (ys.map wA)),(5,.i k)],0,[]⟩) (fun k=>k≤xs.length∧ys.take k=xs.take k) (fun k=>xs.length-k) 0 ⟨Nat.zero_le _,rfl⟩ (A6 h0) (fun k hI=>?_)
 obtain⟨hk,hI⟩:=hI
 by_cases nR:k<xs.length
 ·obtain⟨x,hx⟩:∃x,xs[k]?=some x:=⟨_,List.getElem?_eq_getElem nR⟩
  obtain⟨y,hy⟩:∃y,ys[k]?=some y:=⟨_,List.getElem?_eq_getElem (by omega)⟩
  repeat'((first|(refine A2 (x:=x) hx (by omega) ?_)|(refine A2 (x:=y) hy (by omega) ?_)|(refine B8 ?_ ?_;kernel_rfl) |refine S2 ?_|(refine T6 ?_ ?_<;>intro h<;>try exact V1 h)|intro el nN nP|intro el nN|exact T4|refine T5 ?_ ?_|intro ex)<;>try conv=>whnf)
  all_goals first
   |(exfalso;omega)
   |(refine A0 rfl (congrArg AV.b (decide_eq_false (fun e=>?_)).symm)
     subst e
     rw[hx]at hy
     cases hy
     omega)
   |exact⟨k+1,⟨by omega,by rw[I3 hx,I3 hy,hI];congr 2;omega⟩,by omega,A6 h0⟩
 ·repeat'((first|refine S2 ?_|(refine T6 ?_ ?_<;>intro h<;>try exact V1 h)|intro el nN nP|intro el nN|exact T4|refine T5 ?_ ?_|intro ex)<;>try conv=>whnf)
  all_goals first
   |(exfalso;omega)
   |(refine A0 rfl (congrArg AV.b (decide_eq_true ?_).symm)
     rw[List.take_of_length_le (by omega),List.take_of_length_le (by omega)]at hI
     exact hI.symm)
theorem Vk(s:A4)(e:G0):A3 Tryz.prog 22 [sA s,DC e] (.sl 2 ((CF s e).map B5)):=by
 have h1:=Y7 s
 have h2:=Ve s e
 have h3:Hz s e=true→A3 Tryz.prog 60 [sA s,DC e] (.sl 2 ((y8 s e).map B5)):=fun h=>by
  unfold Hz at h
  simp only[Bool.and_eq_true]at h
  exact Vj s (of_decide_eq_true h.1) e h.2
 have h4:C5 s≠0→Hz s e=false:=fun h=>by unfold Hz;rw[decide_eq_false h];rfl
 unfold CF
 generalize Hz s e=b at *
 generalize y8 s e=R at *
 refine C0 Tryz.func22 17 fun nQ E h0=>?_
 clear nQ
 repeat'((first|refine A1 h1 ?_|refine A1 h2 ?_|(refine A1 (h3 (by assumption)) ?_)|(refine B8 ?_ ?_;kernel_rfl) |refine S2 ?_|(refine T6 ?_ ?_<;>intro h<;>try exact V1 h)|intro el nN nP|intro el nN|exact T4|refine T5 ?_ ?_|intro ex)<;>try conv=>whnf)
 all_goals first
  |(rw[h4 (by assumption)];exact AC (sz:=2) rfl rfl)
  |(rw[if_neg (by simp[*])];exact AC (sz:=2) rfl rfl)
  |(rw[if_pos (by assumption)];exact A0 rfl rfl)
def Js:A4:=⟨[([108],[⟨[97],-1⟩,⟨[98],0⟩,⟨[99],0⟩])],[⟨[119,104,111],1,0,0,0,[],false⟩,⟨[115,101,120],2,0,0,0,[],false⟩]⟩
abbrev UM:AV:=.agg [.sl 2 [[.str [108],.sl 2 [[.str [97],.i (-1)],[.str [98],.i 0],[.str [99],.i 0]]]],.sl 7 [[.str [119,104,111],.i 1,.i 0,.i 0,.i 0,.v (.slice none 0 0),.b false],[.str [115,101,120],.i 2,.i 0,.i 0,.i 0,.v (.slice none 0 0),.b false]]]
theorem Kj:NL UM (sA Js):=EE ⟨.refl _,gE ⟨⟨.refl _,.refl _,.refl _,.refl _,.refl _,.nil 1,.refl _,trivial⟩,⟨.refl _,.refl _,.refl _,.refl _,.refl _,.nil 1,.refl _,trivial⟩,trivial⟩,trivial⟩
def PK:B1:=.mk 1 0 0 0 0 []
abbrev n7:AV:=.v (.slice none 0 0)
def nB:B1:=.mk 0 0 0 0 0 []
def DG(dims:List Pk)(mea:Int)(cnd:B1):G0:=.mk 10 0 [] mea [] dims cnd nB []
def Ab(dims:List Pk)(mea:Int)(cnd:B1):U5:=⟨[116],1,cnd,dims,mea,[],.mk 0 0 0 0 0 []⟩
def v6(l:List Int):F3:=⟨l,0,0,0,0,0,[]⟩
def CG(s:A4)(x:K3)(dims:List Pk)(i:Int):List Int:=dims.map fun d=>(U2 s d.col d.lev (x.picks.zip (x.rows.getD i.toNat []).tail)).1
def DH(s:A4)(x:K3)(mea i:Int):Int:=if 0≤mea then Ji s x mea i else 0
def Dh(x:K3)(i:Int):Int:=(x.rows.getD i.toNat []).headD 0
def ET(s:A4)(x:K3)(dims:List Pk)(mea:Int)(C:List F3)(i:Int):List F3:=C.map fun c=>if N1 (CG s x dims i) c.codes=true then M2 (Dh x i) (DH s x mea i) (decide (0≤mea)) c else c
def Aw(mea:Int):List Int:=if 0≤mea then [mea]else []
def S7(s:A4)(x:K3)(dims:List Pk)(mea:Int)(L:List (List Int))(is:List Int):List F3:=is.foldl (ET s x dims mea) (L.map v6)
def Ax(s:A4)(x:K3)(dims:List Pk)(mea:Int)(cnd:B1):Int :=
 if ¬V4 s x=0 then V4 s x else if ¬N4 s (Ab dims mea cnd)=0 then N4 s (Ab dims mea cnd)else if AM x.picks (CF s (DG dims mea cnd))=false then 23 else if (V8 s dims [[]]).isSome=false then 1 else 0
def Jt(s:A4)(x:K3)(dims:List Pk)(mea:Int)(cnd:B1):LZ :=
 if Ax s x dims mea cnd=0 then ⟨dims,mea,S7 s x dims mea ((V8 s dims [[]]).getD []) (u7 s x cnd (Aw mea))⟩else ⟨[],0,[]⟩
theorem Ju{s:A4}{dims:List Pk}{mea:Int}{cnd:B1}(h:N4 s (Ab dims mea cnd)=0):C5 s=0∧J6 s cnd=0∧L0 s dims=0∧(mea=-1∨Q0 s mea=3):=by
 unfold N4 Ab at h
 dsimp only at h
 split at h
 ·contradiction
 ·split at h
  ·cases h
  ·split at h
   ·cases h
   ·split at h
    ·contradiction
    ·rw[if_pos rfl]at h
     unfold IA at h
     dsimp only at h
     split at h
     ·contradiction
     ·split at h
      ·cases h
      ·refine⟨by omega,by omega,by omega,by omega⟩
theorem Ay{s:A4}{l:List Pk}(h:L0 s l=0):1≤l.length∧l.length≤3∧∀d∈l,I4 s d=0∧(B4 s d.col).kind=2:=by
 unfold L0 at h
 split at h
 ·cases h
 ·refine⟨by omega,by omega,fun d hd=>?_⟩
  obtain⟨k,hk⟩:=List.getElem?_of_mem hd
  have:=N5 h k d hk
  unfold P9 at this
  split at this
  ·contradiction
  ·split at this
   ·cases this
   ·exact⟨by omega,by omega⟩
theorem nC{s:A4}(hr:C5 s=0){c:Int}(h:Q0 s c=3):∃x,s.cols[c.toNat]?=some x∧B4 s c=x∧1≤c∧c<s.cols.length∧x.kind=3∧meaE x=0:=by
 unfold Q0 at h
 split at h
 ·rename_i hc
  obtain⟨x,hx⟩:∃x,s.cols[c.toNat]?=some x:=⟨_,List.getElem?_eq_getElem (by omega)⟩
  have nh:B4 s c=x:=B7 hx
  rw[nh]at h
  have h1:1≤c:=by
   have h0:=(F2 hr).2.2.2.2
   by_cases hz:c=0
   ·subst hz
    cases oe:s.cols with
    |nil=>rw[oe]at hx;simp at hx
    |cons a r =>
     rw[oe]at hx h0
     simp at hx h0
     subst hx
     omega
   ·omega
  exact⟨x,hx,nh,h1,hc.2,h,EC (BF ((F2 hr).2.2.2.1 _ x hx)).2.2.1 h⟩
 ·cases h
theorem OG{s:A4}(hr:C5 s=0){c:Int}(h:Q0 s c=3)(fr v to:Int):-1099511627776≤(Z0 s c fr v to).1∧(Z0 s c fr v to).1≤1099511627776:=by
 obtain⟨x,hx,nh,h1,h2,h3,h4⟩:=nC hr h
 have hf:F0 s c=x.widths.length:=by unfold F0 N7;rw[if_neg (by omega),nh,if_neg (by omega)]
 unfold Z0
 split
 ·exact⟨by decide,by decide⟩
 ·rename_i hn
  rw[nh]
  simp only[if_neg (show ¬x.kind=2 by omega)]
  split
  ·dsimp only
   unfold Bm
   have hs:=TA (c:=x) (level:=fr) (v:=v) h4 (by omega) (by omega)
   split
   ·split
    ·exact⟨by dsimp only;decide,by dsimp only;decide⟩
    ·rename_i hv _
     rw[hv.2];exact⟨by dsimp only;decide,by dsimp only;decide⟩
   ·split
    ·exact⟨by decide,by decide⟩
    ·split
     ·exact⟨by decide,by decide⟩
     ·split
      ·exact⟨by decide,by decide⟩
      ·have hw:=v8 (c:=x) (level:=to) (l6 h4).2.2.2.2.2 (by omega) (by omega)
       have hd:=T9 (N8 x fr v).1 hw.1
       dsimp only
       omega
  ·exact⟨by decide,by decide⟩
theorem UN{s:A4}(hr:C5 s=0){c:Int}(h:Q0 s c=3)(lev:Int):∀pv:List (Pk×Int),-1099511627776≤(U2 s c lev pv).1∧(U2 s c lev pv).1≤1099511627776
 |[]=>OG hr h _ _ _
 |(p,v)::r=>by
  unfold U2
  split
  ·exact OG hr h _ _ _
  ·exact UN hr h lev r
theorem UO{s:A4}(hr:C5 s=0){mea:Int}(h:mea=-1∨Q0 s mea=3)(x:K3)(i:Int):-1099511627776≤DH s x mea i∧DH s x mea i≤1099511627776:=by
 unfold DH
 split
 ·rcases h with h|h
  ·omega
  ·exact UN hr h _ _
 ·exact⟨by decide,by decide⟩
structure EU(m n:Nat)(c:F3):Prop where
 codes:c.codes.length=m
 cnt:0≤c.cnt∧c.cnt≤n
 sum:-(1099511627776*(n:Int))≤c.sum∧c.sum≤1099511627776*n
 amo:0≤c.amo∧c.amo≤1099511627776*n
 rows:c.rows.length≤n
theorem EU.ok{m n:Nat}{c:F3}(h:EU m n c)(hn:n≤500):PH c:=by
 obtain⟨_,h1,h2,h3,h4⟩:=h
 exact⟨by omega,by omega,by omega,by omega⟩
theorem EU.add{m n:Nat}{c:F3}(h:EU m n c){key v:Int}(hv:-1099511627776≤v∧v≤1099511627776)(b:Bool):EU m (n+1) (M2 key v b c):=by
 obtain⟨h0,h1,h2,h3,h4⟩:=h
 have ha:0≤max v (-v)∧max v (-v)≤1099511627776:=by omega
 generalize max v (-v)=a at *
 unfold M2
 split
 ·refine⟨h0,?_,?_,?_,?_⟩<;>dsimp only<;>first|(simp;omega)|omega
 ·split
  ·refine⟨h0,?_,?_,?_,?_⟩<;>dsimp only<;>first|(simp;omega)|omega
  ·split
   ·refine⟨h0,?_,?_,?_,?_⟩<;>dsimp only<;>first|(simp;omega)|omega
   ·refine⟨h0,?_,?_,?_,?_⟩<;>dsimp only<;>first|(simp;omega)|omega
theorem EU.more{m n:Nat}{c:F3}(h:EU m n c):EU m (n+1) c:=by
 obtain⟨h0,h1,h2,h3,h4⟩:=h
 exact⟨h0,by omega,by omega,by omega,by omega⟩
theorem ew(s:A4)(x:K3)(dims:List Pk)(mea:Int)(C:List F3)(i:Int):(ET s x dims mea C i).length=C.length:=List.length_map ..
theorem jC{s:A4}{x:K3}{dims:List Pk}{mea:Int}(hv:∀i,-1099511627776≤DH s x mea i∧DH s x mea i≤1099511627776){m n:Nat}{C:List F3}(h:∀c∈C,EU m n c)(i:Int):∀c∈ET s x dims mea C i,EU m (n+1) c:=by
 intro c hc
 unfold ET at hc
 rw[List.mem_map]at hc
 obtain⟨c0,h0,rfl⟩:=hc
 split
 ·exact(h c0 h0).add (hv i) _
 ·exact(h c0 h0).more
theorem MR{s:A4}:∀{ds:List Pk} {out L:List (List Int)} {m:Nat},V8 s ds out=some L→(∀l∈out,l.length=m)→∀l∈L,l.length=m+ds.length
 |[],out,L,m,h,ho=>by unfold V8 at h;cases h;simpa using ho
 |d::r,out,L,m,h,ho=>by
  unfold V8 at h
  split at h
  ·cases h
  ·have:=MR (m:=m+1) h fun l hl=>by
    obtain⟨l0,h1,h2⟩:=UE hl
    rw[h2,ho l0 h1]
   intro l hl
   rw[this l hl,List.length_cons];omega
theorem MS{s:A4}:∀{ds:List Pk} {out L:List (List Int)},V8 s ds out=some L→out.length≤2000→L.length≤2000
 |[],out,L,h,ho=>by unfold V8 at h;cases h;exact ho
 |d::r,out,L,h,ho=>by
  unfold V8 at h
  split at h
  ·cases h
  ·exact MS h (by rw[CD];omega)
theorem IB(s:A4)(x:K3)(dims:List Pk)(mea:Int)(L:List (List Int)){is:List Int}{k:Nat}{i:Int}(h:is[k]?=some i):S7 s x dims mea L (is.take (k+1))=ET s x dims mea (S7 s x dims mea L (is.take k)) i:=by
 unfold S7
 rw[I3 h,List.foldl_append]
 rfl
theorem MT{s:A4}{x:K3}{dims:List Pk}{mea:Int}(hv:∀i,-1099511627776≤DH s x mea i∧DH s x mea i≤1099511627776){L:List (List Int)}(hL:∀l∈L,l.length=dims.length)(is:List Int):∀k:Nat,k≤is.length→(S7 s x dims mea L (is.take k)).length=L.length∧∀c∈S7 s x dims mea L (is.take k),EU dims.length k c
 |0,_=>by
  refine⟨by simp[S7],fun c hc=>?_⟩
  simp only[List.take_zero,S7,List.foldl_nil,List.mem_map]at hc
  obtain⟨l,hl,rfl⟩:=hc
  exact⟨hL l hl,by simp[v6],by simp[v6],by simp[v6],by simp[v6]⟩
 |k+1,hk=>by
  obtain⟨i,hi⟩:∃i,is[k]?=some i:=⟨_,List.getElem?_eq_getElem (by omega)⟩
  obtain⟨h1,h2⟩:=MT hv hL is k (by omega)
  rw[IB s x dims mea L hi]
  exact⟨by rw[ew,h1],jC hv h2 i⟩
theorem PL{s:A4}{x:K3}{cnd:B1}{cols:List Int}{i:Int}(h:i∈u7 s x cnd cols):∃(k:Nat) (r:List Int),i=k∧x.rows[k]?=some r:=by
 unfold u7 at h
 split at h
 ·cases h
 ·exact Wo (List.mem_filter.1 h).1
theorem PM(s:A4)(x:K3)(cnd:B1)(cols:List Int):(u7 s x cnd cols).length≤x.rows.length:=by
 unfold u7
 split
 ·exact Nat.zero_le _
 ·exact Nat.le_trans (Qc _ _) (Wp s x cnd)
end Go.Proofs.YtjkbhaaobhgkdabGreatDoor
namespace Go.Proofs.YtjkbhaaobhgkdabGreatDoor
open Go Go.Av
attribute [local irreducible] D0 B0 D2 C7 DQ D1 C8 St.le A3 B6
set_option maxRecDepth 100000
attribute [local irreducible] Gc ER Kf Gz
abbrev bn(l:List Int):List AV:=[.sl 1 (l.map wA),.i 0,.i 0,.i 0,.i 0,.i 0,.v (.slice none 0 0)]
theorem Wy(L:List (List Int)):Tk (L.map bn) ((L.map v6).map M1):=by
 rw[List.map_map]
 exact Ye fun x _=>⟨rfl,rfl,rfl,rfl,rfl,rfl,⟨rfl,rfl,by decide⟩,trivial⟩
theorem Qn(C:List F3):C.map T3=(C.map M1).map (·.map PD):=by
 rw[List.map_map]
 rfl
abbrev mU(dims:List Pk)(mea:Int)(cnd:B1):List AV:=[.i 10,.i 0,.str [],.i mea,.v (.slice none 0 0),.sl 2 (dims.map B5),.i cnd.op,.i cnd.col,.i cnd.code,.i cnd.lo,.i cnd.hi,.sl 6 (cnd.kids.map W8),.i 0,.i 0,.i 0,.i 0,.i 0,.v (.slice none 0 0),.v (.slice none 0 0)]
theorem mN(dims:List Pk)(mea:Int)(cnd:B1):LP (mU dims mea cnd) (DB (DG dims mea cnd)):=⟨.refl _,.refl _,.refl _,.refl _,.nil 1,.refl _,.refl _,.refl _,.refl _,.refl _,.refl _,.refl _,.refl _,.refl _,.refl _,.refl _,.refl _,.nil 6,.nil 19,trivial⟩
theorem Es(s:A4)(dims:List Pk)(mea:Int)(cnd:B1):A3 Tryz.prog 22 [sA s,.agg (mU dims mea cnd)] (.sl 2 ((CF s (DG dims mea cnd)).map B5)):=CA (Vk s (DG dims mea cnd)) ⟨.refl _,EE (mN dims mea cnd),trivial⟩
theorem Kk:NL (.agg [.v (.slice none 0 0),.i 0,.v (.slice none 0 0)]) (BT ⟨[],0,[]⟩):=EE ⟨.nil 2,.refl _,.nil 7,trivial⟩
theorem jD(s:A4)(x:K3)(dims:List Pk)(mea:Int)(cnd:B1)(hE:¬V4 s x=0):A3 Tryz.prog 7 [sA s,BP x,.sl 2 (dims.map B5),.i mea,E7 cnd] (.tup [BT ⟨[],0,[]⟩,.i (V4 s x)]):=by
 have h1:=a8 s x
 generalize V4 s x=e at *
 obtain⟨pr,ver,picks,rows⟩:=x
 try dsimp only at *
 refine AG Tryz.func7 (by kernel_rfl) rfl rfl rfl rfl rfl (by intro t T h;cases h) fun nQ E h0 sb=>?_
 clear nQ
 repeat'((first|refine A1 h1 ?_ |refine S2 ?_|(refine T6 ?_ ?_<;>intro h<;>try exact V1 h)|intro el nN nP|intro el nN|exact T4|refine T5 ?_ ?_|intro ex)<;>try conv=>whnf)
 all_goals first
  |(exfalso;omega)
  |exact q9 rfl rfl rfl Kk rfl (.refl _) rfl
theorem jE(s:A4)(x:K3)(dims:List Pk)(mea:Int)(cnd:B1)(e1:V4 s x=0)(hE:¬N4 s (Ab dims mea cnd)=0):A3 Tryz.prog 7 [sA s,BP x,.sl 2 (dims.map B5),.i mea,E7 cnd] (.tup [BT ⟨[],0,[]⟩,.i (N4 s (Ab dims mea cnd))]):=by
 have h1:=a8 s x
 rw[e1]at h1
 have h2:=DE s dims mea cnd
 unfold Ab at *
 generalize N4 s _=e at *
 obtain⟨pr,ver,picks,rows⟩:=x
 try dsimp only at *
 refine AG Tryz.func7 (by kernel_rfl) rfl rfl rfl rfl rfl (by intro t T h;cases h) fun nQ E h0 sb=>?_
 clear nQ
 repeat'((first|refine A1 h1 ?_|refine A1 h2 ?_ |refine S2 ?_|(refine T6 ?_ ?_<;>intro h<;>try exact V1 h)|intro el nN nP|intro el nN|exact T4|refine T5 ?_ ?_|intro ex)<;>try conv=>whnf)
 all_goals first
  |(exfalso;omega)
  |exact q9 rfl rfl rfl Kk rfl (.refl _) rfl
theorem jF(s:A4)(x:K3)(dims:List Pk)(mea:Int)(cnd:B1)(e1:V4 s x=0)(e2:N4 s (Ab dims mea cnd)=0)(hE:AM x.picks (CF s (DG dims mea cnd))=false):A3 Tryz.prog 7 [sA s,BP x,.sl 2 (dims.map B5),.i mea,E7 cnd] (.tup [BT ⟨[],0,[]⟩,.i (23)]):=by
 have h1:=a8 s x
 rw[e1]at h1
 have h2:A3 Tryz.prog 20 [sA s,.sl 2 (dims.map B5),.i mea,E7 cnd] (.i 0):=e2▸DE s dims mea cnd
 have h3:=Es s dims mea cnd
 have h4:=Be x.picks (CF s (DG dims mea cnd))
 rw[hE]at h4
 obtain⟨pr,ver,picks,rows⟩:=x
 try dsimp only at *
 refine AG Tryz.func7 (by kernel_rfl) rfl rfl rfl rfl rfl (by intro t T h;cases h) fun nQ E h0 sb=>?_
 clear nQ
 repeat'((first|refine A1 h1 ?_|refine A1 h2 ?_|refine A1 h3 ?_|refine A1 h4 ?_|(refine B8 ?_ ?_;kernel_rfl) |refine S2 ?_|(refine T6 ?_ ?_<;>intro h<;>try exact V1 h)|intro el nN nP|intro el nN|exact T4|refine T5 ?_ ?_|intro ex)<;>try conv=>whnf)
 all_goals first
  |(exfalso;omega)
  |exact q9 rfl rfl rfl Kk rfl (.refl _) rfl
theorem jG(s:A4)(x:K3)(dims:List Pk)(mea:Int)(cnd:B1)(e1:V4 s x=0)(e2:N4 s (Ab dims mea cnd)=0)(e3:AM x.picks (CF s (DG dims mea cnd))=true)(hE:V8 s dims [[]]=none):A3 Tryz.prog 7 [sA s,BP x,.sl 2 (dims.map B5),.i mea,E7 cnd] (.tup [BT ⟨[],0,[]⟩,.i (1)]):=by
 have h1:=a8 s x
 rw[e1]at h1
 have h2:A3 Tryz.prog 20 [sA s,.sl 2 (dims.map B5),.i mea,E7 cnd] (.i 0):=e2▸DE s dims mea cnd
 have h3:=Es s dims mea cnd
 have h4:=Be x.picks (CF s (DG dims mea cnd))
 rw[e3]at h4
 obtain⟨hr,rq,pg,yU⟩:=Ju e2
 have h5:=Fc s hr dims (Ay pg).2.1 (Ay pg).2.2
 rw[hE]at h5
 obtain⟨pr,ver,picks,rows⟩:=x
 try dsimp only at *
 refine AG Tryz.func7 (by kernel_rfl) rfl rfl rfl rfl rfl (by intro t T h;cases h) fun nQ E h0 sb=>?_
 clear nQ
 repeat'((first|refine A1 h1 ?_|refine A1 h2 ?_|refine A1 h3 ?_|refine A1 h4 ?_|refine A1 h5 ?_|(refine B8 ?_ ?_;kernel_rfl) |refine S2 ?_|(refine T6 ?_ ?_<;>intro h<;>try exact V1 h)|intro el nN nP|intro el nN|exact T4|refine T5 ?_ ?_|intro ex)<;>try conv=>whnf)
 all_goals first
  |(exfalso;omega)
  |exact q9 rfl rfl rfl Kk rfl (.refl _) rfl
end Go.Proofs.YtjkbhaaobhgkdabGreatDoor
