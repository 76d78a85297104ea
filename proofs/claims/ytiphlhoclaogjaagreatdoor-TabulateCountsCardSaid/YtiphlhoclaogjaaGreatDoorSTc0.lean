/- Chapter 18: tables: the program. -/
import Derived.Test.YtiphlhoclaogjaaGreatDoorSTb2
import Derived.Test.YtiphlhoclaogjaaGreatDoorSAvTy
import Derived.Test.YtiphlhoclaogjaaGreatDoorSE3
import Derived.Test.YtiphlhoclaogjaaGreatDoorSCe3
import Derived.Test.YtiphlhoclaogjaaGreatDoorSTa0
import Derived.Test.YtiphlhoclaogjaaGreatDoorSTb1
import Derived.Test.YtiphlhoclaogjaaGreatDoorSB14
import Derived.Test.YtiphlhoclaogjaaGreatDoorSTa2
set_option linter.unusedVariables false
set_option linter.unnecessarySimpa false
set_option linter.unusedSimpArgs false
set_option maxHeartbeats 64000000
namespace Go.Proofs.YtiphlhoclaogjaaGreatDoor
open Go Go.Av
attribute [local irreducible] C7 B2 D3 C9 DQ D0 C8 St.le A3 B9
set_option maxRecDepth 100000
theorem IG{s:A4}{x:N5}{dims:List Pk}{mea:Int}{cnd:B1}(h:¬Dm s x dims mea cnd=0):Tz s x dims mea cnd=⟨[],0,[]⟩:=if_neg h
theorem VR(s:A4)(x:N5)(dims:List Pk)(mea:Int)(cnd:B1):A3 Tryz.prog 16 [sA s,c9 x,.sl 2 (dims.map B4),.i mea,E0 cnd] (.tup [Bk (Tz s x dims mea cnd),.i (Dm s x dims mea cnd)]):=by
 by_cases e1:¬P6 s x=0
 ·have hE:Dm s x dims mea cnd=P6 s x:=if_pos e1
  rw[IG (by rw[hE];exact e1),hE]
  exact gp s x dims mea cnd e1
 have e1:=Decidable.of_not_not e1
 by_cases e2:¬Q1 s (Bf dims mea cnd)=0
 ·have hE:Dm s x dims mea cnd=Q1 s (Bf dims mea cnd):=by unfold Dm;rw[if_neg (fun h=>h e1),if_pos e2]
  rw[IG (by rw[hE];exact e2),hE]
  exact gq s x dims mea cnd e1 e2
 have e2:=Decidable.of_not_not e2
 cases e3:q8 x.picks (Dk s (Dl dims mea cnd))with
 |false =>
  have hE:Dm s x dims mea cnd=23:=by unfold Dm;rw[if_neg (fun h=>h e1),if_neg (fun h=>h e2),if_pos e3]
  rw[IG (by rw[hE];decide),hE]
  exact gr s x dims mea cnd e1 e2 e3
 |true =>
  have hE:Dm s x dims mea cnd=if (AP s dims [[]]).isSome=false then 1 else 0:=by unfold Dm;rw[if_neg (fun h=>h e1),if_neg (fun h=>h e2),if_neg (by rw[e3];decide)]
  cases hL:AP s dims [[]]with
  |none =>
   rw[hL]at hE
   have hE:Dm s x dims mea cnd=1:=hE
   rw[IG (by rw[hE];decide),hE]
   exact gu s x dims mea cnd e1 e2 e3 hL
  |some L =>
   rw[hL]at hE
   have hE:Dm s x dims mea cnd=0:=hE
   have hT:Tz s x dims mea cnd=⟨dims,mea,Z8 s x dims mea L (X8 s x cnd (DM mea))⟩:=by unfold Tz;rw[if_pos hE,hL];rfl
   rw[hT,hE]
   by_cases hm:0≤mea
   ·exact jq s x dims mea cnd L e1 e2 e3 hL hm
   ·exact jp s x dims mea cnd L e1 e2 e3 hL hm
end Go.Proofs.YtiphlhoclaogjaaGreatDoor
namespace Go.Av
open Go Go.RowKit
theorem VS{P:Program}{f m:Nat}{args:List AV}{r:AV}(h:B9 P f 0 [] args m [] r)(hc:J2 r=true):A3 P f args r:=by
 refine⟨h.1,fun X w vs hX mU hl oc=>?_⟩
 have ln:∀θ:Th,∀k,¬owned θ [] k:=fun θ k ⟨i,b,hi,_⟩=>by cases hi
 refine Calls.mono (h.2 X ⟨fun _=>undef,fun _ _=>none⟩ w vs hX (mU.mono (fun k _ h=>h.elim id fun h=>(ln _ k h).elim) fun _ _ _=>rfl) ⟨(fun i b hi=>by cases hi),(fun i j b b' k hi=>by cases hi),(fun i b k hi=>by cases hi)⟩ hl fun j a v hj hv=>.im ((oc j a v hj hv).mono (fun _ _ _=>rfl) fun k _ hu=>?_)) ?_
 ·rcases hu with hu|⟨i,b,hi,_⟩
  ·exact hu
  ·cases hi
 ·rintro e w' ⟨⟨v,θ',rfl,hv,pY,la,hθ⟩,qS,oY,pa,lj,my⟩
  refine⟨v,rfl,((S4 hc).im hv).mono (fun _ _ _=>rfl) fun k _ hu=>.inl hu,qS,oY,pa,lj,fun k hk=>my k hk (ln _ k)⟩
end Go.Av
namespace Go.Proofs.YtiphlhoclaogjaaGreatDoor
open Go Go.Av
attribute [local irreducible] C7 B2 D3 C9 DQ D0 C8 St.le A3 B9
set_option maxRecDepth 100000
theorem Jq(s:A4)(x:N5)(cnd:B1)(ld:List Int):A3 Tryz.prog 24 [sA s,c9 x,E0 cnd,.sl 1 (ld.map wA)] (.sl 1 ((X8 s x cnd ld).map wA)) :=
 VS (Hm (m2:=1) (hp2:=[]) (r2:=.sl 1 ((X8 s x cnd ld).map wA)) (GW s x cnd ld) rfl fun E h0=>A6 h0) rfl
def IH:N5:=⟨[112],0,[⟨1,1⟩],[[4,1],[9,2]]⟩
def Au:Nz:=⟨[⟨1,1⟩],-1,[⟨[-1],2,0,0,0,0,[4,9]⟩,⟨[1],1,0,0,0,0,[4]⟩,⟨[2],1,0,0,0,0,[9]⟩]⟩
theorem dh:Tz Jn IH [⟨1,1⟩] (-1) PG=Au:=by kernel_rfl
theorem di:Dm Jn IH [⟨1,1⟩] (-1) PG=0:=by kernel_rfl
theorem dk:X8 Jn IH PG []=[0,1]:=by kernel_rfl
abbrev UC:AV:=.agg [.i 1,.i 0,.i 0,.i 0,.i 0,n7]
theorem UD:NL UC (E0 PG):=EG ⟨.refl _,.refl _,.refl _,.refl _,.refl _,.nil 6,trivial⟩
theorem UE:A3 Tryz.prog 11 [] (.b true):=by
 have c1:=BJ ((VR Jn IH [⟨1,1⟩] (-1) PG).congr (show _=AV.tup [Bk Au,.i 0] by rw[dh,di])) (l':=[Ty,c9 IH,.sl 2 [[.i 1,.i 1]],.i (-1),UC]) ⟨Ka,.refl _,.refl _,.refl _,UD,trivial⟩
 have c2:=(VN Au [2]).congr (congrArg AV.i (show _=2 by kernel_rfl))
 have c3:=BJ ((Ie Jn Au 2 0).congr (congrArg AV.b (show WV Au 2 0=true by kernel_rfl))) (l':=[Ty,Bk Au,.i 2,.i 0]) ⟨Ka,.refl _,.refl _,.refl _,trivial⟩
 have c4:=BJ ((Ie Jn Au 0 2).congr (congrArg AV.b (show WV Au 0 2=false by kernel_rfl))) (l':=[Ty,Bk Au,.i 0,.i 2]) ⟨Ka,.refl _,.refl _,.refl _,trivial⟩
 have c5:=BJ ((Jq Jn IH PG []).congr (congrArg (fun z:List Int=>AV.sl 1 (z.map wA)) dk)) (l':=[Ty,c9 IH,UC,n7]) ⟨Ka,.refl _,UD,.nil 1,trivial⟩
 have c7:=(IA [0,1] [0,1]).congr (congrArg AV.b (decide_eq_true rfl))
 obtain⟨d,m,cells,hT⟩:∃d m cells,Au=⟨d,m,cells⟩:=⟨_,_,_,rfl⟩
 have yu:Bk Au=.agg [.sl 2 (d.map B4),.i m,.sl 7 (cells.map Cf)]:=by rw[hT]
 obtain⟨x0,xk,h0r,nf⟩:∃x:J7,x.cnt=2∧x.rows=[4,9]∧cells[(0:Int).toNat]?=some x:=by
  have:cells=Au.cells:=by rw[hT]
  rw[this];exact⟨⟨[-1],2,0,0,0,0,[4,9]⟩,rfl,rfl,rfl⟩
 obtain⟨x2,h2c,ox⟩:∃x:J7,x.cnt=1∧cells[(2:Int).toNat]?=some x:=by
  have:cells=Au.cells:=by rw[hT]
  rw[this];exact⟨⟨[2],1,0,0,0,0,[9]⟩,rfl,rfl⟩
 have ly:cells.length=3:=by
  have:cells=Au.cells:=by rw[hT]
  rw[this];rfl
 rw[yu]at c1 c2 c3 c4
 have c6:=(IA x0.rows [4,9]).congr (congrArg AV.b (decide_eq_true h0r))
 clear hT yu
 refine B6 Tryz.func11 88 fun lW E h0=>?_
 clear lW
 repeat'((first|(refine A2 (x:=x0) nf (by omega) ?_)|(refine A2 (x:=x2) ox (by omega) ?_)|refine A1 c1 ?_|refine A1 c2 ?_|refine A1 c3 ?_|refine A1 c4 ?_|refine A1 c5 ?_|refine A1 c6 ?_|refine A1 c7 ?_|(refine B3 ?_ ?_;kernel_rfl) |refine S2 ?_|(refine T6 ?_ ?_<;>intro h<;>try exact V1 h)|intro el lU lV|intro el lU|exact T4|refine T5 ?_ ?_|intro ex)<;>try conv=>whnf)
 all_goals first
  |exact A0 rfl rfl
  |(exfalso;omega)
def AZ(s:A4)(column level v:Int):Int :=
 if (C0 s column).kind=2 then (if (Z6 (fun x=>G2 s column level x) v (F9 s column)).2=true then (Z6 (fun x=>G2 s column level x) v (F9 s column)).1 else -1)
 else if 0<level∧v=(-1099511627776)then v else (M9 (C0 s column) level v).1
theorem MJ{s:A4}(hr:C3 s=0){column level:Int}{c:D4}(h1:1≤column)(hc:s.cols[column.toNat]?=some c)(h3:0≤level)(h4:level≤B7 s column)(v:Int):(M2 s column level v).2=w9 s column level v∧(w9 s column level v=true→(M2 s column level v).1=AZ s column level v):=by
 have lm:=C1 hc
 obtain⟨hk,hm⟩:=KU hr h1 hc
 unfold w9 AZ M2
 rw[if_pos (show 0≤level∧level≤B7 s column from ⟨h3,h4⟩),lm]
 by_cases lg:c.kind=2
 ·have oe:∀x∈F9 s column,QN s column level x=G2 s column level x:=fun x hx=>by
   unfold QN
   rw[lm]
   exact(FM hr h1 hc lg h3 h4 hx).1.symm
  rw[if_neg (show ¬c.kind=3 by omega),if_pos lg,if_pos lg,LF oe]
  rcases Hl (f:=fun x:Nat=>G2 s column level x) (v:=v) (l:=F9 s column)with ⟨g1,x,hx,g2,g3⟩|⟨g1,g2⟩
  ·have:(F9 s column).any (fun x=>decide (G2 s column level x=v))=true:=List.any_eq_true.2 ⟨x,hx,decide_eq_true g2⟩
   rw[this,g1,if_pos rfl]
   exact⟨rfl,fun _=>rfl⟩
  ·have:(F9 s column).any (fun x=>decide (G2 s column level x=v))=false:=by
    rw[List.any_eq_false]
    intro x hx
    rw[decide_eq_true_iff]
    exact g2 x hx
   rw[this,g1]
   exact⟨rfl,fun h=>by cases h⟩
 ·have pF:c.kind=3:=by omega
  have lX:level≤c.widths.length:=by
   have h5:=h4
   have lY:=F5 hc
   rw[B7,if_pos hr,E5,if_neg (by omega),lm,M7,if_neg lg]at h5
   exact h5
  rw[if_pos pF,if_neg lg,if_neg lg]
  by_cases h5:0<level∧v=(-1099511627776)
  ·rw[if_pos h5,if_pos h5,if_pos h5]
   exact⟨rfl,fun _=>rfl⟩
  ·rw[if_neg h5,if_neg h5,if_neg h5]
   obtain⟨e1,e2⟩:=Nr (hm pF) h3 lX h5
   exact⟨e1,fun h=>(e2 h).1⟩
def Jr(s:A4)(pv:List (Pk×Int)):Bool:=pv.all fun q=>w9 s q.1.col q.1.lev q.2
def Js(s:A4)(c:B1)(pv:List (Pk×Int)):Int:=U2 (fun a=>M1 s a (AZ s a.col (M3 a.col pv).1 (M3 a.col pv).2)) c
def II(s:A4)(c:B1)(picks:List Pk)(values:List Int):Int :=
 if K7 s c=0∧I5 s picks=0∧values.length=picks.length∧q8 picks (K6 s c)=true then (if Jr s (picks.zip values)=true then Js s c (picks.zip values)else 0)else 0
theorem gv{s:A4}(hd:E7 s){i:Nat}{c:D4}(hi:0<i)(hc:s.cols[i]?=some c){n:Nat}(hn:B7 s i=n){v:Int}(hv:o4 s c v){m:Nat}(hm:m≤n):
  (M2 s i m (G2 s i m v)).2=true∧o4 s c (M2 s i m (G2 s i m v)).1∧G2 s i m (M2 s i m (G2 s i m v)).1=G2 s i m v:=by
 have hr:=hd.ok
 have xO:s.cols[(i:Int).toNat]?=some c:=by simpa using hc
 have lm:=C1 xO
 have lY:=F5 hc
 have oe:∀w,G2 s i m w=O9 s c m w:=fun w=>by
  unfold G2
  rw[hn,if_neg (by omega),lm]
 have lr:(n:Int)=M7 s c:=by
  have h1:B7 s i=E5 s i:=by rw[B7,if_pos hr]
  rw[h1,E5,if_neg (by omega),lm]at hn
  exact hn.symm
 unfold M2
 rw[lm]
 by_cases hk:c.kind=2
 ·rw[if_neg (by omega)]
  obtain⟨k,rfl,qM⟩:∃k:Nat,v=k∧k∈F9 s i:=by
   rcases hv with ⟨hw,_⟩|⟨_,k,hw,hm⟩|⟨hw,_⟩
   ·rw[hw]at hk;cases hk
   ·refine⟨k,hw,?_⟩
    unfold F9;rw[lm];exact hm
   ·omega
  have pm:∀x∈F9 s i,QN s i m x=G2 s i m x:=fun x hx=>by
   unfold QN
   rw[lm]
   exact(FM hr (by omega) xO hk (by omega) (by omega) hx).1.symm
  rcases Hl (f:=QN s i m) (v:=G2 s i m k) (l:=F9 s i)with ⟨g1,y,hy,g2,g3⟩|⟨g1,g2⟩
  ·rw[g3]
   refine⟨g1,?_,by rw[←pm y hy,g2]⟩
   refine .inr (.inl ⟨hk,y,rfl,?_⟩)
   unfold F9 at hy;rw[lm]at hy;exact hy
  ·exact absurd (pm k qM) (g2 k qM)
 ·have np:=(KU hr (column:=i) (by omega) xO).1
  have pF:c.kind=3:=by omega
  rw[if_pos pF]
  obtain⟨nm,hM⟩:∃nm,Q7 c nm:=by
   rcases hd.col hc with ⟨_,rfl⟩|⟨_,rfl|rfl⟩|⟨_,h⟩
   ·cases pF
   ·cases pF
   ·cases pF
   ·exact h
  have qH:=hM.low
  have pg:=hM.high
  have ud:Bh c v:=by
   rcases hv with ⟨hw,_⟩|⟨hw,_⟩|⟨_,hw⟩
   ·rw[hw]at pF;cases pF
   ·omega
   ·exact hw
  have hmn:m≤c.widths.length:=by
   have:M7 s c=c.widths.length:=by unfold M7;rw[if_neg hk]
   omega
  have ok:∀w,Bh c w→o4 s c w:=fun w hw=>.inr (.inr ⟨pF,hw⟩)
  have su:Bh c c.low:=.inl ⟨Int.le_refl _,pg.1⟩
  rw[oe,N3 hM ud]
  by_cases pG:(m:Int)=0
  ·rw[if_pos pG,if_neg (by omega)]
   have e:M0 c m 0=(c.low,c.high,true):=by unfold M0;rw[if_pos pG];rfl
   rw[e]
   refine⟨rfl,ok _ su,?_⟩
   rw[oe,N3 hM su,if_pos pG]
  ·rw[if_neg pG]
   by_cases rS:v=(-1099511627776)
   ·have ho:c.opt=true:=by
     rcases ud with hv|hv
     ·omega
     ·exact hv.1
    rw[if_pos rS,if_pos ⟨by omega,rfl⟩]
    refine⟨ho,ok _ (.inr ⟨ho,rfl⟩),?_⟩
    rw[oe,N3 hM (.inr ⟨ho,rfl⟩),if_neg pG,if_pos rfl]
   ·have mj:c.low≤v∧v≤c.high:=by
     rcases ud with hv|hv
     ·exact hv
     ·exact absurd hv.2 rS
    obtain⟨hw,_,_⟩:=l5 hM (a:=m) (b:=m) (by omega) (Nat.le_refl _) hmn
    have d:=V3 v hw.1
    have pL:=Bc hw.1 (Int.le_refl _) (show C5 v (A7 c m)<C5 v (A7 c m)+A7 c m by omega)
    have sU:M0 c m (C5 v (A7 c m))=(max (C5 v (A7 c m)) c.low,min (C5 v (A7 c m)+A7 c m-1) c.high,true):=by
     unfold M0
     rw[if_neg (by omega),if_neg (by omega),pL]
     have:max (C5 v (A7 c m)) c.low≤min (C5 v (A7 c m)+A7 c m-1) c.high:=by omega
     simp[this]
    rw[if_neg rS,if_neg (by omega),sU]
    have hV:Bh c (max (C5 v (A7 c m)) c.low):=.inl (by omega)
    refine⟨rfl,ok _ hV,?_⟩
    dsimp only
    rw[oe,N3 hM hV,if_neg pG,if_neg (by omega)]
    exact Bc hw.1 (by omega) (by omega)
theorem OC{α:Type}{f g:α→Bool}:∀{l:List α},(∀x∈l,f x=g x)→l.all f=l.all g
 |[],_=>rfl
 |x::r,h=>by rw[List.all_cons,List.all_cons,h x (by simp),OC (fun y hy=>h y (by simp[hy]))]
theorem Yb{f:Nat→Int}{n i:Nat}(h:i<n):((List.range n).map f).getD i 0=f i:=by
 rw[List.getD_eq_getElem?_getD,List.getElem?_map,List.getElem?_range h];rfl
theorem gw{s:A4}(hd:E7 s)(c:B1)(picks:List Pk)(values:List Int):Xs s c picks values=II s c picks values:=by
 unfold Xs II
 by_cases h:K7 s c=0∧I5 s picks=0∧values.length=picks.length∧q8 picks (K6 s c)=true
 ·rw[if_pos h,if_pos h]
  obtain⟨hc,hp,_,_⟩:=h
  have hr:=hd.ok
  have hg:=z8 hp
  have sw:∀col,B7 s col=E5 s col:=fun col=>by rw[B7,if_pos hr]
  have lm:∀q∈picks.zip values,(M2 s q.1.col q.1.lev q.2).2=w9 s q.1.col q.1.lev q.2∧(w9 s q.1.col q.1.lev q.2=true→(M2 s q.1.col q.1.lev q.2).1=AZ s q.1.col q.1.lev q.2):=fun q hm=>by
   obtain⟨k,hk⟩:=List.getElem?_of_mem (List.of_mem_zip (show (q.1,q.2)∈_ from hm)).1
   obtain⟨h1,h2,h3,h4⟩:=hg k _ hk
   exact MJ hr h1 (List.getElem?_eq_getElem (by omega)) h3 (by rw[sw];exact h4) q.2
  have mA:s6 s (picks.zip values)=Jr s (picks.zip values):=OC fun q hm=>(lm q hm).1
  unfold Lr
  rw[mA]
  by_cases ha:Jr s (picks.zip values)=true
  ·rw[if_pos ha,if_pos ha]
   obtain⟨_,_,_,mz⟩:=o3 hc
   unfold Js DA
   refine Xi c mz fun a haa=>?_
   obtain⟨uX,hao⟩:=Ft c mz a haa
   obtain⟨x,hx,c1,c2,_⟩:=q9 hr uX hao
   have e:((a.col.toNat:Nat):Int)=a.col:=by omega
   rw[Yb (by omega),AM,if_neg (by omega),e]
   refine congrArg (M1 s a) ?_
   rcases TR a.col (picks.zip values)with ⟨h1,_⟩|⟨q,hq,h1,h2⟩
   ·rw[h1]
    dsimp only
    have lz:0<a.col.toNat:=by omega
    have hv:=(WJ hd [] 0).2 _ _ hx
    obtain⟨n,hn,_,hch⟩:=hd.chain lz hx
    have h0:=(hch _ hv).2.1
    obtain⟨k1,_,_⟩:=gv hd lz hx hn hv (m:=0) (Nat.zero_le _)
    rw[e]at h0 k1 hn
    rw[show ((0:Nat):Int)=0 from rfl,h0]at k1
    obtain⟨g1,g2⟩:=MJ hr (column:=a.col) (level:=0) c1 hx (by omega) (by omega) 0
    exact g2 (by rw[←g1];exact k1)
   ·rw[h2]
    dsimp only
    rw[←h1]
    exact(lm q hq).2 (List.all_eq_true.1 ha q hq)
  ·rw[if_neg ha,if_neg ha]
 ·rw[if_neg h,if_neg h]
theorem UF(s:A4)(hr:C3 s=0)(column fr v to:Int):A3 Tryz.prog 122 [sA s,.i column,.i fr,.i v,.i to] (JL (T8 s column fr v to)):=by
 have:=Xx s column fr v to
 rw[dM,NY,if_pos hr]at this
 exact this
theorem OD{s:A4}{column fr v to:Int}(h:column<1∨(s.cols.length:Int)≤column):T8 s column fr v to=(0,false):=by
 have hf:E5 s column=-1:=if_pos h
 unfold T8
 rw[if_pos (by omega)]
theorem UG{s:A4}{column level:Int}(h:column<1∨(s.cols.length:Int)≤column):∀pv:List (Pk×Int),Q0 s column level pv=(0,false)
 |[]=>OD h
 |(p,v)::r=>by
  unfold Q0
  split
  ·exact OD h
  ·exact UG h r
theorem VT(s:A4)(hr:C3 s=0)(x:N5)(k:Nat)(r:List Int)(hk:x.rows[k]?=some r)(hl:r.length=x.picks.length+1)(nY:x.picks.length≤1000)(column level:Int):A3 Tryz.prog 56 [sA s,c9 x,.i k,.i column,.i level] (JL (Q0 s column level (x.picks.zip r.tail))):=by
 have h1:=fun fr v=>UF s hr column fr v level
 have lk:=F5 hk
 by_cases hc:column<1∨(s.cols.length:Int)≤column
 ·rw[UG hc]
  obtain⟨pr,ver,picks,rows⟩:=x
  dsimp only at *
  have hX:c9 ⟨pr,ver,picks,rows⟩=.agg [.str pr,.i ver,.sl 2 (picks.map B4),.sl 1 (rows.map F8)]:=rfl
  rw[hX]
  refine B6 Tryz.func56 75 fun lW E h0=>?_
  have lX:rows.length≤9223372036854775807:=by
   have:=((lW (.agg [.str pr,.i ver,.sl 2 (picks.map B4),.sl 1 (rows.map F8)]) (by simp)).agg (.sl 1 (rows.map F8)) (by simp)).sl
   simpa using this
  clear lW
  repeat'((first|refine S2 ?_|(refine T6 ?_ ?_<;>intro h<;>try exact V1 h)|intro el lU lV|intro el lU|exact T4|refine T5 ?_ ?_|intro ex)<;>try conv=>whnf)
  all_goals first
   |(exfalso;omega)
   |exact I0 rfl rfl rfl
 ·have wg:(x.picks.zip r.tail).length=x.picks.length:=by rw[List.length_zip,List.length_tail];omega
  have tG:=fun k p v h1 h2=>@Lu x.picks r k p v h1 h2
  generalize hR:Q0 s column level (x.picks.zip r.tail)=R
  generalize x.picks.zip r.tail=pv at *
  obtain⟨pr,ver,picks,rows⟩:=x
  dsimp only at *
  have hX:c9 ⟨pr,ver,picks,rows⟩=.agg [.str pr,.i ver,.sl 2 (picks.map B4),.sl 1 (rows.map F8)]:=rfl
  rw[hX]
  refine B6 Tryz.func56 75 fun lW E h0=>?_
  have lX:rows.length≤9223372036854775807:=by
   have:=((lW (.agg [.str pr,.i ver,.sl 2 (picks.map B4),.sl 1 (rows.map F8)]) (by simp)).agg (.sl 1 (rows.map F8)) (by simp)).sl
   simpa using this
  have rY:s.cols.length≤8:=(D5 hr).2.1
  clear lW
  repeat'((first|refine S2 ?_|(refine T6 ?_ ?_<;>intro h<;>try exact V1 h)|intro el lU lV|intro el lU|exact T4|refine T5 ?_ ?_|intro ex)<;>try conv=>whnf)
  all_goals first
   |(exfalso;omega)
   |skip
  refine B0 (ι:=Nat) (fun i=>⟨[(2,.i k),(3,.i column),(4,.i level),(5,.ref 0 0),(6,.ref 1 0),(12,.i i)],2,[(0,some (.box (sL s))),(1,some (.box [.str pr,.i ver,.sl 2 (picks.map B4),.sl 1 (rows.map F8)]))]⟩)
   (fun i=>i≤picks.length∧Q0 s column level (pv.drop i)=R) (fun i=>picks.length-i) 0 ⟨Nat.zero_le _,hR⟩
   (A6 h0) (fun i hI=>?_)
  obtain⟨i1,i2⟩:=hI
  by_cases qi:i<picks.length
  ·obtain⟨p,hp⟩:∃p,picks[i]?=some p:=⟨_,List.getElem?_eq_getElem qi⟩
   obtain⟨v,hv⟩:∃v,r[i+1]?=some v:=⟨_,List.getElem?_eq_getElem (by omega)⟩
   have hq:=tG i p v hp hv
   have hp2:picks[((i:Nat):Int).toNat]?=some p:=hp
   have ol:r[((i:Int)+1).toNat]?=some v:=by rw[show ((i:Int)+1).toNat=i+1 by omega];exact hv
   have lg:rows[((k:Nat):Int).toNat]?=some r:=hk
   rw[G3 hq,Q0]at i2
   have h2:=h1 p.lev v
   by_cases tN:p.col=column
   ·rw[if_pos tN]at i2
    rw[i2]at h2
    repeat'((first|(refine A2 (x:=p) hp2 (by omega) ?_)|(refine A2 (x:=r) lg (by omega) ?_)|(refine A2 (x:=v) ol (by omega) ?_)|refine A1 h2 ?_|(refine B3 ?_ ?_;kernel_rfl) |refine S2 ?_|(refine T6 ?_ ?_<;>intro h<;>try exact V1 h)|intro el lU lV|intro el lU|exact T4|refine T5 ?_ ?_|intro ex)<;>try conv=>whnf)
    all_goals first
     |(exfalso;omega)
     |exact I0 rfl rfl rfl
   ·rw[if_neg tN]at i2
    repeat'((first|(refine A2 (x:=p) hp2 (by omega) ?_)|(refine B3 ?_ ?_;kernel_rfl) |refine S2 ?_|(refine T6 ?_ ?_<;>intro h<;>try exact V1 h)|intro el lU lV|intro el lU|exact T4|refine T5 ?_ ?_|intro ex)<;>try conv=>whnf)
    all_goals first
     |(exfalso;omega)
     |exact⟨i+1,⟨by omega,i2⟩,by omega,A6 h0⟩
  ·have he:pv.drop i=[]:=List.drop_eq_nil_of_le (by omega)
   rw[he,Q0]at i2
   have h2:=h1 0 0
   rw[i2]at h2
   repeat'((first|refine A1 h2 ?_|(refine B3 ?_ ?_;kernel_rfl) |refine S2 ?_|(refine T6 ?_ ?_<;>intro h<;>try exact V1 h)|intro el lU lV|intro el lU|exact T4|refine T5 ?_ ?_|intro ex)<;>try conv=>whnf)
   all_goals first
    |(exfalso;omega)
    |exact I0 rfl rfl rfl
end Go.Proofs.YtiphlhoclaogjaaGreatDoor
