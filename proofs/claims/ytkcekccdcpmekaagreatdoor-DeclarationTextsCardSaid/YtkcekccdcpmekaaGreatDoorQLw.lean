/- Chapter 8: a question, a declaration is the same as itself. -/
import Derived.Test.YtkcekccdcpmekaaGreatDoorQCm1
import Derived.Test.YtkcekccdcpmekaaGreatDoorQAw7
import Derived.Test.YtkcekccdcpmekaaGreatDoorQAw9
import Derived.Test.YtkcekccdcpmekaaGreatDoorQLr8
import Derived.Test.YtkcekccdcpmekaaGreatDoorQCr2
import Derived.Test.YtkcekccdcpmekaaGreatDoorQB10
import Derived.Test.YtkcekccdcpmekaaGreatDoorQE3
import Derived.Lib.LaidTab
import Derived.Stop.LaidErr
import Derived.MakeChecks
import Derived.Shelf.Vars
set_option linter.unusedVariables false
set_option linter.unnecessarySimpa false
set_option linter.unusedSimpArgs false
set_option maxHeartbeats 64000000
namespace Go.Proofs.YtkcekccdcpmekaaGreatDoor
open Go Go.Av
attribute [local irreducible] E8 B5 E5 E1 DQ E7 E9 St.le A4 A9
set_option maxRecDepth 100000
theorem Wc(q:E3):A4 Tryz.prog 51 [O9 q,O9 q] (.b true):=by
 have h1:=(Wb q.trms q.trms).congr (congrArg AV.b (decide_eq_true rfl))
 have h2:=(Ny q.dims q.dims).congr (congrArg AV.b (decide_eq_true rfl))
 have h3:=Jm q.flt
 have h4:=Jm q.evt
 refine D0 Tryz.func51 52 fun ki E h0=>?_
 clear ki
 repeat'((first|refine A0 h1 ?_|refine A0 h2 ?_|refine A0 h3 ?_|refine A0 h4 ?_|(refine I6 ?_ ?_;kernel_rfl) |refine S2 ?_|(refine T6 ?_ ?_<;>intro h<;>try exact V1 h)|intro el ke kg|intro el ke|exact T4|refine T5 ?_ ?_|intro ex)<;>try conv=>whnf)
 all_goals first
  |exact A3 rfl rfl
  |(exfalso;omega)
theorem Wd(d:G0):A4 Tryz.prog 17 [R3 d,R3 d] (.b true):=by
 have h1:=fun x:E3=>Wc x
 have h3:=Jm d.coh
 refine D0 Tryz.func17 61 fun ki E h0=>?_
 have kf:d.qs.length≤9223372036854775807:=by
  have:=((ki _ (List.mem_cons_self ..)).agg (.sl 17 (d.qs.map C0)) (by simp)).sl
  simpa using this
 clear ki
 repeat'((first|refine A0 h3 ?_ |refine S2 ?_|(refine T6 ?_ ?_<;>intro h<;>try exact V1 h)|intro el ke kg|intro el ke|exact T4|refine T5 ?_ ?_|intro ex)<;>try conv=>whnf)
 all_goals first
  |(exfalso;omega)
  |skip
 refine D5 (ι:=Nat) (fun k=>⟨[(2,.iptr (FZ d)),(3,.iptr (FZ d)),(5,.i k)],0,[]⟩) (fun k=>k≤d.qs.length) (fun k=>d.qs.length-k) 0 (Nat.zero_le _)
  (B2 h0) (fun k hk=>?_)
 by_cases kj:k<d.qs.length
 ·obtain⟨x,hx⟩:∃x,d.qs[k]?=some x:=⟨_,List.getElem?_eq_getElem kj⟩
  have h1:=h1 x
  repeat'((first|(refine A2 (x:=x) hx (by omega) ?_)|refine A0 h1 ?_|(refine I6 ?_ ?_;kernel_rfl) |refine S2 ?_|(refine T6 ?_ ?_<;>intro h<;>try exact V1 h)|intro el ke kg|intro el ke|exact T4|refine T5 ?_ ?_|intro ex)<;>try conv=>whnf)
  all_goals first
   |exact⟨k+1,by omega,by omega,B2 h0⟩
   |(exfalso;omega)
 ·repeat'((first|refine S2 ?_|(refine T6 ?_ ?_<;>intro h<;>try exact V1 h)|intro el ke kg|intro el ke|exact T4|refine T5 ?_ ?_|intro ex)<;>try conv=>whnf)
  all_goals first
   |exact A3 rfl rfl
   |(exfalso;omega)
abbrev jg:List UInt8:=[32,10,40,41,47,45,48,49,50,55,97,100,101,107,108,109,110,111,112,113,114,115,116,117,118,119,120,121]
abbrev kc:List UInt8:=[120,57]
abbrev kd:List UInt8:=[116,97,98,108,101,32,119,104,101,114,101,32,98,121,32,115,101,120,47,48,32,119,104,101,114,101,32,97,108,108,10]
theorem Ys(l:List UInt8)(hl:l.length≤maxLen)(raw:List UInt8)(lD:raw.length≤maxLen)(kr at':Int)(b:UInt8):A4 Tryz.prog 4 [.sl 1 (l.map X9),.str raw,.i kr,.i at',.v (.int .u8 b.toNat)] (.b true):=by
 unfold maxLen at hl lD
 have ha:=TV
 have hb:=b.toNat_lt
 have hL:(l.take 400).length≤400:=List.length_take_le _ _
 have ns:=aD l (by omega)
 have rW:=YN (l.take 400) 0 hL
 have hd:=Vw (l.take 400) 0
 generalize JK (l.take 400) 0=s0 at *
 obtain⟨s,a0⟩:=s0
 dsimp only at rW hd
 generalize l.take 400=t at *
 obtain⟨D1,b1,_,h1⟩:=Yb t s hd hL a0 kr kc
 have p1:=Ks s D1
 have p2:=Jl s D1
 generalize Hx s D1=Y at *
 obtain⟨Y1,Y2⟩:=Y
 dsimp only at p1 p2
 have rl:=YR t s hd hL b1
 obtain⟨lI,_,kf⟩:=cC hd t b1
 generalize U7 t s b1=X at *
 obtain⟨D,b2⟩:=X
 dsimp only at rl lI kf
 have hz:j8 s D=0:=(Fi s D).2 lI
 have p3:A4 Tryz.prog 12 [sA s,R3 D] (.tup [.str (ED s D),.i 0]):=(Jl s D).congr (by rw[Hx,if_pos hz,if_neg (by omega)])
 have hgp:1≤(ED s D).length:=by
  unfold ED EC
  simp only[List.length_append,List.length_cons,List.length_nil];omega
 clear hz lI hd
 generalize ED s D=G at *
 have wT:=aE at' G.length (by omega)
 have pD:=JA (k:=at') (n:=G.length) (by omega)
 generalize Iz at' G.length=k at *
 have h28:0≤(b.toNat:Int).tmod 28∧(b.toNat:Int).tmod 28<28:=by
  rw[Int.tmod_eq_emod_of_nonneg (by omega)];omega
 obtain⟨c,hc⟩:∃c,jg[((b.toNat:Int).tmod 28).toNat]?=some c:=⟨_,List.getElem?_eq_getElem (by show _<28;omega)⟩
 obtain⟨gk,xi⟩:∃el,G[k.toNat]?=some el:=⟨_,List.getElem?_eq_getElem (by omega)⟩
 obtain⟨V,hV,hVl⟩:∃V:List (List UInt8),V=[raw,G,G.set k.toNat c,List.drop ((0:Nat):Int).toNat (List.take k.toNat G),G++raw,G++kd,List.drop ((0:Nat):Int).toNat (List.take k.toNat G)++raw++List.drop k.toNat (List.take ((G.length:Nat):Int).toNat G)]∧V.length=7:=⟨_,rfl,rfl⟩
 have lJ:(List.take k.toNat G).length≤G.length:=by rw[List.length_take];omega
 have pJ:(List.drop k.toNat (List.take ((G.length:Nat):Int).toNat G)).length≤G.length:=by rw[List.length_drop,List.length_take];omega
 have xT:raw.length≤1000→(List.drop ((0:Nat):Int).toNat (List.take k.toNat G)++raw).length+(List.drop k.toNat (List.take ((G.length:Nat):Int).toNat G)).length≤9223372036854775807:=fun h=>by
  have h1:(List.drop ((0:Nat):Int).toNat (List.take k.toNat G)).length≤G.length:=by rw[List.length_drop,List.length_take];omega
  rw[List.length_append];omega
 refine D0 Tryz.func4 140 fun ki E h0=>?_
 clear ki
 repeat'((first|refine E0 (xT (by omega)) ?_|refine Ct [] [] ns rfl rfl rfl rfl rfl trivial rfl rfl rfl rfl rfl ?_|refine A0 p1 ?_|refine A0 p2 ?_|refine A0 p3 ?_|refine A0 wT ?_|refine A0 ha ?_|(refine o8 (x:=c) hc (by omega) ?_)|(refine A2 (x:=gk) xi (by omega) ?_)|refine XT (l:=G) rfl rfl (by omega) ?_|(refine E0 ?_ ?_;(simp only[List.length_append,List.length_cons,List.length_nil,List.length_drop];omega))|(refine B6 10 ?_;refine F5 (id:=10) (σ':=⟨[(1,.str raw),(3,.i at'),(4,.v (.int .u8 b.toNat)),(11,.ref 0 0),(12,.iptr (sL s))],1,[(0,J4 t b1)]⟩) (B2 h0) ?_;refine C5 (id:=10) ⟨[(1,.str raw),(3,.i at'),(4,.v (.int .u8 b.toNat)),(12,.iptr (sL s)),(18,.str G)],0,[]⟩ ?_ ?_)|(refine B6 14 ?_;refine F5 (id:=14) (σ':=⟨[(1,.str raw),(12,.iptr (sL s)),(18,.str G),(20,.sl 1 ((G.set k.toNat c).map X9)),(21,.i k)],0,[]⟩) (B0 h0 rfl ⟨rfl,rfl,rfl,congrArg (fun z=>some (AV.sl 1 z)) (by rw[List.map_set];rfl),rfl,trivial⟩ trivial rfl rfl rfl) ?_;refine C5 (id:=14) ⟨[(12,.iptr (sL s)),(104,.sl 1 (V.map F6)),(105,.i 7),(106,.i 0)],0,[]⟩ ?_ ?_) |refine S2 ?_|(refine T6 ?_ ?_<;>intro h<;>try exact V1 h)|intro el ke kg|intro el ke|exact T4|refine T5 ?_ ?_|intro ex|refine nc [0] [0] rW rfl rfl rfl ⟨rfl,trivial⟩ ?_|refine nc [0] [0] h1 rfl rfl rfl ⟨rfl,trivial⟩ ?_|refine nc [0] [0] rl rfl rfl rfl ⟨rfl,trivial⟩ ?_)<;>try conv=>whnf)
 all_goals first
  |exact A3 rfl rfl
  |exact B0 h0 rfl ⟨rfl,rfl,rfl,rfl,rfl,trivial⟩ trivial rfl rfl rfl
  |exact B0 h0 rfl ⟨rfl,congrArg (fun z:List (List UInt8)=>some (AV.sl 1 (z.map F6))) hV.symm,rfl,rfl,trivial⟩ trivial rfl rfl rfl
  |(exfalso;omega)
  |skip
 clear ns rW h1 rl p1 p2 p3 wT hV
 refine D5 (ι:=Nat) (fun j=>⟨[(12,.iptr (sL s)),(104,.sl 1 (V.map F6)),(105,.i 7),(106,.i j)],0,[]⟩) (fun j=>j≤7) (fun j=>7-j) 0 (by omega) (B2 h0) (fun j hJ=>?_)
 by_cases hj:j<7
 ·obtain⟨w,hw⟩:∃w,V[j]?=some w:=⟨_,List.getElem?_eq_getElem (by omega)⟩
  have e1:=Kr s w
  have e2:=Se s w
  rw[bh]at e2
  generalize JZ s w=Q at *
  obtain⟨X,n,g⟩:=Q
  dsimp only at e1 e2
  have e3:=Wd X
  repeat'((first|(refine A2 (x:=w) hw (by omega) ?_)|refine A0 e1 ?_|refine A0 e2 ?_|refine A0 e3 ?_ |refine S2 ?_|(refine T6 ?_ ?_<;>intro h<;>try exact V1 h)|intro el ke kg|intro el ke|exact T4|refine T5 ?_ ?_|intro ex)<;>try conv=>whnf)
  all_goals first
   |exact⟨j+1,by omega,by omega,B2 h0⟩
   |(exfalso;omega)
 ·repeat'((first|refine A0 ha ?_ |refine S2 ?_|(refine T6 ?_ ?_<;>intro h<;>try exact V1 h)|intro el ke kg|intro el ke|exact T4|refine T5 ?_ ?_|intro ex)<;>try conv=>whnf)
  all_goals first
   |exact A3 rfl rfl
   |(exfalso;omega)
theorem cD(l:List AV)(h:Ju Tryz.prog Tryz.f4.params.toList l):A4 Tryz.prog 4 l (.b true):=by
 obtain⟨a1,r1,rfl,h1,a2,r2,rfl,h2,a3,r3,rfl,h3,a4,r4,rfl,h4,a5,r5,rfl,h5,rfl⟩:=h
 obtain⟨l,hl,rfl⟩:=gf h1
 obtain⟨raw,lD,rfl⟩:=jV h2
 obtain⟨n,_,rfl⟩:=cW h3
 obtain⟨m,_,rfl⟩:=cW h4
 obtain⟨b,hb,rfl⟩:=gU Tryz.underlying5 h5
 have e:b=(UInt8.ofNat b).toNat:=by simp;omega
 rw[e]
 exact Ys l hl raw lD n m (UInt8.ofNat b)
end Go.Proofs.YtkcekccdcpmekaaGreatDoor
namespace Go.Av
open Go Go.RowKit
theorem Sf{P:Program}{W:World}{n:String}{cs:Array Value}{g:Nat}(hg:P.globalNamed n=some g)(h:W.var? P n=some cs):∃t fr,W.heap[g]?=some (.cells cs t fr):=by
 unfold World.var? at h
 rw[hg]at h
 simp only[Option.bind_some]at h
 split at h
 ·rename_i c t fr he
  cases h
  exact⟨t,fr,he⟩
 ·cases h
theorem Lh{P:Program}{W:World}{name:String}{k:IntKind}{zs:List Int}{rest:List (String×DataW Unit)}{g:Nat}{t e:TypeId}{n:Nat}
  (hg:P.globalNamed name=some g) (wv:(P.globals[g]?).map (·.type)=some t) (ht:P.underlying t=some (.array n e)) (he:P.underlying e=some (.int k)) (xQ:P.cellsOf e=1) (yH:P.cellsOf t=n)
  (h:laidMet P ((name,Lib.tabData k zs)::rest) W):∃t fr,W.heap[g]?=some (.cells (zs.map (Value.int k)).toArray t fr):=by
 have h1:=Lib.tabIs_of_head hg wv ht he xQ yH h
 unfold Lib.TabIs at h1
 exact Sf hg h1
def jB(P:Program)(te ts:TypeId):Bool:=match P.underlying te with
 |some (.struct ⟨[f]⟩)=>decide (f.type=ts) && decide (f.offset=0)
 |_=>false
def jC(P:Program)(ti:TypeId):Bool:=match P.underlying ti with
 |some (.interface _)=>true
 |_=>false
theorem Sg{P:Program}{n nm:String}{text:List UInt8}{r:List (String×DataW Unit)}{W:World}{g:Nat}{ti tp te ts:TypeId}
  (h:laidMet P ((n,.iface nm (.ptr (.agg [.lit (.string text)])))::r) W)
  (hg:P.globalNamed n=some g) (ht:(P.globals[g]?).map (·.type)=some ti) (hi:jC P ti=true) (mD:∀u,P.typeName? 3 u=some nm→u=tp)
  (hp:P.underlying tp=some (.pointer te)) (he:jB P te ts=true) (hs:P.underlying ts=some .string) (hc:P.cellsOf te=1) (oP:P.cellsOf ts=1) :
  ∃te pe t fr,W.heap[g]?=some (.cells #[.iface te pe] t fr):=by
 unfold jB at he
 unfold jC at hi
 split at he
 ·rename_i f hf
  simp only[Bool.and_eq_true,decide_eq_true_eq]at he
  split at hi
  ·rename_i ms yF
   obtain⟨a,s,h1,_⟩:=laid_sentinel h hg ht yF mD hp hf he.1 he.2 hs hc oP
   obtain⟨t,fr,h2⟩:=Sf hg h1
   exact⟨_,_,t,fr,h2⟩
  ·cases hi
 ·cases he
def Nz(W:World):List (Nat×IntKind×List Int)→Prop
 |[]=>True
 |(g,k,l)::r=>(∃t fr,W.heap[g]?=some (.cells (l.map (Value.int k)).toArray t fr))∧Nz W r
def OA(W:World):List Nat→Prop
 |[]=>True
 |g::r=>(∃te pe t fr,W.heap[g]?=some (.cells #[.iface te pe] t fr))∧OA W r
theorem Kt{W:World}:∀{T:List (Nat×IntKind×List Int)} {g:Nat} {k:IntKind} {l:List Int},Nz W T→look T g=some (k,l)→∃t fr,W.heap[g]?=some (.cells (l.map (Value.int k)).toArray t fr)
 |[],g,k,l,_,h=>by cases h
 |(g',k',l')::r,g,k,l,h,hg=>by
  rw[I1]at hg
  by_cases e:g'=g
  ·rw[if_pos e]at hg;cases hg;subst e;exact h.1
  ·rw[if_neg e]at hg;exact Kt h.2 hg
theorem Ku{W:World}:∀{T:List Nat} {g:Nat},OA W T→g∈T→∃te pe t fr,W.heap[g]?=some (.cells #[.iface te pe] t fr)
 |[],g,_,h=>by cases h
 |g'::r,g,h,hg=>by
  rcases List.mem_cons.1 hg with rfl|hg
  ·exact h.1
  ·exact Ku h.2 hg
def OB(W:World):List Nat→Prop
 |[]=>True
 |g::r=>(∃m t fr,W.heap[g]?=some (.cells #[.int .i64 m] t fr))∧OB W r
theorem Kv{W:World}:∀{T:List Nat} {g:Nat},OB W T→g∈T→∃m t fr,W.heap[g]?=some (.cells #[.int .i64 m] t fr)
 |[],g,_,h=>by cases h
 |g'::r,g,h,hg=>by
  rcases List.mem_cons.1 hg with rfl|hg
  ·exact h.1
  ·exact Kv h.2 hg
theorem cE{P:Program}{W:World}{g t:Nat}(hs:W.ShapedOpen P)(hg:Nat.blt g P.globals.size=true)(h0:((begin P (fun _ _=>0) default).world.heap[g]?).bind Obj.row?=some (#[.int .i64 0],t))
  (hb:P.buildable t=true) (hc:P.cellTypes P.depth t=some [t]) (hu:P.underlying t=some (.int .i64)):∃m t fr,W.heap[g]?=some (.cells #[.int .i64 m] t fr):=by
 have kj:g<P.globals.size:=Nat.blt_eq▸hg
 obtain⟨cs,hh,hsz,_⟩:=hs.1 g #[.int .i64 0] t kj h0
 obtain⟨m,hm⟩:=Go.Proofs.cell_of_shapedOpen_int hs kj h0 rfl hb hc hu
 have h1:cs.size=1:=hsz
 have h2:cs[0]?=some (.int .i64 m):=by
  unfold World.cell? at hm
  simpa [hh]using hm
 refine⟨m,t,(0,0),hh.trans ?_⟩
 have:cs=#[.int .i64 m]:=by
  apply Array.ext
  ·rw[h1];rfl
  ·intro i hi _
   have:i=0:=by omega
   subst this
   have h3:=Array.getElem?_eq_some_iff.1 h2
   obtain⟨_,h3⟩:=h3
   rw[h3];rfl
 rw[this]
theorem cF{W:World}(h1:Nz W Po)(h2:OA W fg)(h3:OB W fh):w7 Gr W :=
 ⟨fun g k l h=>⟨fun hu=>hu.elim,Kt h1 h⟩,fun g h=>⟨fun hu=>hu.elim,Ku h2 h⟩,fun g h=>⟨fun hu=>hu.elim,Kv h3 h⟩⟩
end Go.Av
