/- Chapter 18: both tables are the same: plain. -/
import Derived.Test.YtjkbhaaobhgkdabGreatDoorRTc5
import Derived.Test.YtjkbhaaobhgkdabGreatDoorRQd0
import Derived.Test.YtjkbhaaobhgkdabGreatDoorRCe6
import Derived.Test.YtjkbhaaobhgkdabGreatDoorRTa5
set_option linter.unusedVariables false
set_option linter.unnecessarySimpa false
set_option linter.unusedSimpArgs false
set_option maxHeartbeats 64000000
namespace Go.Proofs.YtjkbhaaobhgkdabGreatDoor
open Go Go.Av
attribute [local irreducible] D0 B0 D2 C7 DQ D1 C8 St.le A3 B6
set_option maxRecDepth 100000
theorem fM(s:A4)(d:Pk):1≤(j6 s d).length:=by unfold j6;simp
theorem Um(s:A4):∀ds:List Pk,1≤(J5 s ds).length
 |[]=>by simp[J5]
 |d::r=>by
  have h1:=fM s d
  have h2:=Um s r
  have h3:(J5 s (d::r)).length=(j6 s d).length*(J5 s r).length:=EI _ _
  rw[h3]
  have:=Nat.mul_le_mul h1 h2
  omega
theorem Lg(own:List Int)(R:List (List Int)):∀out:List (List Int),(AQ own out).flatMap (fun l=>R.map fun m=>l++m)=out.flatMap fun l=>(OP own R).map fun m=>l++m
 |[]=>rfl
 |a::r=>by
  have ih:=Lg own R r
  have hk:AQ own (a::r)=(own.map fun c=>a++[c])++AQ own r:=by simp[AQ]
  rw[hk,List.flatMap_append,ih,List.flatMap_cons]
  congr 1
  unfold OP
  rw[List.flatMap_map,List.map_flatMap]
  congr 1
  funext c
  rw[List.map_map]
  congr 1
  funext m
  simp
theorem Qw{s:A4}:∀{ds:List Pk} {out:List (List Int)},out.length*(J5 s ds).length≤2000→V8 s ds out=some (out.flatMap fun l=>(J5 s ds).map fun m=>l++m)
 |[],out,_=>by simp[V8,J5]
 |d::r,out,h=>by
  have h3:(J5 s (d::r)).length=(j6 s d).length*(J5 s r).length:=EI _ _
  have hp:=Um s r
  rw[h3,←Nat.mul_assoc]at h
  have h4:out.length*(j6 s d).length*1≤out.length*(j6 s d).length*(J5 s r).length:=Nat.mul_le_mul_left _ hp
  unfold V8
  rw[if_neg (by omega),Qw (by rw[CD];exact h),Lg]
  rfl
theorem Qx{s:A4}:∀{ds:List Pk} {out:List (List Int)},out.length≤2000→2000<out.length*(J5 s ds).length→V8 s ds out=none
 |[],out,h1,h2=>by simp[J5]at h2;omega
 |d::r,out,h1,h2=>by
  have h3:(J5 s (d::r)).length=(j6 s d).length*(J5 s r).length:=EI _ _
  rw[h3,←Nat.mul_assoc]at h2
  unfold V8
  split
  ·rfl
  ·exact Qx (by rw[CD];omega) (by rw[CD];exact h2)
theorem jf(s:A4)(ds:List Pk):V8 s ds [[]]=if 2000<(J5 s ds).length then none else some (J5 s ds):=by
 by_cases h:2000<(J5 s ds).length
 ·rw[if_pos h,Qx (by simp) (by simpa using h)]
 ·rw[if_neg h,Qw (by simp;omega)]
  simp
def KE(s:A4)(x:K3)(dims:List Pk)(mea i:Int):b9:=⟨Dh x i,DH s x mea i,CG s x dims i⟩
theorem bz{key:Int}{c:F3}(h:Gh c):M2 key 0 false c=M2 key 0 true c:=by
 obtain⟨h1,h2⟩:=h
 obtain⟨a,b,cc,d,e,f,g⟩:=c
 dsimp only at h1 h2
 unfold M2
 rw[if_pos rfl,if_neg (by decide),if_neg (by dsimp only;omega),if_neg (by dsimp only;omega)]
 simp
theorem fN{s:A4}{x:K3}{dims:List Pk}{mea i:Int}{c:F3}(h:Gh c):(if N1 (CG s x dims i) c.codes=true then M2 (Dh x i) (DH s x mea i) (decide (0≤mea)) c else c)=DM c (KE s x dims mea i):=by
 unfold DM KE
 dsimp only
 by_cases hm:0≤mea
 ·rw[decide_eq_true hm]
 ·have hv:DH s x mea i=0:=if_neg hm
  rw[decide_eq_false hm,hv,bz h]
theorem cB{c:F3}(h:Gh c)(l:b9):Gh (DM c l):=by
 unfold DM
 split
 ·exact h.add _ _ _
 ·exact h
theorem Un{s:A4}{x:K3}{dims:List Pk}{mea:Int}:∀(is:List Int) (C:List F3),(∀c∈C,Gh c)→is.foldl (ET s x dims mea) C=C.map fun c=>(is.map (KE s x dims mea)).foldl DM c
 |[],C,_=>by simp
 |i::r,C,h=>by
  have e:ET s x dims mea C i=C.map fun c=>DM c (KE s x dims mea i):=by
   unfold ET
   exact List.map_congr_left fun c hc=>fN (h c hc)
  rw[List.foldl_cons,e,Un r _ (fun c hc=>by
   rw[List.mem_map]at hc
   obtain⟨d,hd,rfl⟩:=hc
   exact cB (h d hd) _),List.map_map]
  rfl
theorem fO(s:A4)(x:K3)(dims:List Pk)(mea:Int)(L:List (List Int))(is:List Int):S7 s x dims mea L is=L.map fun l=>L1 l (is.map (KE s x dims mea)):=by
 unfold S7
 rw[Un is _ (fun c hc=>by
  rw[List.mem_map]at hc
  obtain⟨l,_,rfl⟩:=hc
  exact⟨by simp[v6],by simp[v6]⟩),List.map_map]
 rfl
def H0{α:Type}(op:Int→Int→Int)(f:α→Int):List α→Int
 |[]=>0
 |x::r=>op (f x) (H0 op f r)
structure KF(op:Int→Int→Int):Prop where
 comm:∀a b,op a b=op b a
 assoc:∀a b c,op (op a b) c=op a (op b c)
 z:op 0 0=0
theorem AH:KF (·+·):=⟨fun a b=>by omega,fun a b c=>by omega,rfl⟩
theorem Kn:KF max:=⟨fun a b=>by omega,fun a b c=>by omega,rfl⟩
theorem BA{α:Type}{op:Int→Int→Int}(h:KF op)(f:α→Int)(x:α):∀l:List α,H0 op f (l++[x])=op (H0 op f l) (f x)
 |[]=>h.comm _ _
 |a::r=>by
  rw[List.cons_append,H0,BA h f x r,H0,h.assoc]
theorem XI{α:Type}{op:Int→Int→Int}(h:KF op)(f g:α→Int):∀l:List α,H0 op (fun x=>op (f x) (g x)) l=op (H0 op f l) (H0 op g l)
 |[]=>h.z.symm
 |a::r=>by
  simp only[H0]
  rw[XI h f g r,h.assoc,h.assoc,←h.assoc (g a),h.comm (g a),h.assoc]
theorem IK{α:Type}{op:Int→Int→Int}(h:KF op):∀l:List α,H0 op (fun _=>0) l=0
 |[]=>rfl
 |a::r=>by rw[H0,IK h r,h.z]
theorem Uo{α β:Type}{op:Int→Int→Int}(h:KF op)(f:α→β→Int)(B:List β):∀A:List α,H0 op (fun a=>H0 op (fun b=>f a b) B) A=H0 op (fun b=>H0 op (fun a=>f a b) A) B
 |[]=>(IK h B).symm
 |a::r=>by
  rw[H0,Uo h f B r,←XI h]
  rfl
theorem w8{α:Type}{op:Int→Int→Int}{f g:α→Int}:∀{l:List α},(∀x∈l,f x=g x)→H0 op f l=H0 op g l
 |[],_=>rfl
 |a::r,h=>by rw[H0,H0,h a (List.mem_cons_self ..),w8 fun x hx=>h x (List.mem_cons_of_mem _ hx)]
theorem XJ{α:Type}{op:Int→Int→Int}(ha:KF op){f:α→Int}{w:Int}(hw:op 0 w=w){c:α}:∀{l:List α},l.Nodup→c∈l→f c=w→(∀x∈l,x≠c→f x=0)→H0 op f l=w
 |[],_,h,_,_=>by cases h
 |a::r,hn,h,hf,hz=>by
  obtain⟨h1,h2⟩:=List.nodup_cons.1 hn
  rw[H0]
  rcases List.mem_cons.1 h with rfl|h
  ·rw[w8 (g:=fun _=>0) (fun x hx=>hz x (List.mem_cons_of_mem _ hx) fun e=>h1 (e▸hx)),IK ha,hf,ha.comm,hw]
  ·rw[hz a (List.mem_cons_self ..) (fun e=>h1 (e▸h)),XJ ha hw h2 h hf fun x hx=>hz x (List.mem_cons_of_mem _ hx),hw]
theorem fP{α:Type}{op:Int→Int→Int}(ha:KF op){f:α→Int}{l:List α}(h:∀x∈l,f x=0):H0 op f l=0:=by
 rw[w8 (g:=fun _=>0) h,IK ha]
abbrev IL(v:Int):Int:=max v (-v)
def DN(l:List Int)(Ls:List b9):List b9:=Ls.filter fun x=>N1 x.codes l
theorem cC(l:List Int)(Ls:List b9)(x:b9):DN l (Ls++[x])=if N1 x.codes l=true then DN l Ls++[x]else DN l Ls:=by
 unfold DN
 rw[List.filter_append,List.filter_cons,List.filter_nil]
 split<;>simp
structure lc(l:List Int)(F:List b9)(c:F3):Prop where
 codes:c.codes=l
 cnt:c.cnt=F.length
 rows:c.rows=F.map (·.key)
 sum:c.sum=H0 (·+·) (fun x:b9=>x.val) F
 amo:c.amo=H0 (·+·) (fun x:b9=>IL x.val) F
 fst:c.fst=H0 max (fun x:b9=>IL x.val) F
 ord:Gh c
 two:c.fst+c.snd≤c.amo
theorem Lh(l:List Int):∀(n:Nat) (Ls:List b9),Ls.length=n→lc l (DN l Ls) (L1 l Ls)
 |0,Ls,h=>by
  obtain rfl:Ls=[]:=List.length_eq_zero_iff.1 h
  exact⟨rfl,rfl,rfl,rfl,rfl,rfl,⟨by simp[L1,v6],by simp[L1,v6]⟩,by simp[L1,v6]⟩
 |n+1,Ls,h=>by
  obtain⟨R,x,rfl⟩:∃R x,Ls=R++[x]:=by
   rcases List.eq_nil_or_concat Ls with h0|⟨R,x,h0⟩
   ·rw[h0]at h;cases h
   ·exact⟨R,x,by rw[h0,List.concat_eq_append]⟩
  obtain⟨h1,h2,h3,h4,h5,h6,h7,h8⟩:=Lh l n R (by simpa using h)
  have e:L1 l (R++[x])=DM (L1 l R) x:=by unfold L1;rw[List.foldl_append];rfl
  rw[e,cC]
  unfold DM
  rw[h1]
  generalize L1 l R=c at *
  generalize DN l R=F at *
  by_cases hi:N1 x.codes l=true
  ·rw[if_pos hi,if_pos hi]
   have ho:=h7.le
   have hp:=h7.lo
   by_cases hf:c.fst<max x.val (-x.val)
   ·refine⟨by rw[IJ];exact h1,?_,?_,?_,?_,?_,h7.add _ _ _,?_⟩
    ·rw[HB hf,List.length_append];dsimp only[List.length_cons,List.length_nil];omega
    ·rw[HB hf,List.map_append,←h3];rfl
    ·rw[HB hf,BA AH,←h4]
    ·rw[HB hf,BA AH,←h5]
    ·rw[HB hf,BA Kn,←h6];dsimp only[IL];omega
    ·rw[HB hf];dsimp only;omega
   ·refine⟨by rw[IJ];exact h1,?_,?_,?_,?_,?_,h7.add _ _ _,?_⟩
    ·rw[HC hf ho,List.length_append];dsimp only[List.length_cons,List.length_nil];omega
    ·rw[HC hf ho,List.map_append,←h3];rfl
    ·rw[HC hf ho,BA AH,←h4]
    ·rw[HC hf ho,BA AH,←h5]
    ·rw[HC hf ho,BA Kn,←h6];dsimp only[IL];omega
    ·rw[HC hf ho];dsimp only;omega
  ·rw[if_neg hi,if_neg hi]
   exact⟨h1,h2,h3,h4,h5,h6,h7,h8⟩
theorem DO(l:List Int)(Ls:List b9):lc l (DN l Ls) (L1 l Ls):=Lh l Ls.length Ls rfl
theorem PX{op:Int→Int→Int}(f:b9→Int)(N:Int→Prop)(h0:N 0)(h1:∀a,N a→op 0 a=a)(h2:∀a b,N a→N b→N (op a b))(hf:∀x,N (f x))(l:List Int):∀Ls:List b9,
  H0 op f (DN l Ls)=H0 op (fun x=>if N1 x.codes l=true then f x else 0) Ls∧N (H0 op f (DN l Ls))
 |[]=>⟨rfl,h0⟩
 |x::r=>by
  obtain⟨ih,hn⟩:=PX f N h0 h1 h2 hf l r
  unfold DN at *
  rw[List.filter_cons,H0]
  by_cases hi:N1 x.codes l=true
  ·rw[if_pos hi,if_pos hi,H0,ih]
   rw[ih]at hn
   exact⟨rfl,h2 _ _ (hf x) hn⟩
  ·rw[if_neg hi,if_neg hi,←ih,h1 _ hn]
   exact⟨rfl,hn⟩
theorem HD(f:b9→Int)(l:List Int)(Ls:List b9):H0 (·+·) f (DN l Ls)=H0 (·+·) (fun x=>if N1 x.codes l=true then f x else 0) Ls :=
 (PX f (fun _=>True) trivial (fun a _=>by omega) (fun _ _ _ _=>trivial) (fun _=>trivial) l Ls).1
theorem XK(f:b9→Int)(hf:∀x,0≤f x)(l:List Int)(Ls:List b9):H0 max f (DN l Ls)=H0 max (fun x=>if N1 x.codes l=true then f x else 0) Ls :=
 (PX f (fun a=>0≤a) (Int.le_refl 0) (fun a h=>by omega) (fun a b _ _=>by omega) hf l Ls).1
theorem XL(l:List Int)(Ls:List b9):((DN l Ls).length:Int)=H0 (·+·) (fun x=>if N1 x.codes l=true then 1 else 0) Ls:=by
 rw[←HD (fun _=>1)]
 generalize DN l Ls=F
 induction F with
 |nil=>rfl
 |cons a r ih=>rw[H0,←ih,List.length_cons];omega
theorem GI(a:Int)(x:List Int)(c:Int)(l:List Int):N1 (a::x) (c::l)=(decide (c=-1∨c=a) && N1 x l):=by
 unfold N1
 rw[List.zip_cons_cons,List.all_cons]
theorem IM:∀{l x:List Int} {i:Nat} {a c:Int},l[i]?=some (-1)→x[i]?=some a→c≠-1→N1 x (l.set i c)=(N1 x l && decide (c=a))
 |[],_,_,_,_,h,_,_=>by simp at h
 |_::_,[],_,_,_,_,h,_=>by simp at h
 |b::l,y::x,0,a,c,h1,h2,h3=>by
  simp at h1 h2
  subst h1 h2
  rw[List.set_cons_zero,GI,GI,decide_eq_true (show (-1:Int)=-1∨(-1:Int)=y from .inl rfl),Bool.true_and,Bool.and_comm]
  congr 1
  rw[decide_eq_decide]
  omega
 |b::l,y::x,i+1,a,c,h1,h2,h3=>by
  rw[List.set_cons_succ,GI,GI,IM (by simpa using h1) (by simpa using h2) h3,Bool.and_assoc]
theorem ZU{op:Int→Int→Int}(ha:KF op){l x:List Int}{i:Nat}{a w:Int}(hw:op 0 w=w)(h1:l[i]?=some (-1))(h2:x[i]?=some a){A:List Int}(hn:A.Nodup)(hA:a∈A)(hp:∀c∈A,0≤c):
  H0 op (fun c=>if N1 x (l.set i c)=true then w else 0) A=if N1 x l=true then w else 0:=by
 by_cases hi:N1 x l=true
 ·rw[if_pos hi]
  refine XJ ha hw hn hA ?_ fun c hc hne=>?_
  ·rw[if_pos]
   rw[IM h1 h2 (by have:=hp a hA;omega),hi]
   simp
  ·rw[if_neg]
   rw[IM h1 h2 (by have:=hp c hc;omega),hi]
   simp[hne]
 ·rw[if_neg hi]
  refine fP ha fun c hc=>?_
  rw[if_neg]
  rw[IM h1 h2 (by have:=hp c hc;omega)]
  simp[hi]
theorem GJ{op:Int→Int→Int}(ha:KF op)(f:b9→Int)(hw:∀x,op 0 (f x)=f x){l:List Int}{i:Nat}(h1:l[i]?=some (-1)){A:List Int}(hn:A.Nodup)(hp:∀c∈A,0≤c){Ls:List b9}(hx:∀x∈Ls,∃a,x.codes[i]?=some a∧a∈A):
  H0 op (fun c=>H0 op (fun x=>if N1 x.codes (l.set i c)=true then f x else 0) Ls) A=H0 op (fun x=>if N1 x.codes l=true then f x else 0) Ls:=by
 rw[Uo ha]
 refine w8 fun x hxm=>?_
 obtain⟨a,h2,h3⟩:=hx x hxm
 exact ZU ha (hw x) h1 h2 hn h3 hp
structure XM(c:F3)(C:Int→F3)(A:List Int):Prop where
 cnt:H0 (·+·) (fun k=>(C k).cnt) A=c.cnt
 sum:H0 (·+·) (fun k=>(C k).sum) A=c.sum
 amo:H0 (·+·) (fun k=>(C k).amo) A=c.amo
 fst:H0 max (fun k=>(C k).fst) A=c.fst
theorem fQ{l:List Int}{i:Nat}(h1:l[i]?=some (-1)){A:List Int}(hn:A.Nodup)(hp:∀c∈A,0≤c){Ls:List b9}(hx:∀x∈Ls,∃a,x.codes[i]?=some a∧a∈A):
  XM (L1 l Ls) (fun k=>L1 (l.set i k) Ls) A:=by
 have hc:=DO l Ls
 have hk:=fun k=>DO (l.set i k) Ls
 have yT:∀x:b9,0≤IL x.val:=fun x=>by unfold IL;omega
 refine⟨?_,?_,?_,?_⟩
 ·rw[hc.cnt,XL,←GJ AH (fun _=>1) (fun _=>rfl) h1 hn hp hx]
  exact w8 fun k _=>by rw[(hk k).cnt,XL]
 ·rw[hc.sum,HD,←GJ AH (fun x=>x.val) (fun x=>by omega) h1 hn hp hx]
  exact w8 fun k _=>by rw[(hk k).sum,HD]
 ·rw[hc.amo,HD,←GJ AH (fun x=>IL x.val) (fun x=>by omega) h1 hn hp hx]
  exact w8 fun k _=>by rw[(hk k).amo,HD]
 ·rw[hc.fst,XK _ yT,←GJ Kn (fun x=>IL x.val) (fun x=>by have:=yT x;omega) h1 hn hp hx]
  exact w8 fun k _=>by rw[(hk k).fst,XK _ yT]
theorem Up{s:A4}:∀{ds:List Pk} {l:List Int},l∈J5 s ds→∀(i:Nat) d,ds[i]?=some d→∃c,l[i]?=some c∧c∈j6 s d
 |[],l,h,i,d,hd=>by simp at hd
 |e::r,l,h,i,d,hd=>by
  unfold J5 at h
  rw[List.mem_flatMap]at h
  obtain⟨c,hc,h2⟩:=h
  rw[List.mem_map]at h2
  obtain⟨m,hm,rfl⟩:=h2
  cases i with
  |zero=>simp at hd;subst hd;exact⟨c,rfl,hc⟩
  |succ i=>exact Up hm i d (by simpa using hd)
theorem XN{s:A4}:∀{ds:List Pk} {l:List Int},l.length=ds.length→(∀(i:Nat) d,ds[i]?=some d→∃c,l[i]?=some c∧c∈j6 s d)→l∈J5 s ds
 |[],l,h,_=>by
  have:l=[]:=List.length_eq_zero_iff.1 (by simpa using h)
  subst this
  simp[J5]
 |e::r,[],h,_=>by simp at h
 |e::r,c::m,h,hi=>by
  obtain⟨c',h1,h2⟩:=hi 0 e rfl
  simp at h1
  subst h1
  unfold J5
  rw[List.mem_flatMap]
  exact⟨c,h2,List.mem_map.2 ⟨m,XN (by simpa using h) (fun i d hd=>hi (i+1) d (by simpa using hd)),rfl⟩⟩
theorem fR{s:A4}{ds:List Pk}{l:List Int}(h:l∈J5 s ds){i:Nat}{d:Pk}(hd:ds[i]?=some d){c:Int}(hc:c∈j6 s d):l.set i c∈J5 s ds:=by
 have hl:=Ma h
 refine XN (by rw[List.length_set];exact hl) fun j e he=>?_
 by_cases e2:i=j
 ·subst e2
  rw[hd]at he
  cases he
  have:=D6 hd
  exact⟨c,by rw[List.getElem?_set_self (by omega)],hc⟩
 ·rw[List.getElem?_set_ne e2]
  exact Up h j e he
theorem cD{L:List (List Int)}{Ls:List b9}{l:List Int}(h:l∈L):∃n:Nat,E6 (fun c:F3=>decide (c.codes=l)) (L.map fun l=>L1 l Ls) 0=n∧(L.map fun l=>L1 l Ls)[n]?=some (L1 l Ls):=by
 have key:∀(L:List (List Int)) (k:Nat),l∈L→∃n:Nat,E6 (fun c:F3=>decide (c.codes=l)) (L.map fun l=>L1 l Ls) k=((k+n:Nat):Int)∧(L.map fun l=>L1 l Ls)[n]?=some (L1 l Ls):=by
  intro L
  induction L with
  |nil=>intro k h;cases h
  |cons a r ih =>
   intro k h
   rw[List.map_cons,E6,(DO a Ls).codes]
   by_cases e:a=l
   ·subst e
    rw[if_pos (decide_eq_true rfl)]
    exact⟨0,rfl,rfl⟩
   ·rw[if_neg (by rw[decide_eq_true_iff];exact e)]
    rcases List.mem_cons.1 h with h|h
    ·exact absurd h.symm e
    ·obtain⟨n,h1,h2⟩:=ih (k+1) h
     refine⟨n+1,?_,h2⟩
     rw[show (k:Int)+1=((k+1:Nat):Int) by omega,h1]
     congr 1;omega
 obtain⟨n,h1,h2⟩:=key L 0 h
 rw[Nat.zero_add]at h1
 exact⟨n,h1,h2⟩
def IP(l:List UInt8)(s:A4)(a:Nat):Int×Nat:=if (B3 l a 2).1=1 then (((R9 l (B3 l a 2).2 s 3).1:Int),(R9 l (B3 l a 2).2 s 3).2)else (-1,(B3 l a 2).2)
def IQ(l:List UInt8)(s:A4)(a:Nat):(List Pk×Int×B1)×Nat :=
 (((e6 l (IP l s a).2 s).1,(IP l s a).1,(S6 l s 2 (e6 l (IP l s a).2 s).2).1),(S6 l s 2 (e6 l (IP l s a).2 s).2).2)
theorem ZV(l:List UInt8)(a:Nat)(s:A4)(hd:C4 s)(hl:l.length≤400):B6 Tryz.prog 6 1 (V3 l a) [.ref 0 0,sA s] 1 (V3 l (IQ l s a).2) (.tup [.sl 2 ((IQ l s a).1.1.map B5),.i (IQ l s a).1.2.1,E7 (IQ l s a).1.2.2]):=by
 have h1:=Bx l a 2 hl (by decide)
 have h2:=fun a=>EO l a s hd hl
 have h3:=fun a=>ZE l a s hd hl
 have h4:=fun a=>bI l s hd hl 2 a (by decide)
 unfold IQ
 dsimp only
 by_cases ho:(B3 l a 2).1=1
 ·have hm:IP l s a=(((R9 l (B3 l a 2).2 s 3).1:Int),(R9 l (B3 l a 2).2 s 3).2):=if_pos ho
  rw[hm]
  have h2:=h2 (B3 l a 2).2
  have h3:=h3 (R9 l (B3 l a 2).2 s 3).2
  have h4:=h4 (e6 l (R9 l (B3 l a 2).2 s 3).2 s).2
  dsimp only
  generalize S6 l s 2 (e6 l (R9 l (B3 l a 2).2 s 3).2 s).2=K at *
  generalize e6 l (R9 l (B3 l a 2).2 s 3).2 s=D at *
  generalize R9 l (B3 l a 2).2 s 3=M at *
  generalize B3 l a 2=o at *
  obtain⟨K,k2⟩:=K
  obtain⟨D,d2⟩:=D
  obtain⟨M,m2⟩:=M
  obtain⟨o,o2⟩:=o
  dsimp only at *
  refine X6 Tryz.func6 20 fun E h0=>?_
  repeat'((first|refine nc [0] [0] h1 rfl rfl rfl ⟨rfl,trivial⟩ ?_|refine nc [0] [0] h2 rfl rfl rfl ⟨rfl,trivial⟩ ?_|(refine G3 4 ?_;refine P5 (id:=4) (σ':=⟨[(0,.ref 0 0),(3,.iptr (sL s)),(6,.ref 2 0),(7,.i M)],3,[(0,some (.box [.sl 1 (l.map O2),.i m2])),(2,some (.box [.i 0,.i 0,.i 0,.i 0,.i 0,.v (.slice none 0 0)]))]⟩) (A6 h0) ?_;refine H4 (id:=4) ⟨[(4,.sl 2 (D.map B5)),(5,.i M),(6,.ref 2 0)],3,[(0,some (.box [.sl 1 (l.map O2),.i k2])),(2,some (.box (K2 K)))]⟩ ?_ ?_)|refine nc [0] [0] h3 rfl rfl rfl ⟨rfl,trivial⟩ ?_|refine nc [0] [0] h4 rfl rfl rfl ⟨rfl,trivial⟩ ?_ |refine S2 ?_|(refine T6 ?_ ?_<;>intro h<;>try exact V1 h)|intro el nN nP|intro el nN|exact T4|refine T5 ?_ ?_|intro ex)<;>try conv=>whnf)
  all_goals first
   |(exfalso;omega)
   |exact A8 h0 rfl ⟨rfl,rfl,rfl,trivial⟩ ⟨rfl,rfl,trivial⟩ rfl rfl rfl
   |exact L8 (rvs:=[.tmp 4,.tmp 5,.cell 6 40]) (vs:=[.sl 2 (D.map B5),.i M,E7 K]) ⟨2,_,_,rfl,rfl,inferInstance,rfl,rfl,trivial⟩ rfl rfl (A6 h0) rfl
 ·have hm:IP l s a=(-1,(B3 l a 2).2):=if_neg ho
  rw[hm]
  have h3:=h3 (B3 l a 2).2
  have h4:=h4 (e6 l (B3 l a 2).2 s).2
  dsimp only
  generalize S6 l s 2 (e6 l (B3 l a 2).2 s).2=K at *
  generalize e6 l (B3 l a 2).2 s=D at *
  generalize B3 l a 2=o at *
  obtain⟨K,k2⟩:=K
  obtain⟨D,d2⟩:=D
  obtain⟨o,o2⟩:=o
  dsimp only at *
  refine X6 Tryz.func6 20 fun E h0=>?_
  repeat'((first|refine nc [0] [0] h1 rfl rfl rfl ⟨rfl,trivial⟩ ?_|(refine G3 4 ?_;refine P5 (id:=4) (σ':=⟨[(0,.ref 0 0),(3,.iptr (sL s)),(6,.ref 2 0),(7,.i (-1))],3,[(0,some (.box [.sl 1 (l.map O2),.i o2])),(2,some (.box [.i 0,.i 0,.i 0,.i 0,.i 0,.v (.slice none 0 0)]))]⟩) (A6 h0) ?_;refine H4 (id:=4) ⟨[(4,.sl 2 (D.map B5)),(5,.i (-1)),(6,.ref 2 0)],3,[(0,some (.box [.sl 1 (l.map O2),.i k2])),(2,some (.box (K2 K)))]⟩ ?_ ?_)|refine nc [0] [0] h3 rfl rfl rfl ⟨rfl,trivial⟩ ?_|refine nc [0] [0] h4 rfl rfl rfl ⟨rfl,trivial⟩ ?_ |refine S2 ?_|(refine T6 ?_ ?_<;>intro h<;>try exact V1 h)|intro el nN nP|intro el nN|exact T4|refine T5 ?_ ?_|intro ex)<;>try conv=>whnf)
  all_goals first
   |(exfalso;omega)
   |exact A8 h0 rfl ⟨rfl,rfl,rfl,trivial⟩ ⟨rfl,rfl,trivial⟩ rfl rfl rfl
   |exact L8 (rvs:=[.tmp 4,.tmp 5,.cell 6 40]) (vs:=[.sl 2 (D.map B5),.i (-1),E7 K]) ⟨2,_,_,rfl,rfl,inferInstance,rfl,rfl,trivial⟩ rfl rfl (A6 h0) rfl
end Go.Proofs.YtjkbhaaobhgkdabGreatDoor
