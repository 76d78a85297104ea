/- A contract whose result is memory of one's own, said with less. -/
import Derived.Test.YtbhegmcbpolemaaDoorTAvTy
import Derived.Test.YtbhegmcbpolemaaDoorTE3
namespace Go.Av
open Go Go.RowKit
theorem NN {P:Program} {f m0 m1 m2:Nat} {hp0 hp1 hp2:Hp} {args:List AV} {r r2:AV} (h:D4 P f m0 hp0 args m1 hp1 r) (hm:Nat.ble m0 m1 = true) (hle:∀ E:Env,E.n0 = m0 → St.le E 1 ⟨[(0,r)],m1,hp1⟩ ⟨[(0,r2)],m2,hp2⟩):D4 P f m0 hp0 args m2 hp2 r2:=by
 refine ⟨h.1,fun X θ w vs hX htab hbk hl hvs=>?_⟩
 refine Calls.mono (h.2 X θ w vs hX htab hbk hl hvs) ?_
 rintro e w' ⟨⟨v,θ',rfl,hv,hbk',hown,hθ⟩,hos,htape,hout,hsize,hblock⟩
 have sat:T4 ⟨w,X,owned θ hp0,θ,m0,htab,false⟩ 1 ⟨[(0,r)],m1,hp1⟩ { tmps:=#[v],defers:=[] } w':=by
  refine ⟨θ',rfl, .nil,⟨hos,htape,hout,hsize,hblock⟩,fun s x hs=>?_,hbk'.owns,hbk'.apart,fun i b k hi hk=>⟨hbk'.fresh i b k hi hk,hown i b k hi hk⟩,hX,⟨Nat.ble_eq ▸ hm,hθ⟩⟩
  rw [E3] at hs
  split at hs
  ·rename_i e0
   subst e0
   cases hs
   exact hv
  ·cases hs
 obtain ⟨θ2,hs⟩:=hle _ rfl _ _ sat
 have hr:=hs.slots 0 r2 rfl
 exact ⟨⟨v,θ2,rfl,hr,⟨hs.owns,hs.apart,fun i b k hi hk=>(hs.mine i b k hi hk).1⟩,fun i b k hi hk=>(hs.mine i b k hi hk).2,hs.base.2⟩,hs.fr.os,hs.fr.tape,hs.fr.output,hs.fr.size,hs.fr.block⟩
end Go.Av
