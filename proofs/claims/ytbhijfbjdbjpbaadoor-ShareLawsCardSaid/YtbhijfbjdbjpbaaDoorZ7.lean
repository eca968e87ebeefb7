/- The texts of this claim, put together by program, what it does not name left out: part 7. Conditions: each theorem's own. -/
import Derived.Test.YtbhijfbjdbjpbaaDoorZ6
namespace Go.Proofs.YtbhijfbjdbjpbaaDoor.Agg
open Go.ChangeShapes Go.WideShapes Go.ChangeAt Go.RowKit Go.Deep Go.Joins
variable {H : Type} {enc : TypeId × Value → H} {P : Program} {w : World} {base : Nat} {spare : Nat → Bool} {held : Bool}
theorem array8 {α : Type} {cs : Array α} (h : cs.size = 8) : ∃ c0 c1 c2 c3 c4 c5 c6 c7,cs = #[c0,c1,c2,c3,c4,c5,c6,c7]:=by
  obtain ⟨l⟩:=cs
  match l,h with
  | [c0,c1,c2,c3,c4,c5,c6,c7],_ => exact ⟨c0,c1,c2,c3,c4,c5,c6,c7,rfl⟩
theorem list8 {α : Type} {cs : List α} (h : cs.length = 8) : ∃ c0 c1 c2 c3 c4 c5 c6 c7,cs = [c0,c1,c2,c3,c4,c5,c6,c7]:=by
  match cs,h with
  | [c0,c1,c2,c3,c4,c5,c6,c7],_ => exact ⟨c0,c1,c2,c3,c4,c5,c6,c7,rfl⟩
theorem open_agg8 {r : Reach} {b0 : Nat} {t : TypeId} {f0 f1 f2 f3 f4 f5 f6 f7 : Field} {v : Value} {d : DataW H} {p : List MemPlace} (hs : P.underlying t = some (.struct #[f0,f1,f2,f3,f4,f5,f6,f7])) (hone : oneCellFields P #[f0,f1,f2,f3,f4,f5,f6,f7] = true) (hC : P.cellsOf t = 8)
    (hv : Value.okWide P w r b0 t v) (h : DataW.Trod enc P w base spare held t v d p) :
    ∃ (v0 v1 v2 v3 v4 v5 v6 v7 : Value) (y0 y1 y2 y3 y4 y5 y6 y7 : DataW H × List MemPlace) (n : Nat),v = .agg #[v0,v1,v2,v3,v4,v5,v6,v7] ∧ d = .agg [y0.1,y1.1,y2.1,y3.1,y4.1,y5.1,y6.1,y7.1] ∧ p = y0.2 ++ (y1.2 ++ (y2.2 ++ (y3.2 ++ (y4.2 ++ (y5.2 ++ (y6.2 ++ y7.2)))))) ∧
      DataW.trod enc P w base spare held n f0.type [v0] = some y0 ∧ DataW.trod enc P w base spare held n f1.type [v1] = some y1 ∧ DataW.trod enc P w base spare held n f2.type [v2] = some y2 ∧ DataW.trod enc P w base spare held n f3.type [v3] = some y3 ∧ DataW.trod enc P w base spare held n f4.type [v4] = some y4 ∧ DataW.trod enc P w base spare held n f5.type [v5] = some y5 ∧ DataW.trod enc P w base spare held n f6.type [v6] = some y6 ∧ DataW.trod enc P w base spare held n f7.type [v7] = some y7:=by
  obtain ⟨cs,rfl,hsz⟩:=okWide_struct hs hv
  obtain ⟨c0,c1,c2,c3,c4,c5,c6,c7,rfl⟩:=array8 (hsz.trans hC)
  obtain ⟨fuel,hf⟩:=h
  obtain ⟨xs,n,_,hx,hl,hlen,hf⟩:=DataW.trod_struct hs hf
  obtain ⟨y0,y1,y2,y3,y4,y5,y6,y7,rfl⟩:=list8 hlen
  simp only [Prod.mk.injEq] at hx
  obtain ⟨o0,k0⟩:=hone_of hone 0 f0 rfl
  obtain ⟨o1,k1⟩:=hone_of hone 1 f1 rfl
  obtain ⟨o2,k2⟩:=hone_of hone 2 f2 rfl
  obtain ⟨o3,k3⟩:=hone_of hone 3 f3 rfl
  obtain ⟨o4,k4⟩:=hone_of hone 4 f4 rfl
  obtain ⟨o5,k5⟩:=hone_of hone 5 f5 rfl
  obtain ⟨o6,k6⟩:=hone_of hone 6 f6 rfl
  obtain ⟨o7,k7⟩:=hone_of hone 7 f7 rfl
  have h0:=hf 0 f0 rfl
  have h1:=hf 1 f1 rfl
  have h2:=hf 2 f2 rfl
  have h3:=hf 3 f3 rfl
  have h4:=hf 4 f4 rfl
  have h5:=hf 5 f5 rfl
  have h6:=hf 6 f6 rfl
  have h7:=hf 7 f7 rfl
  exact ⟨c0,c1,c2,c3,c4,c5,c6,c7,y0,y1,y2,y3,y4,y5,y6,y7,n,rfl,hx.1,by simpa using hx.2,by simpa [Value.cells,o0,k0] using h0,by simpa [Value.cells,o1,k1] using h1,by simpa [Value.cells,o2,k2] using h2,by simpa [Value.cells,o3,k3] using h3,by simpa [Value.cells,o4,k4] using h4,by simpa [Value.cells,o5,k5] using h5,by simpa [Value.cells,o6,k6] using h6,by simpa [Value.cells,o7,k7] using h7⟩
end Go.Proofs.YtbhijfbjdbjpbaaDoor.Agg
