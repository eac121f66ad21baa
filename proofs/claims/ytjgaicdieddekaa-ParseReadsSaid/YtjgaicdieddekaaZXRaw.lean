-- parse.Raw by hand: what it says ('rawF').
import Derived.Test.YtjgaicdieddekaaZXLineG
set_option linter.unusedVariables false
set_option linter.unusedSimpArgs false
namespace Go.Proofs.Ytjgaicdieddekaa.PParA
open Go.RowKit Go.Proofs.YtjgaicdieddekaaW.PrintWords Go.Proofs.YtjgaicdieddekaaW.PrintLast Go.Proofs.YtjgaicdieddekaaW.PrintMore Go.Proofs.YtjgaicdieddekaaX
/-- N, the pairs, the fault, its place. -/
abbrev RawR := Int × List S40 × Int × Int
def finF (n : Int) (N : Int) (hd : Bool) (m : Int) (ps : List S40) : RawR :=
  if hd = false then (0, [], 20, n) else if (ps.length : Int) < m then (0, [], 25, n) else (N, ps, 0, 0)
/-- The tokens, one by one; ls: the line's so far. -/
def rawT (n : Int) : List S50 → List S50 → Int → Bool → Int → List S40 → RawR
  | [], ls, N, hd, m, ps => finF n N hd m ps
  | t :: ts, ls, N, hd, m, ps =>
    if t.f0 = 1 then rawT n ts (ls ++ [t]) N hd m ps
    else if 0 < ls.length then
      if (lineF N hd m ps ls).code ≠ 0 then (0, [], (lineF N hd m ps ls).code, (lineF N hd m ps ls).at_)
      else if t.f0 = 3 then finF n (lineF N hd m ps ls).N (lineF N hd m ps ls).hd (lineF N hd m ps ls).m (lineF N hd m ps ls).ps
      else rawT n ts [] (lineF N hd m ps ls).N (lineF N hd m ps ls).hd (lineF N hd m ps ls).m (lineF N hd m ps ls).ps
    else if t.f0 = 3 then finF n N hd m ps
    else rawT n ts ls N hd m ps
def rawF (l : List Int) : RawR :=
  if 16777216 < l.length then (0, [], 10, 16777216)
  else match scanF l with
    | .error ab => (0, [], ab.2, ab.1)
    | .ok ts => rawT l.length ts [] 0 false 0 []
def RawP (w w' : World) (e : Ending) (r : RawR) : Prop := ∃ v, e = .returned (.tuple #[.agg #[.int .i64 r.1, v], .agg #[.int .i64 r.2.2.1, .int .i64 r.2.2.2]]) ∧ Kd.R k40 40 w' w.heap.size (fun _ => True) v r.2.1 ∧ Below w.heap.size w w'
end Go.Proofs.Ytjgaicdieddekaa.PParA
