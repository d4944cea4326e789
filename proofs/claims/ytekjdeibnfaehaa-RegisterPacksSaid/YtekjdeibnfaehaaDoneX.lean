/- What is done with a drive: any act; the loops of acts. -/
import Derived.Test.YtekjdeibnfaehaaDoneS
import Derived.Test.YtekjdeibnfaehaaDoneO
import Derived.Test.YtekjdeibnfaehaaDoneP
import Derived.Test.YtekjdeibnfaehaaDoneA
set_option linter.unusedSimpArgs false
set_option linter.unusedVariables false
namespace Go.Proofs.Ytekjdeibnfaehaa
open Go Go.RowKit

theorem done_any (p : PlayD) (ll : List Rec) (kk : Nat) (cnt : Int) (N : Nat) (hok : PlayOk p ll kk cnt N) (hN : N < 80) (a : ActD) (ha : ActOk a) (base : Nat) (w : World) (hb : base ≤ w.heap.size) (A0 : Option Addr) (n0 c0 : Nat) (A1 : Option Addr) (n1 c1 : Nat) (Am : Option Addr) (nm cm : Nat) (Af : Option Addr) (nf cf : Nat) (Al : Option Addr) (nl cl : Nat) (hp : PlayI base w p A0 n0 c0 A1 n1 c1 Am nm cm Af nf Al nl cl) : Calls Try.prog 35 #[playV A0 n0 c0 p.d.f0.firm A1 n1 c1 p.d.f1.firm Am nm cm p.m.file p.m.gen Af nf cf Al nl cl p.ok, actV a] w fun e w' => ∃ v, e = .returned v ∧ PlayR base w' (doneP p a) v ∧ Ext w w' := by
  by_cases h0 : a.act % 7 = 0
  · exact done_crash p ll kk cnt N hok hN a ha base w hb A0 n0 c0 A1 n1 c1 Am nm cm Af nf cf Al nl cl hp h0
  by_cases h1 : a.act % 7 = 1
  · exact done_sync p ll kk cnt N hok hN a ha base w hb A0 n0 c0 A1 n1 c1 Am nm cm Af nf cf Al nl cl hp h1
  by_cases h2 : a.act % 7 = 2
  · exact done_pack p ll kk cnt N hok hN a ha base w hb A0 n0 c0 A1 n1 c1 Am nm cm Af nf cf Al nl cl hp h2
  by_cases h3 : a.act % 7 = 3
  · exact done_open p ll kk cnt N hok hN a ha base w hb A0 n0 c0 A1 n1 c1 Am nm cm Af nf cf Al nl cl hp h3
  exact done_app p ll kk cnt N hok hN a ha base w hb A0 n0 c0 A1 n1 c1 Am nm cm Af nf cf Al nl cl hp h0 h1 h2 h3
end Go.Proofs.Ytekjdeibnfaehaa
