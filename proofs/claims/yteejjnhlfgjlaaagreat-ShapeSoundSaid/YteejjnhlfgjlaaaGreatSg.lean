/-
 A stage and its memory: the value and the parts.
-/
import Derived.Test.YteejjnhlfgjlaaaGreatKM
import Derived.Test.YteejjnhlfgjlaaaGreatKH
import Derived.Test.YteejjnhlfgjlaaaGreatKO
namespace Go.Proofs.YteejjnhlfgjlaaaGreat
open Go.RowKit
set_option linter.unusedVariables false

structure Sg where
 kd : Int
 sa : Int
 sb : Int
 bar : Bool
 ep : Int
 ef : Int
 kw : Int
 kh : Int
 wa : Option Addr
 wc : Nat
 wl : List Int
 ra : Option Addr
 rc : Nat
 rl : List Int
 ca : Option Addr
 cc : Nat
 cl : List Int
 sh : Int
 sh2 : Int
 xa : Option Addr
 xn : Nat
 xc : Nat
 xp : List (Int × Ro)
 ya : Option Addr
 yn : Nat
 yc : Nat
 yp : List (Int × Ro)
 bins : Int
 oa : Option Addr
 on : Nat
 oc : Nat
 ol : List (Int × Int)
 mx : Int
def Sg.val (s : Sg) : Array Value := #[.int .i64 s.kd, .int .i64 s.sa, .int .i64 s.sb, .bool s.bar, .int .i64 s.ep, .int .i64 s.ef, .int .i64 s.kw, .int .i64 s.kh, .slice s.wa s.wl.length s.wc, .slice s.ra s.rl.length s.rc, .slice s.ca s.cl.length s.cc, .int .i64 s.sh, .int .i64 s.sh2, .slice s.xa s.xn s.xc, .slice s.ya s.yn s.yc, .int .i64 s.bins, .slice s.oa s.on s.oc, .int .i64 s.mx]
def Sg.parts (s : Sg) : List Ch := [.arr 59 2 (.slice s.xa s.xn s.xc) s.xn (tapV s.xp), .arr 59 2 (.slice s.ya s.yn s.yc) s.yn (tapV s.yp), .own (.slice s.wa s.wl.length s.wc) s.wl, .own (.slice s.ra s.rl.length s.rc) s.rl, .own (.slice s.ca s.cl.length s.cc) s.cl, .arr 61 2 (.slice s.oa s.on s.oc) s.on (prV s.ol)]
def Sg.len (s : Sg) (n : Nat) : Prop := s.wl.length ≤ n ∧ s.rl.length ≤ n ∧ s.cl.length ≤ n ∧ s.xn ≤ n ∧ s.yn ≤ n ∧ s.on ≤ n
theorem Sg.ln {s : Sg} {n : Nat} (h0 : s.wl.length ≤ n := by (try simp only [List.length_nil]); first | omega | (simp; omega)) (h1 : s.rl.length ≤ n := by (try simp only [List.length_nil]); first | omega | (simp; omega)) (h2 : s.cl.length ≤ n := by (try simp only [List.length_nil]); first | omega | (simp; omega)) (h3 : s.xn ≤ n := by (try simp only [List.length_nil]); first | omega | (simp; omega)) (h4 : s.yn ≤ n := by (try simp only [List.length_nil]); first | omega | (simp; omega)) (h5 : s.on ≤ n := by (try simp only [List.length_nil]); first | omega | (simp; omega)) : s.len n := ⟨h0, h1, h2, h3, h4, h5⟩
def SgPost (B : Nat) (W : World) (k n : Nat) (l : List Ch) (e : Ending) (w' : World) : Prop :=
 ∃ (s : Sg) (R : List Ro), e = .returned (.agg s.val) ∧ s.len n ∧ TQ B R s.xp ∧ TQ B R s.yp ∧ St B W (s.parts ++ .tape k :: l) R w'
theorem TQ.nilT (B : Nat) (rs : List Ro) : TQ B rs [] := fun p hp => by cases hp
end Go.Proofs.YteejjnhlfgjlaaaGreat
