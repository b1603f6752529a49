/- Elder roots, each kept, tell what they told, however much is put and taken away later. It holds for every input; there are no conditions. -/
import Derived.Test.YtpbfapbajmdlkaaGreatSac0
import Derived.Shelf.SlIterI.Nil
import Derived.Shelf.SortM.Plain
import Derived.Shelf.SortM.SortNone
import Derived.Shelf.SlMaps.Clone
section
namespace Go.Sac
def bigL (l : List UInt8) : UInt32 := m9 (l.getD 0 0).toUInt32 24 ||| m9 (l.getD 1 0).toUInt32 16 ||| m9 (l.getD 2 0).toUInt32 8 ||| (l.getD 3 0).toUInt32
def jy (l : List UInt8) : UInt32 := m9 (l.getD 3 0).toUInt32 24 ||| m9 (l.getD 2 0).toUInt32 16 ||| m9 (l.getD 1 0).toUInt32 8 ||| (l.getD 0 0).toUInt32
def et (x : UInt32) : List UInt8 := [(gh x 24).toUInt8, (gh x 16).toUInt8, (gh x 8).toUInt8, x.toUInt8]
def eS (x : UInt32) : List UInt8 := [x.toUInt8, (gh x 8).toUInt8, (gh x 16).toUInt8, (gh x 24).toUInt8]
def Aj (x : UInt32) (s : Nat) : UInt32 := m9 x s ||| gh x (32 - s)
def pF (x : UInt32) (n : Nat) : UInt32 := Aj x ((32 - n % 32) % 32)
def sW (x : UInt32) (n : Nat) : UInt32 := Aj x (n % 32)
def shaFirst : List UInt32 := [0x6a09e667, 0xbb67ae85, 0x3c6ef372, 0xa54ff53a, 0x510e527f, 0x9b05688c, 0x1f83d9ab, 0x5be0cd19]
def shaK : List UInt32 := [0x428a2f98, 0x71374491, 0xb5c0fbcf, 0xe9b5dba5, 0x3956c25b, 0x59f111f1, 0x923f82a4, 0xab1c5ed5,
 0xd807aa98, 0x12835b01, 0x243185be, 0x550c7dc3, 0x72be5d74, 0x80deb1fe, 0x9bdc06a7, 0xc19bf174,
 0xe49b69c1, 0xefbe4786, 0x0fc19dc6, 0x240ca1cc, 0x2de92c6f, 0x4a7484aa, 0x5cb0a9dc, 0x76f988da,
 0x983e5152, 0xa831c66d, 0xb00327c8, 0xbf597fc7, 0xc6e00bf3, 0xd5a79147, 0x06ca6351, 0x14292967,
 0x27b70a85, 0x2e1b2138, 0x4d2c6dfc, 0x53380d13, 0x650a7354, 0x766a0abb, 0x81c2c92e, 0x92722c85,
 0xa2bfe8a1, 0xa81a664b, 0xc24b8b70, 0xc76c51a3, 0xd192e819, 0xd6990624, 0xf40e3585, 0x106aa070,
 0x19a4c116, 0x1e376c08, 0x2748774c, 0x34b0bcb5, 0x391c0cb3, 0x4ed8aa4a, 0x5b9cca4f, 0x682e6ff3,
 0x748f82ee, 0x78a5636f, 0x84c87814, 0x8cc70208, 0x90befffa, 0xa4506ceb, 0xbef9a3f7, 0xc67178f2]
def kH (b : List UInt8) (w : List UInt32) (i : Nat) : List UInt32 :=
 if i < 16 then w.set i (bigL (b.drop (4 * i)))
 else
  let x := w.getD (i - 15) 0
  let y := w.getD (i - 2) 0
  w.set i ((pF y 17 ^^^ pF y 19 ^^^ gh y 10) + w.getD (i - 7) 0 + (pF x 7 ^^^ pF x 18 ^^^ gh x 3) + w.getD (i - 16) 0)
def eA (b : List UInt8) (n : Nat) : List UInt32 := (List.range n).foldl (kH b) (List.replicate 64 0)
def ma (w : List UInt32) (v : List UInt32) (i : Nat) : List UInt32 :=
 let a := v.getD 0 0
 let e := v.getD 4 0
 let t1 := v.getD 7 0 + (pF e 6 ^^^ pF e 11 ^^^ pF e 25) + ((e &&& v.getD 5 0) ^^^ ((~~~ e) &&& v.getD 6 0)) + shaK.getD i 0 + w.getD i 0
 let t2 := (pF a 2 ^^^ pF a 13 ^^^ pF a 22) + ((a &&& v.getD 1 0) ^^^ (a &&& v.getD 2 0) ^^^ (v.getD 1 0 &&& v.getD 2 0))
 [t1 + t2, a, v.getD 1 0, v.getD 2 0, v.getD 3 0 + t1, e, v.getD 5 0, v.getD 6 0]
def dT (w : List UInt32) (s : List UInt32) (n : Nat) : List UInt32 := (List.range n).foldl (ma w) s
def gC (s v : List UInt32) (n : Nat) : List UInt32 := (List.range n).foldl (fun v i => v.set i (v.getD i 0 + s.getD i 0)) v
def hD (s : List UInt32) (b : List UInt8) : List UInt32 := gC s (dT (eA b 64) s 64) 8
theorem pz (b : List UInt8) (w : List UInt32) (i : Nat) : (kH b w i).length = w.length := by
 unfold kH; split <;> simp
theorem gD (b : List UInt8) (n : Nat) : (eA b n).length = 64 := by
 unfold eA
 induction n with
 | zero => simp
 | succ n ih => rw [List.range_succ, List.foldl_append]; simp only [List.foldl_cons, List.foldl_nil]; rw [pz, ih]
theorem nO (b : List UInt8) (n : Nat) : eA b (n + 1) = kH b (eA b n) n := by
 unfold eA; rw [List.range_succ, List.foldl_append]; rfl
theorem jT (w s : List UInt32) (n : Nat) : dT w s (n + 1) = ma w (dT w s n) n := by
 unfold dT; rw [List.range_succ, List.foldl_append]; rfl
theorem jb (w s : List UInt32) (h : s.length = 8) (n : Nat) : (dT w s n).length = 8 := by
 cases n with
 | zero => exact h
 | succ n => rw [jT]; rfl
theorem me (s v : List UInt32) (n : Nat) : gC s v (n + 1) = (gC s v n).set n ((gC s v n).getD n 0 + s.getD n 0) := by
 unfold gC; rw [List.range_succ, List.foldl_append]; rfl
theorem jU (s v : List UInt32) (n : Nat) : (gC s v n).length = v.length := by
 induction n with
 | zero => rfl
 | succ n ih => rw [me, List.length_set, ih]
theorem gi (s : List UInt32) (b : List UInt8) (h : s.length = 8) : (hD s b).length = 8 := by
 unfold hD; rw [jU, jb _ _ h]
def cV : Nat → List UInt32 → List UInt8 → List UInt32
 | 0, s, _ => s
 | k + 1, s, l => cV k (hD s (l.take 64)) (l.drop 64)
theorem gE (k : Nat) (s : List UInt32) (l : List UInt8) (h : s.length = 8) : (cV k s l).length = 8 := by
 induction k generalizing s l with
 | zero => exact h
 | succ k ih => exact ih _ _ (gi _ _ h)
theorem qR (k : Nat) (s : List UInt32) (l m : List UInt8) (h : 64 * k ≤ l.length) : cV k s (l ++ m) = cV k s l := by
 induction k generalizing s l with
 | zero => rfl
 | succ k ih =>
  unfold cV
  rw [List.take_append_of_le_length (by omega), List.drop_append_of_le_length (by omega), ih _ _ (by rw [List.length_drop]; omega)]
theorem qo (j k : Nat) (s : List UInt32) (l : List UInt8) : cV (j + k) s l = cV k (cV j s l) (l.drop (64 * j)) := by
 induction j generalizing s l with
 | zero => simp [cV]
 | succ j ih =>
  rw [show j + 1 + k = (j + k) + 1 from by omega]
  show cV (j + k) _ _ = cV k (cV j _ _) _
  rw [ih, List.drop_drop, show 64 + 64 * j = 64 * (j + 1) from by omega]
def dQ (l : List UInt8) : List UInt8 := l.drop (64 * (l.length / 64))
def dI (l : List UInt8) : List UInt32 := cV (l.length / 64) shaFirst l
def rh (n : Nat) : Nat := (119 - n % 64) % 64
def gO (n : Nat) : List UInt8 := 0x80 :: (List.replicate (rh n) 0 ++ be 8 (n * 8))
def iz (l : List UInt8) : List UInt8 := (cV ((l ++ gO l.length).length / 64) shaFirst (l ++ gO l.length)).flatMap et
theorem fP (l : List UInt8) : (dQ l).length = l.length % 64 := by
 unfold dQ; rw [List.length_drop]; omega
theorem wh (n : Nat) : (n + (gO n).length) % 64 = 0 := by
 unfold gO rh; simp [aH]; omega
theorem fX (l : List UInt32) : (l.flatMap et).length = 4 * l.length := by
 induction l with
 | nil => rfl
 | cons a l ih => simp only [List.flatMap_cons, List.length_append, ih, List.length_cons]; simp [et]; omega
theorem dA (l : List UInt8) : (iz l).length = 32 := by
 unfold iz; rw [fX, gE _ _ _ rfl]
theorem rG (l m : List UInt8) : dI (l ++ m) = cV (((dQ l) ++ m).length / 64) (dI l) (dQ l ++ m) := by
 have h1 : (l ++ m).length / 64 = l.length / 64 + (dQ l ++ m).length / 64 := by
  rw [List.length_append, List.length_append, fP]; omega
 unfold dI
 rw [h1, qo, qR _ _ _ _ (by omega), List.drop_append_of_le_length (by omega)]; rfl
theorem Am (l m : List UInt8) : dQ (l ++ m) = (dQ l ++ m).drop (64 * ((dQ l ++ m).length / 64)) := by
 unfold dQ
 rw [← List.drop_append_of_le_length (by omega), List.drop_drop]
 congr 1
 simp only [List.length_append, List.length_drop]; omega
theorem Aa (l : List UInt8) : cV ((dQ l ++ gO l.length).length / 64) (dI l) (dQ l ++ gO l.length) = cV ((l ++ gO l.length).length / 64) shaFirst (l ++ gO l.length) :=
 (rG l (gO l.length)).symm
theorem u6 (b : List UInt8) : eA b 0 = List.replicate 64 0 := rfl
theorem pq (w s : List UInt32) : dT w s 0 = s := rfl
theorem sO (s v : List UInt32) : gC s v 0 = v := rfl
theorem u4 (s : List UInt32) (b : List UInt8) : hD s b = gC s (dT (eA b 64) s 64) 8 := rfl
theorem oc (s : List UInt32) (l : List UInt8) : cV 0 s l = s := rfl
theorem od (k : Nat) (s : List UInt32) (l : List UInt8) : cV (k + 1) s l = hD (cV k s l) ((l.drop (64 * k)).take 64) := by
 rw [qo]; rfl
theorem vM (l : List UInt8) : iz l = (cV ((l ++ gO l.length).length / 64) shaFirst (l ++ gO l.length)).flatMap et := rfl
theorem tY : dI [] = shaFirst := rfl
theorem vT : dQ [] = [] := rfl
theorem ix (l : List UInt8) : (dI l).length = 8 := gE _ _ _ rfl
attribute [irreducible] eA dT gC hD cV iz dI dQ
def kh (k : List UInt8) (c : UInt8) : List UInt8 := (k ++ List.replicate (64 - k.length) 0).map (· ^^^ c)
def lB (k m : List UInt8) : List UInt8 := iz (kh k 0x5c ++ iz (kh k 0x36 ++ m))
def aV (k label : List UInt8) (n : Nat) : List UInt8 := lB k (label ++ be 4 n ++ [1])
theorem fb (k : List UInt8) (c : UInt8) (h : k.length ≤ 64) : (kh k c).length = 64 := by
 unfold kh; simp; omega
theorem cY (k m : List UInt8) : (lB k m).length = 32 := dA _
theorem dm (k l : List UInt8) (n : Nat) : (aV k l n).length = 32 := cY _ _
theorem AP (k m : List UInt8) : lB k m = iz (kh k 0x5c ++ iz (kh k 0x36 ++ m)) := rfl
theorem uZ (k label : List UInt8) (n : Nat) : aV k label n = lB k (label ++ be 4 n ++ [1]) := rfl
attribute [irreducible] lB aV
def ea (a b c d : UInt32) : UInt32 × UInt32 × UInt32 × UInt32 :=
 let a := a + b
 let d := sW (d ^^^ a) 16
 let c := c + d
 let b := sW (b ^^^ c) 12
 let a := a + b
 let d := sW (d ^^^ a) 8
 let c := c + d
 let b := sW (b ^^^ c) 7
 (a, b, c, d)
def fD (w : List UInt32) (a b c d : Nat) : List UInt32 :=
 let q := ea (w.getD a 0) (w.getD b 0) (w.getD c 0) (w.getD d 0)
 (((w.set a q.1).set b q.2.1).set c q.2.2.1).set d q.2.2.2
def kz (w : List UInt32) (n : Nat) : List UInt32 := (List.range n).foldl (fun w i => fD w i (i + 4) (i + 8) (i + 12)) w
def jB (w : List UInt32) (n : Nat) : List UInt32 := (List.range n).foldl (fun w i => fD w i (4 + (i + 1) % 4) (8 + (i + 2) % 4) (12 + (i + 3) % 4)) w
def ll (w : List UInt32) : List UInt32 := jB (kz w 4) 4
def gj (w : List UInt32) (n : Nat) : List UInt32 := (List.range n).foldl (fun w _ => ll w) w
def sL : List UInt32 := [0x61707865, 0x3320646e, 0x79622d32, 0x6b206574, 0, 0, 0, 0, 0, 0, 0, 0, 0, 0, 0, 0]
def iG (k : List UInt8) (n : Nat) : List UInt32 := (List.range n).foldl (fun w i => w.set (4 + i) (jy (k.drop (4 * i)))) sL
def j6 (w : List UInt32) (nonce : List UInt8) (n : Nat) : List UInt32 := (List.range n).foldl (fun w i => w.set (13 + i) (jy (nonce.drop (4 * i)))) w
def iF (k nonce : List UInt8) (counter : UInt32) : List UInt32 := j6 ((iG k 8).set 12 counter) nonce 3
def qF (was w : List UInt32) (n : Nat) : List UInt8 := (List.range n).flatMap fun i => eS (w.getD i 0 + was.getD i 0)
def iH (k nonce : List UInt8) (counter : UInt32) : List UInt8 := qF (iF k nonce counter) (gj (iF k nonce counter) 10) 16
def gy (k nonce : List UInt8) : Nat → UInt32 → List UInt8 → List UInt8
 | 0, _, _ => []
 | n + 1, c, b => jO (b.take 64) (iH k nonce c) ++ gy k nonce n (c + 1) (b.drop 64)
def jC (k nonce : List UInt8) (c : UInt32) (b : List UInt8) : List UInt8 := gy k nonce ((b.length + 63) / 64) c b
theorem jc (w : List UInt32) (a b c d : Nat) : (fD w a b c d).length = w.length := by simp [fD]
theorem qi (w : List UInt32) (n : Nat) : kz w (n + 1) = fD (kz w n) n (n + 4) (n + 8) (n + 12) := by
 unfold kz; rw [List.range_succ, List.foldl_append]; rfl
theorem o9 (w : List UInt32) (n : Nat) : jB w (n + 1) = fD (jB w n) n (4 + (n + 1) % 4) (8 + (n + 2) % 4) (12 + (n + 3) % 4) := by
 unfold jB; rw [List.range_succ, List.foldl_append]; rfl
theorem ml (w : List UInt32) (n : Nat) : gj w (n + 1) = ll (gj w n) := by
 unfold gj; rw [List.range_succ, List.foldl_append, List.foldl_cons, List.foldl_nil]
theorem o5 (k : List UInt8) (n : Nat) : iG k (n + 1) = (iG k n).set (4 + n) (jy (k.drop (4 * n))) := by
 unfold iG; rw [List.range_succ, List.foldl_append]; rfl
theorem o0 (w : List UInt32) (k : List UInt8) (n : Nat) : j6 w k (n + 1) = (j6 w k n).set (13 + n) (jy (k.drop (4 * n))) := by
 unfold j6; rw [List.range_succ, List.foldl_append]; rfl
theorem wQ (w : List UInt32) : kz w 0 = w := rfl
theorem uY (w : List UInt32) : jB w 0 = w := rfl
theorem sV (w : List UInt32) : gj w 0 = w := rfl
theorem uO (k : List UInt8) : iG k 0 = sL := rfl
theorem uN (w : List UInt32) (k : List UInt8) : j6 w k 0 = w := rfl
theorem mX (w : List UInt32) (n : Nat) : (kz w n).length = w.length := by
 induction n with
 | zero => rfl
 | succ n ih => rw [qi, jc, ih]
theorem ld (w : List UInt32) (n : Nat) : (jB w n).length = w.length := by
 induction n with
 | zero => rfl
 | succ n ih => rw [o9, jc, ih]
theorem vQ (w : List UInt32) : ll w = jB (kz w 4) 4 := rfl
theorem qC (w : List UInt32) : (ll w).length = w.length := by rw [ll, ld, mX]
theorem pE (w : List UInt32) (n : Nat) : (gj w n).length = w.length := by
 induction n with
 | zero => rfl
 | succ n ih => rw [ml, qC, ih]
theorem l9 (k : List UInt8) (n : Nat) : (iG k n).length = 16 := by
 induction n with
 | zero => rfl
 | succ n ih => rw [o5, List.length_set, ih]
theorem l8 (w : List UInt32) (k : List UInt8) (n : Nat) : (j6 w k n).length = w.length := by
 induction n with
 | zero => rfl
 | succ n ih => rw [o0, List.length_set, ih]
theorem wK (k nonce : List UInt8) (counter : UInt32) : iF k nonce counter = j6 ((iG k 8).set 12 counter) nonce 3 := rfl
theorem qI (k nonce : List UInt8) (c : UInt32) : (iF k nonce c).length = 16 := by rw [iF, l8, List.length_set, l9]
theorem rL (was w : List UInt32) (n : Nat) : qF was w (n + 1) = qF was w n ++ eS (w.getD n 0 + was.getD n 0) := by
 unfold qF; rw [List.range_succ, List.flatMap_append]; simp
theorem yF (was w : List UInt32) : qF was w 0 = [] := rfl
theorem nR (was w : List UInt32) (n : Nat) : (qF was w n).length = 4 * n := by
 induction n with
 | zero => rfl
 | succ n ih => rw [rL, List.length_append, ih]; simp [eS]; omega
theorem wT (k nonce : List UInt8) (c : UInt32) : iH k nonce c = qF (iF k nonce c) (gj (iF k nonce c) 10) 16 := rfl
theorem df (k nonce : List UInt8) (c : UInt32) : (iH k nonce c).length = 64 := nR _ _ _
theorem qM (k nonce : List UInt8) (n : Nat) (c : UInt32) (b : List UInt8) (h : b.length ≤ 64 * n) : (gy k nonce n c b).length = b.length := by
 induction n generalizing c b with
 | zero =>
  have : b = [] := List.eq_nil_of_length_eq_zero (by omega)
  subst this; rfl
 | succ n ih =>
  rw [gy, List.length_append, ih _ _ (by rw [List.length_drop]; omega), iO, df, List.length_take, List.length_drop]; omega
theorem lf (k nonce : List UInt8) (c : UInt32) (b : List UInt8) : (jC k nonce c b).length = b.length := qM _ _ _ _ _ (by omega)
theorem gQ (k nonce : List UInt8) (n : Nat) (c : UInt32) (b : List UInt8) : gy k nonce (n + 1) c b = jO (b.take 64) (iH k nonce c) ++ gy k nonce n (c + 1) (b.drop 64) := rfl
theorem ve (k nonce : List UInt8) (c : UInt32) (b : List UInt8) : gy k nonce 0 c b = [] := rfl
theorem lH (k nonce : List UInt8) (c : UInt32) (b : List UInt8) : jC k nonce c b = gy k nonce ((b.length + 63) / 64) c b := rfl
theorem qN (k nonce : List UInt8) (n : Nat) (c : UInt32) (b : List UInt8) (h : b.length ≤ 64 * n) : gy k nonce n c (gy k nonce n c b) = b := by
 induction n generalizing c b with
 | zero =>
  have : b = [] := List.eq_nil_of_length_eq_zero (by omega)
  subst this; rfl
 | succ n ih =>
  rw [gQ k nonce n c b]
  have hx : (jO (b.take 64) (iH k nonce c)).length = min 64 b.length := by rw [iO, df, List.length_take]; omega
  by_cases h64 : 64 ≤ b.length
  ·rw [gQ, List.take_left' (by omega), List.drop_left' (by omega), ih _ _ (by rw [List.length_drop]; omega), ri _ _ (by rw [List.length_take, df]; omega), List.take_append_drop]
  ·have hd : b.drop 64 = [] := List.drop_of_length_le (by omega)
   have hn : ∀ n c, gy k nonce n c [] = [] := by
    intro n
    induction n with
    | zero => intro c; rfl
    | succ n ih => intro c; rw [gQ]; simp [ih, jO]
   rw [hd, hn, List.append_nil, gQ, List.take_of_length_le (by omega), List.drop_of_length_le (by omega), hn, List.append_nil, List.take_of_length_le (by omega), ri _ _ (by rw [df]; omega)]
theorem qO (k nonce : List UInt8) (c : UInt32) (b : List UInt8) : jC k nonce c (jC k nonce c b) = b := by
 rw [lH, lf, lH]
 exact qN _ _ _ _ _ (by omega)
theorem sX (a b c d : UInt32) : ea a b c d =
 (let a := a + b
 let d := sW (d ^^^ a) 16
 let c := c + d
 let b := sW (b ^^^ c) 12
 let a := a + b
 let d := sW (d ^^^ a) 8
 let c := c + d
 let b := sW (b ^^^ c) 7
 (a, b, c, d)) := rfl
theorem qD (w : List UInt32) (a b c d : Nat) : fD w a b c d =
 (((w.set a (ea (w.getD a 0) (w.getD b 0) (w.getD c 0) (w.getD d 0)).1).set b (ea (w.getD a 0) (w.getD b 0) (w.getD c 0) (w.getD d 0)).2.1).set c (ea (w.getD a 0) (w.getD b 0) (w.getD c 0) (w.getD d 0)).2.2.1).set d (ea (w.getD a 0) (w.getD b 0) (w.getD c 0) (w.getD d 0)).2.2.2 := rfl
attribute [irreducible] ea fD kz jB ll gj iG j6 iF qF iH gy jC
def yi : List UInt8 := [109, 97, 99]
def tEnc : List UInt8 := [101, 110, 99]
def tWrap : List UInt8 := [119, 114, 97, 112]
def bX (page gen : Nat) : List UInt8 := be 4 page ++ be 8 gen
def qy (k nonce aad cipher : List UInt8) : List UInt8 := (lB (aV k yi 0) (be 8 aad.length ++ aad ++ nonce ++ cipher)).take 16
def eV (k nonce b : List UInt8) : List UInt8 := jC (aV k tEnc 0) nonce 1 b
def eH (k nonce aad plain : List UInt8) : List UInt8 := eV k nonce plain ++ qy k nonce aad (eV k nonce plain)
def lY (kek : List UInt8) (slot gen : Nat) (key : List UInt8) : List UInt8 := eH kek (bX slot gen) tWrap key
def l7 (k nonce aad b : List UInt8) : Prop := b.drop (b.length - 16) = qy k nonce aad (b.take (b.length - 16))
instance (k nonce aad b : List UInt8) : Decidable (l7 k nonce aad b) := inferInstanceAs (Decidable (_ = _))
theorem j3 (p g : Nat) : (bX p g).length = 12 := by simp [bX, aH]
theorem iQ (k nonce aad c : List UInt8) : (qy k nonce aad c).length = 16 := by simp [qy, cY]
theorem fe (k nonce b : List UInt8) : (eV k nonce b).length = b.length := lf _ _ _ _
theorem qP (k nonce b : List UInt8) : eV k nonce (eV k nonce b) = b := qO _ _ _ _
theorem fC (k nonce aad b : List UInt8) : (eH k nonce aad b).length = b.length + 16 := by simp [eH, fe, iQ]
theorem fA (k : List UInt8) (s g : Nat) (key : List UInt8) (h : key.length = 32) : (lY k s g key).length = 48 := by rw [lY, fC, h]
theorem A9 (k nonce aad c : List UInt8) : qy k nonce aad c = (lB (aV k yi 0) (be 8 aad.length ++ aad ++ nonce ++ c)).take 16 := rfl
theorem wO (k nonce b : List UInt8) : eV k nonce b = jC (aV k tEnc 0) nonce 1 b := rfl
theorem nh (k nonce aad plain : List UInt8) : eH k nonce aad plain = eV k nonce plain ++ qy k nonce aad (eV k nonce plain) := rfl
theorem wo (page gen : Nat) : bX page gen = be 4 page ++ be 8 gen := rfl
theorem yr (k nonce aad p : List UInt8) : l7 k nonce aad (eH k nonce aad p) := by
 have h : (eH k nonce aad p).length - 16 = (eV k nonce p).length := by rw [fC, fe]; omega
 unfold l7
 rw [h, nh, List.drop_left', List.take_left'] <;> rfl
theorem vN (k nonce aad p : List UInt8) : eV k nonce ((eH k nonce aad p).take ((eH k nonce aad p).length - 16)) = p := by
 have h : (eH k nonce aad p).length - 16 = (eV k nonce p).length := by rw [fC, fe]; omega
 rw [h, nh, List.take_left', qP]; rfl
attribute [irreducible] bX qy eV eH
theorem AN {α : Type} (f : α → α) (l : List α) (i : Nat) (d : α) (h : i < l.length) : ((l.take i).map f ++ l.drop i).set i (f (l.getD i d)) = (l.take (i + 1)).map f ++ l.drop (i + 1) := by
 have h1 : ((l.take i).map f).length = i := by simp; omega
 rw [List.set_append_right _ _ (by omega), h1, Nat.sub_self, List.drop_eq_getElem_cons h, List.set_cons_zero, List.take_succ_eq_append_getElem h, List.map_append]
 have : l.getD i d = l[i] := by rw [List.getD_eq_getElem?_getD, List.getElem?_eq_getElem h]; rfl
 rw [this]; simp
theorem map_at {α : Type} (f : α → α) (l : List α) (i : Nat) (d : α) (h : i < l.length) : ((l.take i).map f ++ l.drop i)[i]? = some (l.getD i d) := by
 have h1 : ((l.take i).map f).length = i := by simp; omega
 rw [List.getElem?_append_right (by omega), h1, Nat.sub_self, List.getElem?_drop, Nat.add_zero, List.getElem?_eq_getElem h]
 rw [List.getD_eq_getElem?_getD, List.getElem?_eq_getElem h]; rfl
end Go.Sac

end
section
namespace Go.Sac
open Go
def Blk (w : World) (b : Nat) (cs : List Value) : Prop := ∃ e, w.heap[b]? = some (.cells cs.toArray e (0, 0))
section
variable {w w' : World} {b : Nat} {cs : List Value} {S : List Nat}
theorem Blk.chg (h : Blk w b cs) (hm : Chg S w w') (hn : b ∉ S) : Blk w' b cs := by
 obtain ⟨e, h⟩ := h; exact ⟨e, hm.blk h hn⟩
theorem Blk.chg0 (h : Blk w b cs) (hm : Chg [] w w') : Blk w' b cs := h.chg hm (by simp)
theorem Blk.nb {c : Nat} (h : Blk w b cs) (hm : Chg [c] w w') (hn : b ≠ c) : Blk w' b cs := h.chg hm (by simpa using hn)
theorem Blk.heap (h : Blk w b cs) (hh : Hp w' w) : Blk w' b cs := h.chg0 (Chg.heap hh)
theorem Blk.lt (h : Blk w b cs) : b < w.heap.size := by
 obtain ⟨e, h⟩ := h; exact bD h
theorem Blk.c (h : Blk w b cs) {off : Nat} {v : Value} (hv : cs[off]? = some v) : w.cell? ⟨b, off, none⟩ = some v := by
 obtain ⟨e, h⟩ := h
 exact cell_of h (by simpa using hv)
theorem Blk.at (h : Blk w b cs) {off : Nat} {l : List Value} (hl : (cs.drop off).take l.length = l) : At w b off l := by
 obtain ⟨e, h⟩ := h
 exact At.of_blk' h (by simpa using hl)
theorem Arr.blk {α : Type} [Flat α] {l : List α} (h : Arr w b l) : Blk w b (aW l) := h
variable {P : Program} {E : Env} {ty t : TypeId} {x y : Operand}
theorem rJ (c : List Value) (off : Nat) (vs : List Value) (h : off + vs.length ≤ c.length) : eM c.toArray off vs = (spl c off vs).toArray := by
 apply Array.ext_getElem?
 intro j
 rw [fQ _ _ _ _ (by simpa using h)]
 simp only [spl, List.getElem?_toArray]
 by_cases h1 : j < off
 ·rw [if_neg (by omega), List.append_assoc, List.getElem?_append_left (by rw [List.length_take]; omega), List.getElem?_take, if_pos h1]
 ·by_cases h2 : j < off + vs.length
  ·rw [if_pos (by omega), List.getElem?_append_left (by rw [List.length_append, List.length_take]; omega), List.getElem?_append_right (by rw [List.length_take]; omega), List.length_take, Nat.min_eq_left (by omega)]
  ·rw [if_neg (by omega), List.getElem?_append_right (by rw [List.length_append, List.length_take]; omega), List.length_append, List.length_take, List.getElem?_drop, Nat.min_eq_left (by omega)]
   congr 1; omega
theorem cx {i : TypeInfo} {off : Nat} {v : Value} {l cs' : List Value} (hi : P.info? t = some i) (hx : ev E x = .pointer (some ⟨b, off, none⟩)) (hy : ev E y = v) (hb : Blk w b cs) (hv : v.cells.toList = l) (hs : i.size = l.length) (ho : off + l.length ≤ cs.length) (hc : ∀ q ∈ l, eb q = true) (hr : spl cs off l = cs') :
  ∃ w1, exec P E (.store t x y) ty w = .ok .skip w1 ∧ Blk w1 b cs' ∧ Chg [b] w w1 ∧ w1.heap.size = w.heap.size := by
 obtain ⟨e, hb⟩ := hb
 subst hv hr
 have hsz : v.cells.size = v.cells.toList.length := by simp
 have h1 := oy (ty := ty) hi hx hy (by rw [hsz, hs]) hb (by rw [hsz, List.size_toArray]; exact ho) (hQ _) hc
 refine ⟨_, h1, ⟨e, ?_⟩, Chg.set _ _ _, cR _ _ _⟩
 rw [di (bD hb), rJ _ _ _ ho]
theorem bz {i : TypeInfo} {off : Nat} {v : Value} {cs' : List Value} (hi : P.info? t = some i) (hx : ev E x = .pointer (some ⟨b, off, none⟩)) (hy : ev E y = v) (hb : Blk w b cs) (hv : v.cells.toList = [v]) (hs : i.size = 1) (ho : off < cs.length) (hc : eb v = true) (hr : spl cs off [v] = cs') :
  ∃ w1, exec P E (.store t x y) ty w = .ok .skip w1 ∧ Blk w1 b cs' ∧ Chg [b] w w1 ∧ w1.heap.size = w.heap.size :=
 cx hi hx hy hb hv hs (by simp only [List.length_singleton]; omega) (by simpa using hc) hr
theorem dh {i : TypeInfo} {z : Value} {l : List Value} (hi : P.info? t = some i) (hz : i.zero = some z) (hl : z.cells = l.toArray) :
  ∃ v w1, exec P E (.alloc t) ty w = .ok (.value v) w1 ∧ ∃ b, v = .pointer (some ⟨b, 0, none⟩) ∧ w.heap.size ≤ b ∧ Blk w1 b l ∧ Chg [] w w1 ∧ b < w1.heap.size :=
 ⟨_, _, sH hi hz, _, rfl, Nat.le_refl _, ⟨t, by rw [← hl]; exact ew _ _⟩, Chg.push _ _, by rw [eB]; omega⟩
theorem cj {v : Value} {l : List Value} (hx : ev E x = v) (hl : v.cells = l.toArray) :
  ∃ v w1, exec P E (.box t x) ty w = .ok (.value v) w1 ∧ ∃ b, v = .pointer (some ⟨b, 0, none⟩) ∧ w.heap.size ≤ b ∧ Blk w1 b l ∧ Chg [] w w1 ∧ b < w1.heap.size :=
 ⟨_, _, x_box hx, _, rfl, Nat.le_refl _, ⟨t, by rw [← hl]; exact ew _ _⟩, Chg.push _ _, by rw [eB]; omega⟩
theorem ef {place : Nat → Option (Nat × Nat)} {cs cs' : List Value} (h : cs = cs') : Instr.fill place cs.toArray [] = some cs'.toArray := by subst h; rfl
theorem bY {place : Nat → Option (Nat × Nat)} {cs l : List Value} {i off size : Nat} {v : Value} {rest : List (Nat × Value)} {r : Option (Array Value)} (hp : place i = some (off, size)) (hv : v.cells.toList = l) (hl : l.length = size) (ho : off + size ≤ cs.length)
  (h : Instr.fill place (spl cs off l).toArray rest = r) : Instr.fill place cs.toArray ((i, v) :: rest) = r := by
 subst hv
 have hsz : v.cells.size = size := by rw [← hl]; simp
 rw [sd hp hsz (by simpa using ho), rJ _ _ _ (by rw [hl]; exact ho), h]
theorem bM {fs : List Field} {i : TypeInfo} {z : Value} {ps : List (Nat × Operand)} {cs zs : List Value} (ht : P.underlying t = some (.struct fs.toArray)) (hi : P.info? t = some i) (hz : i.zero = some z) (hzs : z.cells = zs.toArray) (hfs : fs.all (fun f => (P.info? f.type).isSome) = true)
  (hf : Instr.fill ((fs.map fun f => (f.offset, P.cellsOf f.type)).toArray[·]?) zs.toArray (ps.map fun p => (p.1, ev E p.2)) = some cs.toArray) : exec P E (.build t ps.toArray) ty w = .ok (.value (.agg cs.toArray)) w := by
 refine zN ht hi hz hfs ?_
 rw [List.map_toArray, List.toList_toArray, hzs]
 exact hf
theorem In.nil {S : List Nat} {n l c : Nat} : In (.slice none l c) S n := fun b hb => by simp [aq] at hb
theorem sF {α : Type} [Flat α] (vs : List Value) (l : List α) {e : TypeId} {i : TypeInfo} {z : Value} {n : Nat} {ps : List (Nat × Operand)} (ht : P.underlying t = some (.slice e)) (hi : P.info? e = some i) (hz : i.zero = some z) (hsz : i.size = Flat.sz α) (hzs : z.cells.size = Flat.sz α)
  (hps : (ps.map fun p => (p.1, ev E p.2)) = vs.zipIdx.map fun x => (x.2, x.1)) (hv : vs.map (fun v => v.cells.toList) = l.map Flat.enc) (hn : l.length = n) (hb : n * Flat.sz α ≤ 16777216) :
  ∃ v' w', exec P E (.buildSlice t n ps.toArray) ty w = .ok (.value v') w' ∧ Own w' v' l ∧ Chg [] w w' ∧ In v' [] w.heap.size := by
 obtain ⟨v', h1, h2, h3⟩ := lV (ty := ty) (w := w) (ps := ps.toArray) vs l ht hi hz hsz hzs (by rw [List.map_toArray, List.toList_toArray]; exact hps) hv hn hb
 exact ⟨v', _, h1, h2, Chg.push _ _, h3⟩
theorem Own.form {α : Type} [Flat α] {w : World} {v : Value} {l : List α} (h : Own w v l) {n : Nat} (hn : l.length = n) : ∃ p c, v = .slice p n c := by
 obtain ⟨p, c, rfl, _⟩ := h; exact ⟨p, c, by rw [hn]⟩
theorem Sl.form {α : Type} [Flat α] {w : World} {v : Value} {l : List α} (h : Sl w v l) {n : Nat} (hn : l.length = n) : ∃ p c, v = .slice p n c := by
 obtain ⟨p, c, rfl, _⟩ := h; exact ⟨p, c, by rw [hn]⟩
theorem Sl.srcH {α : Type} [Flat α] {P : Program} {w w' : World} {v : Value} {l : List α} (h : Sl w v l) (hh : Hp w' w) : Src α P w' v l := (h.heap hh).src
theorem nblk {b a off l c : Nat} {sp : Option Nat} (h : b ≠ a) : b ∉ aq (.slice (some ⟨a, off, sp⟩) l c) := by
 simpa [aq] using h
theorem In.of_ge {a off l c n : Nat} {sp : Option Nat} {S : List Nat} (h : n ≤ a) : In (.slice (some ⟨a, off, sp⟩) l c) S n := fun b hb => by
 simp only [aq, List.mem_singleton] at hb; subst hb; exact .inr h
theorem bq {P : Program} {n : Nat} {Q : gb} {E : Env} {w : World} {c : Operand} {x y : Code} {p : Prop} [d : Decidable p] (hc : ev E c = .bool (decide p)) (hp : p) (h : wpE P n x Q E w) : wpE P n (.cond c x y) Q E w :=
 aC hc (fun _ => h) (fun h' => absurd hp h')
theorem aG {P : Program} {n : Nat} {Q : gb} {E : Env} {w : World} {c : Operand} {x y : Code} {p : Prop} [d : Decidable p] (hc : ev E c = .bool (decide p)) (hp : ¬ p) (h : wpE P n y Q E w) : wpE P n (.cond c x y) Q E w :=
 aC hc (fun h' => absurd h' hp) (fun _ => h)
theorem Appended.step {α : Type} [Flat α] {vx v' : Value} {l m : List α} {w w1 w2 : World} (h : Appended vx l m w1 v' w2) (hc : Chg [] w w1) (hi : In vx [] w.heap.size) : Own w2 v' (l ++ m) ∧ Chg [] w w2 ∧ In v' [] w.heap.size :=
 ⟨h.own, hc.t0 h.mod hi.ge, h.inn.mono (fun b hb => .inr (hi.ge b hb)) hc.1⟩
theorem Own.some {α : Type} [Flat α] {w : World} {v : Value} {l : List α} (h : Own w v l) {n : Nat} (hn : l.length = n) (hp : 0 < n) : ∃ b off c, v = .slice (.some ⟨b, off, none⟩) n c := by
 obtain ⟨p, c, rfl, _, h⟩ := h
 cases p with
 | none => obtain ⟨rfl, _⟩ := h; simp at hn; omega
 | some a =>
  obtain ⟨b, off, sp⟩ := a
  obtain ⟨h1, _⟩ := h
  simp only at h1; subst h1
  exact ⟨b, off, c, by rw [hn]⟩
theorem cg {P : Program} {E : Env} {op : Op} {ty : TypeId} {w : World} {v v' : Value} (h : exec P E op ty w = .ok (.value v) w) (hv : v = v') : exec P E op ty w = .ok (.value v') w := by rw [h, hv]
theorem nb1 {l : List Nat} {b : Nat} (h : b ∉ l) : ∀ x ∈ l, x ∉ [b] := fun x hx he => by
 simp only [List.mem_singleton] at he; subst he; exact h hx
theorem xu {a m m' r : List Value} {k : Nat} (h : m'.length = m.length) (hk : k = a.length) : spl (a ++ m ++ r) k m' = a ++ m' ++ r := by
 subst hk
 unfold spl
 rw [List.append_assoc a m r, List.take_left', h, ← List.append_assoc, ← List.length_append, List.drop_left']
 ·rfl
 ·rfl
end
theorem yl {m m' r : List Value} (h : m'.length = m.length) : spl (m ++ r) 0 m' = m' ++ r := by
 have := xu (a := []) (r := r) h rfl
 simpa using this
theorem Ad {a r : List Value} {x x' : Value} {k : Nat} (hk : k = a.length) : spl (a ++ x :: r) k [x'] = a ++ x' :: r := by
 have := xu (a := a) (m := [x]) (m' := [x']) (r := r) rfl hk
 simpa using this
theorem gY {α : Type} {a r m : List α} {k j : Nat} (hk : k = a.length) (hj : j = m.length) : spl (a ++ r) k m = a ++ m ++ r.drop j := by
 subst hk hj
 unfold spl
 rw [List.take_left', List.drop_append]
 ·congr 1; simp
 ·rfl
theorem Bh {a r : List Value} {k i : Nat} {v : Value} (hk : k = a.length + i) (h : r[i]? = some v) : (a ++ r)[k]? = some v := by
 subst hk
 rw [List.getElem?_append_right (by omega), Nat.add_sub_cancel_left]; exact h
theorem jm {a r : List Value} : ((a ++ r).drop 0).take a.length = a := by simp
theorem Own.clip {α : Type} [Flat α] {w : World} {p : Option Addr} {n c : Nat} {l : List α} (h : Own w (.slice p n c) l) : Own w (.slice p n n) l := by
 obtain ⟨p', cap, he, hlc, h⟩ := h
 simp only [Value.slice.injEq] at he
 obtain ⟨rfl, rfl, rfl⟩ := he
 refine ⟨p, l.length, rfl, Nat.le_refl _, ?_⟩
 cases p with
 | none => exact ⟨h.1, by rw [h.1]; rfl⟩
 | some a =>
  obtain ⟨h1, cs, e, fr, h2, h3, h4, h5⟩ := h
  refine ⟨h1, cs, e, fr, h2, h3, ?_, h5⟩
  have : l.length * Flat.sz α ≤ c * Flat.sz α := Nat.mul_le_mul_right _ hlc
  omega
section
variable {α : Type} [Flat α] {P : Program} {E : Env} {w : World} {ty t t' u : TypeId} {x lo hi mx : Operand}
theorem x_clip {e : TypeId} {i : TypeInfo} {p : Option Addr} {c : Nat} {l : List α} {k k' : IntKind} (ht : P.underlying t = some (.slice e)) (hi' : P.info? e = some i) (hx : ev E x = .slice p l.length c) (hs : Own w (.slice p l.length c) l) (hl : ev E hi = .int k l.length) (hm : ev E mx = .int k' l.length) (hc : l.length ≤ c) :
  ∃ v', (∀ w', exec P E (.slice t x none (some hi) (some mx)) ty w' = .ok (.value v') w') ∧ Own w v' l ∧ aq v' = aq (.slice p l.length c) := by
 refine ⟨_, fun w' => rl ht hi' hx hl hm (by omega) (by omega), ?_, ?_⟩
 ·have := hs.clip
  cases p with
  | none => simpa using this
  | some a =>
   obtain ⟨ab, ao, asp⟩ := a
   have h1 : asp = none := by
    obtain ⟨p', cap, he, hlc, h⟩ := id this
    simp only [Value.slice.injEq] at he
    obtain ⟨rfl, -, -⟩ := he
    exact h.1
   subst h1
   have hadd : (⟨ab, ao, none⟩ : Addr).add 0 = ⟨ab, ao, none⟩ := by rw [dt, Nat.add_zero]
   simpa [hadd] using this
 ·cases p with
  | none => simp [aq]
  | some a => rw [kP (p := some a) (l := l.length) (c := c) add_blk.symm]
theorem x_fromO (n : Nat) {e : TypeId} {i : TypeInfo} {v : Value} {l : List α} {k : IntKind} {j : Int} (ht : P.underlying t = some (.slice e)) (hi : P.info? e = some i) (hsz : i.size = Flat.sz α) (hs : Own w v l) (hx : ev E x = v) (hl : ev E lo = .int k j) (hn : j = n) (hj : n ≤ l.length) :
  ∃ v', (∀ w', exec P E (.slice t x (some lo) none none) ty w' = .ok (.value v') w') ∧ (∃ p c, v' = .slice p (l.length - n) c) ∧ Own w v' (l.drop n) ∧ aq v' = aq v := by
 subst hn
 obtain ⟨p, cap, rfl, hlc, h⟩ := id hs
 refine ⟨_, fun w' => lT ht hi hx hl (by omega), ⟨_, _, rfl⟩, ?_, ?_⟩
 ·have := hs.cut_lo (lo := n) hj
  rw [hsz]; simpa using this
 ·rw [kP (p := p) (l := l.length) (c := cap) add_blk.symm]
theorem oS {i : TypeInfo} {z : Value} (l0 : List α) (hi : P.info? t = some i) (hz : i.zero = some z) (hl : z.cells = (aW l0).toArray) :
  ∃ v w1, exec P E (.alloc t) ty w = .ok (.value v) w1 ∧ ∃ b, v = .pointer (some ⟨b, 0, none⟩) ∧ w.heap.size ≤ b ∧ Arr w1 b l0 ∧ Chg [] w w1 ∧ b < w1.heap.size :=
 ⟨_, _, sH hi hz, _, rfl, Nat.le_refl _, ⟨t, by rw [← hl]; exact ew _ _⟩, Chg.push _ _, by rw [eB]; omega⟩
theorem xm {y : Operand} {e : TypeId} {i : TypeInfo} {z : Value} {d : TypeDesc} {vx vy : Value} {l m : List α} (ht : P.underlying t = some (.slice e)) (ht' : P.underlying t' = some d) (hi : P.info? e = some i) (hd : d = .string ∨ ∃ e', d = .slice e')
  (hz : i.zero = some z) (hsz : i.size = Flat.sz α) (hzs : z.cells.size = Flat.sz α) (hby : i.bytes ≤ 1024) (hl : Own w vx l) (hm : Src α P w vy m) (hx : ev E x = vx) (hy : ev E y = vy) (hb : l.length + m.length ≤ 1073741824) :
  ∃ v' w', exec P E (.call { callee := .builtin .append, args := #[x, y], argTypes := #[t, t'] }) ty w = .ok (.value v') w' ∧ Appended vx l m w v' w' := oR ht ht' hd hi hz hsz hzs hby hx hy hl hm hb
theorem fy {a : Addr} {n c : Nat} {l : List UInt8} {e : TypeId} (ht : P.underlying t = some (.slice e)) (he : P.underlying e = some (.int .u8)) (hx : ev E x = .slice (some a) n c) (hs : Sl w (.slice (some a) n c) l) :
  ∃ w', exec P E (.convert t t x) ty w = .ok (.value (.slice (some a) n c)) w' ∧ Sl w' (.slice (some a) n c) l ∧ Chg [a.block] w w' ∧ w'.heap.size = w.heap.size := by
 obtain ⟨p, cap, heq, hlc, hp⟩ := hs
 simp only [Value.slice.injEq] at heq
 obtain ⟨rfl, rfl, rfl⟩ := heq
 obtain ⟨h1, cs, ee, fr, hb, hc⟩ := hp
 obtain ⟨ab, ao, asp⟩ := a
 simp only at h1 hb hc; subst h1
 have hsh : (shape ab).run P w = .ok (some (ee, cs.size)) w := by
  show Result.ok (w.shape? ab) _ = _
  unfold World.shape?; rw [hb]
 have hmk : (markStringish ⟨ab, ao, none⟩).run P w = .ok () (w.freeze ⟨ab, cs.size, none⟩ 1) := by
  unfold markStringish; rw [an hsh]; rfl
 refine ⟨w.freeze ⟨ab, cs.size, none⟩ 1, ?_, ?_, ?_, ?_⟩
 ·rw [tl, hx]
  refine aT ?_
  unfold convert
  rw [an (run_underlying ht w), an (run_underlying ht w)]
  simp only [beq_self_eq_true]
  rw [an (run_underlying he w)]
  simp only []
  rw [an hmk]; rfl
 ·refine ⟨_, _, rfl, hlc, rfl, cs, ee, if fr.1 == fr.2 then (cs.size, cs.size + 1) else (min fr.1 cs.size, max fr.2 (cs.size + 1)), ?_, hc⟩
  unfold World.freeze
  simp only [Nat.one_ne_zero, if_false]
  rw [Array.getElem?_modify, if_pos rfl, hb]
  obtain ⟨lo, hi⟩ := fr
  rfl
 ·refine ⟨?_, fun b' _ hn => ?_, rfl, rfl⟩
  ·simp [World.freeze]
  ·simp only [World.freeze, Nat.one_ne_zero, if_false]
   rw [Array.getElem?_modify, if_neg (by simpa [eq_comm] using hn)]
 ·simp [World.freeze]
theorem lQ (κ : Type) [Key κ] : ∃ v w', exec P E (.makeMap t none) ty w = .ok (.value v) w' ∧ ∃ r, v = .map (some r) ∧ w.heap.size ≤ r ∧ MapAt w' r ([] : List (κ × Value)) ∧ Chg [] w w' ∧ r < w'.heap.size :=
 ⟨_, _, y7, _, rfl, Nat.le_refl _, MapAt.new w, Chg.push _ _, by rw [eB]; omega⟩
theorem jr (k : Nat) {e : TypeId} {n b : Nat} {i : TypeInfo} {kd : IntKind} {j : Int} (ht : P.underlying t = some (.array n e)) (hi' : P.info? e = some i) (hx : ev E x = .pointer (some ⟨b, 0, none⟩)) (hl : ev E lo = .int kd j) (hj : j = k) (hk : k < n) :
  exec P E (.slice t x (some lo) none none) ty w = .ok (.value (.slice (some ⟨b, k * i.size, none⟩) (n - k) (n - k))) w := by
 subst hj
 have := zP (ty := ty) (w := w) ht hi' hx hl (by omega)
 rw [Int.toNat_natCast, if_neg (by omega), Nat.zero_add] at this
 exact this
theorem jq {y : Operand} {e : TypeId} {i : TypeInfo} {vx vy : Value} {l m : List α} (ht : P.underlying t = some (.slice e)) (hi : P.info? e = some i) (hsz : i.size = Flat.sz α) (ho : Own w vx l) (hm : Src α P w vy m) (hl : 0 < l.length) (hx : ev E x = vx) (hy : ev E y = vy) :
  ∃ w1, exec P E (.call { callee := .builtin .copy, args := #[x, y], argTypes := #[t, t'] }) ty w = .ok (.value (.int .i64 (min m.length l.length : Nat))) w1 ∧ Own w1 vx (spl l 0 (m.take (min m.length l.length))) ∧ Chg (aq vx) w w1 ∧ w1.heap.size = w.heap.size := by
 obtain ⟨p, cap, rfl, hlc, hp⟩ := ho
 cases p with
 | none => obtain ⟨rfl, _⟩ := hp; simp at hl
 | some a =>
  obtain ⟨b, off, sp⟩ := a
  obtain ⟨h1, c, ee, fr, h2, h3, h4, h5⟩ := hp
  simp only at h1 h2 h4 h5; subst h1
  have hroom : off + l.length * Flat.sz α ≤ c.size := by
   have : l.length * Flat.sz α ≤ cap * Flat.sz α := Nat.mul_le_mul_right _ hlc
   omega
  have hx' := vD (t' := t') (ty := ty) ht hi hsz hx hy hm h2 h3 hroom
  have hml : (m.take (min m.length l.length)).length = min m.length l.length := by rw [List.length_take]; omega
  have hsl : (spl l 0 (m.take (min m.length l.length))).length = l.length := spl_len (by rw [hml]; omega)
  have hel : (aW (m.take (min m.length l.length))).length ≤ l.length * Flat.sz α := by
   rw [aK, hml]; exact Nat.mul_le_mul_right _ (by omega)
  refine ⟨_, hx', ⟨some ⟨b, off, none⟩, cap, by rw [hsl], by rw [hsl]; exact hlc, rfl, _, ee, fr, di (bD h2), h3.size (bU _ _ _), by rw [bU]; exact h4, ?_⟩, (Chg.set _ _ _).mono (fun x hx _ => by simpa [aq] using hx), cR _ _ _⟩
  intro j z hj
  show (eM c off (aW (m.take (min m.length l.length))))[off + j]? = some z
  rw [fQ _ _ _ _ (by omega)]
  have hsp : aW (spl l 0 (m.take (min m.length l.length))) = aW (m.take (min m.length l.length)) ++ (aW l).drop ((aW (m.take (min m.length l.length))).length) := by
   rw [spl, List.take_zero, List.nil_append, cO, ← dJ, aK, Nat.zero_add]
  rw [hsp] at hj
  by_cases hlt : j < (aW (m.take (min m.length l.length))).length
  ·rw [List.getElem?_append_left hlt] at hj
   rw [if_pos (by omega), show off + j - off = j from by omega]; exact hj
  ·rw [List.getElem?_append_right (by omega), List.getElem?_drop] at hj
   rw [if_neg (by omega)]
   exact h5 j z (by rw [← hj]; congr 1; omega)
theorem x_mkF {f : FuncId} {c : Operand} {v : Value} (hc : ev E c = v) : exec P E (.makeFunc (.func f) #[] #[c]) ty w = .ok (.value (.func (.func f) #[] #[v])) w := by
 subst hc
 have h : exec P E (.makeFunc (.func f) #[] #[c]) ty w = (gL (Instr.makeFunc (.func f) ((#[] : Array Operand).map (ev E)) (#[c].map (ev E)))).run P w := rfl
 rw [h]
 simp only [List.map_toArray, List.map_cons, List.map_nil]
 rfl
theorem oL {b off : Nat} {l : List α} (n : Nat) {dd : TypeDesc} {i : TypeInfo} (ht : P.underlying t = some dd) (hd : fI dd = true) (hi : P.info? t = some i) (hs : i.size = n * Flat.sz α) (h : At w b off (aW l)) (hn : l.length = n) (hx : ev E x = .pointer (some ⟨b, off, none⟩)) :
  exec P E (.load t x) ty w = .ok (.value (bT l)) w := bP ht hd hi hx h (by rw [hs, aK, hn])
end
section
variable {κ : Type} [Key κ] {P : Program} {n : Nat} {ops : Array Oper} {Q : gb} {E : Env} {w : World} {rest : List Oper} {d : Option Nat} {ty : TypeId} {x : Operand} {pos : String} {af : Array Edge}
theorem tQ {q r : Nat} {m left : List (κ × Value)} (hd : dV d n = true) (h : IterAt w q r m left) (hx : ev E x = .pointer (some ⟨q, 0, none⟩))
  (h0 : left = [] → wpL P n ops Q rest (dD d (.tuple #[.bool false]) E) w)
  (h1 : ∀ a k v b w', left = a ++ (k, v) :: b → IterAt w' q r m (a ++ b) → CurAt w' q r k v → Chg [q] w w' → w'.heap.size = w.heap.size → wpL P n ops Q rest (dD d (.tuple #[.bool true, Key.enc k, v]) E) w') :
  wpL P n ops Q (⟨d, .next x false, ty, pos, af, none⟩ :: rest) E w := by
 rcases x_next (P := P) (ty := ty) hx h with ⟨k1, k2⟩ | ⟨a, k, v, b, w', k1, k2, k3, k4, k5, k6⟩
 ·exact a6 hd k2 (h0 k1)
 ·exact a6 hd k2 (h1 a k v b w' k1 k3 k4 k5 k6)
end
section
variable {α : Type} [Flat α] {P : Program} {n : Nat} {ops : Array Oper} {Q : gb} {E : Env} {w : World} {T : gr} {i : Nat} {p : Plan} {d : Option Nat} {ty t : TypeId} {x : Operand} {pos : String} {af : Array Edge} {g : Option (Nat × Bool)}
theorem lZ {dd : TypeDesc} {nf : TypeInfo} {b off : Nat} {l : List α} (k : Nat) (ho : ops[i]? = some ⟨d, .load t x, ty, pos, af, g⟩) (hd : dV d n = true) (hw : cz ops E ⟨d, .load t x, ty, pos, af, g⟩ = true) (ht : P.underlying t = some dd) (ha : fI dd = true) (hi : P.info? t = some nf)
  (hs : nf.size = k * Flat.sz α) (hc : At w b off (aW l)) (hn : l.length = k) (hx : ev E x = .pointer (some ⟨b, off, none⟩)) (h : wpP P n ops Q p ((i, fun w' => At w' b off (aW l)) :: T) (dD d (bT l) E) w) : wpP P n ops Q (.read i p) T E w :=
 dq ho hd hw (fun w' => At w' b off (aW l)) hc (fun _ h1 => oL k ht ha hi hs h1 hn hx) h
end
end Go.Sac

end
section
namespace Go.Sac
open Go
abbrev Sec := { l : List UInt8 // l.length = 64 }
instance : Flat Sec := ⟨64, fun s => aW s.1, fun s => by rw [aK, s.2]; rfl, fun s => eO s.1⟩
def sec0 : Sec := ⟨List.replicate 64 0, rfl⟩
instance : Inhabited Sec := ⟨sec0⟩
structure DSt where
 steps : Nat
 offAt : Nat
 kept : List Sec
 pend : List (Int × Sec)
def fM (m : List (Int × Sec)) : List (Int × Value) := m.map fun p => (p.1, bT p.2.1)
def DiskAt (w : World) (b : Nat) (kv : Value) (r : Nat) (s : DSt) : Prop :=
 Blk w b [.int .i64 s.steps, .int .i64 s.offAt, kv, .map (some r)] ∧ Own w kv s.kept ∧ MapAt w r (fM s.pend) ∧ b ≠ r ∧ b ∉ aq kv ∧ r ∉ aq kv
def DF (b : Nat) (kv : Value) (r : Nat) : List Nat := b :: r :: aq kv
theorem DiskAt.chg {w w' : World} {b r : Nat} {kv : Value} {s : DSt} {S : List Nat} (h : DiskAt w b kv r s) (hm : Chg S w w') (hn : ∀ x ∈ DF b kv r, x ∉ S) : DiskAt w' b kv r s := by
 obtain ⟨h1, h2, h3, h4⟩ := h
 exact ⟨h1.chg hm (hn b (by simp [DF])), h2.mod hm (fun x hx => hn x (by simp [DF, hx])), h3.mod hm (hn r (by simp [DF])), h4⟩
theorem DiskAt.chg0 {w w' : World} {b r : Nat} {kv : Value} {s : DSt} (h : DiskAt w b kv r s) (hm : Chg [] w w') : DiskAt w' b kv r s := h.chg hm (by simp)
theorem DiskAt.lt {w : World} {b r : Nat} {kv : Value} {s : DSt} (h : DiskAt w b kv r s) : ∀ x ∈ DF b kv r, x < w.heap.size := by
 obtain ⟨h1, h2, h3, h4⟩ := h
 intro x hx
 simp only [DF, List.mem_cons] at hx
 rcases hx with rfl | rfl | hx
 ·exact h1.lt
 ·exact h3.lt
 ·exact h2.sl.lt x hx
namespace DSt
def off (s : DSt) : Bool := decide (0 < s.offAt) && decide (s.offAt ≤ s.steps)
def step (s : DSt) : DSt := { s with steps := s.steps + 1 }
def is (s : DSt) (i : Int) : Bool := decide (0 ≤ i) && decide (i < s.kept.length)
def now (s : DSt) (i : Int) : Sec := (bW i s.pend).getD (s.kept.getD i.toNat sec0)
def putS (c : Sec) (b : List UInt8) : Sec := ⟨(b ++ c.1.drop b.length).take 64, by
 have := c.2
 rw [List.length_take, List.length_append, List.length_drop]; omega⟩
def write (s : DSt) (i : Int) (b : List UInt8) : DSt × Int :=
 if s.step.off then (s.step, 61)
 else if !s.is i || decide (64 < b.length) then (s.step, 60)
 else ({ s.step with pend := db i (putS (s.now i) b) s.pend }, 0)
def apply (k : List Sec) (m : List (Int × Sec)) : List Sec := k.mapIdx fun i c => (bW (i : Int) m).getD c
def flush (s : DSt) : DSt × Int :=
 if s.step.off then (s.step, 61) else ({ s.step with kept := apply s.kept s.pend, pend := [] }, 0)
def power (s : DSt) (n : Int) : DSt :=
 if s.off then s else if n ≤ 0 then { s with offAt := 0 } else { s with offAt := s.steps + (min n 1099511627776).toNat }
structure Fine (s : DSt) : Prop where
 steps : s.steps ≤ 1000000000000
 offAt : s.offAt ≤ 4000000000000
 keys : ∀ p ∈ s.pend, 0 ≤ p.1 ∧ p.1 < s.kept.length
 size : s.kept.length ≤ 4000
end DSt
theorem wx (i : Int) (m : List (Int × Sec)) : bW i (fM m) = (bW i m).map fun c => bT c.1 := by
 induction m with
 | nil => rfl
 | cons p m ih =>
  obtain ⟨k, c⟩ := p
  simp only [fM, List.map_cons, bW]
  by_cases h : i = k
  ·simp [h]
  ·simp only [h, if_false]; exact ih
theorem uA (i : Int) (c : Sec) (m : List (Int × Sec)) : db i (bT c.1) (fM m) = fM (db i c m) := by
 induction m with
 | nil => rfl
 | cons p m ih =>
  obtain ⟨k, c'⟩ := p
  simp only [fM, List.map_cons, db]
  by_cases h : i = k
  ·simp [h]
  ·simp only [h, if_false, List.map_cons]; exact congrArg _ ih
theorem lookP (i : Int) (m : List (Int × Sec)) : (Value.tuple #[(bW i (fM m)).getD (bT sec0.1), .bool (bW i (fM m)).isSome]) = .tuple #[bT ((bW i m).getD sec0).1, .bool (bW i m).isSome] := by
 rw [wx]
 cases bW i m <;> rfl
theorem u0 {α : Type} (l m : List α) : spl l 0 m = m ++ l.drop m.length := by simp [spl]
theorem kL (c : Sec) (b : List UInt8) (h : b.length ≤ 64) : (DSt.putS c b).1 = b ++ c.1.drop b.length := by
 have := c.2
 exact List.take_of_length_le (by rw [List.length_append, List.length_drop]; omega)
theorem tS (m : List (Int × Sec)) (a b : List (Int × Value)) (k : Int) (v : Value) (h : fM m = a ++ (k, v) :: b) : ∃ a' c b', m = a' ++ (k, c) :: b' ∧ v = bT c.1 ∧ a = fM a' ∧ b = fM b' := by
 unfold fM at h
 obtain ⟨a', m', rfl, ha, hm⟩ := List.map_eq_append_iff.1 h
 obtain ⟨p, b', rfl, hp, hb⟩ := List.map_eq_cons_iff.1 hm
 obtain ⟨k', c⟩ := p
 simp only [Prod.mk.injEq] at hp
 obtain ⟨rfl, rfl⟩ := hp
 exact ⟨a', c, b', rfl, rfl, ha.symm, hb.symm⟩
theorem sI (a b : List (Int × Sec)) : fM (a ++ b) = fM a ++ fM b := by simp [fM]
theorem vH (m : List (Int × Sec)) : (fM m).map (·.1) = m.map (·.1) := by simp [fM]
theorem ns {κ ν : Type} [DecidableEq κ] {k : κ} {m : List (κ × ν)} (h : k ∉ m.map (·.1)) : bW k m = none := by
 induction m with
 | nil => rfl
 | cons p m ih =>
  obtain ⟨x, u⟩ := p
  simp only [List.map_cons, List.mem_cons, not_or] at h
  simp only [bW, h.1, if_false]; exact ih h.2
theorem jf {κ ν : Type} [DecidableEq κ] {k : κ} {v : ν} {m : List (κ × ν)} (hn : (m.map (·.1)).Nodup) : bW k m = some v ↔ (k, v) ∈ m := by
 induction m with
 | nil => simp [bW]
 | cons p m ih =>
  obtain ⟨x, u⟩ := p
  simp only [List.map_cons, List.nodup_cons] at hn
  simp only [bW, List.mem_cons, Prod.mk.injEq]
  by_cases h : k = x
  ·subst h
   simp only [if_true, Option.some.injEq, true_and]
   constructor
   ·intro h; exact .inl h.symm
   ·rintro (h | h)
    ·exact h.symm
    ·exact absurd (List.mem_map.2 ⟨_, h, rfl⟩) hn.1
  ·simp only [h, if_false, false_and, false_or]; exact ih hn.2
theorem yM {κ ν : Type} [DecidableEq κ] {m m' : List (κ × ν)} (hp : m.Perm m') (hn : (m.map (·.1)).Nodup) (k : κ) : bW k m = bW k m' := by
 have hn' : (m'.map (·.1)).Nodup := (hp.map _).nodup_iff.1 hn
 cases h : bW k m with
 | none =>
  cases h' : bW k m' with
  | none => rfl
  | some v =>
   have := (jf hn').1 h'
   rw [(jf hn).2 (hp.mem_iff.2 this)] at h; cases h
 | some v =>
  have := (jf hn).1 h
  rw [(jf hn').2 (hp.mem_iff.1 this)]
theorem nW {κ ν : Type} [DecidableEq κ] (k : κ) (a b : List (κ × ν)) : bW k (a ++ b) = (bW k a).or (bW k b) := by
 induction a with
 | nil => rfl
 | cons p a ih =>
  obtain ⟨x, u⟩ := p
  simp only [List.cons_append, bW]
  by_cases h : k = x
  ·simp [h]
  ·simp only [h, if_false]; exact ih
theorem wX {m m' : List (Int × Sec)} (hp : m.Perm m') (hn : (m.map (·.1)).Nodup) (k : List Sec) : DSt.apply k m = DSt.apply k m' := by
 unfold DSt.apply; congr 1; funext i c; rw [yM hp hn]
theorem sw (k : List Sec) : DSt.apply k [] = k := by
 unfold DSt.apply
 apply List.ext_getElem?
 intro i
 rw [List.getElem?_mapIdx]
 cases k[i]? <;> rfl
theorem jE (k : List Sec) (m : List (Int × Sec)) : (DSt.apply k m).length = k.length := by simp [DSt.apply]
theorem qn (k : List Sec) (m : List (Int × Sec)) (i : Int) (c : Sec) (hi : 0 ≤ i) (hn : i ∉ m.map (·.1)) : DSt.apply k (m ++ [(i, c)]) = (DSt.apply k m).set i.toNat c := by
 apply List.ext_getElem?
 intro j
 unfold DSt.apply
 rw [List.getElem?_mapIdx, List.getElem?_set]
 by_cases hj : i.toNat = j
 ·subst hj
  rw [if_pos rfl, show ((i.toNat : Nat) : Int) = i from by omega]
  rw [nW, ns hn, List.length_mapIdx]
  by_cases hl : i.toNat < k.length
  ·rw [if_pos hl, List.getElem?_eq_getElem hl]; simp [bW]
  ·rw [if_neg hl, List.getElem?_eq_none (by omega)]; rfl
 ·rw [if_neg hj, List.getElem?_mapIdx]
  have : bW (j : Int) (m ++ [(i, c)]) = bW (j : Int) m := by
   rw [nW]
   have h2 : ¬ ((j : Int) = i) := by omega
   simp [bW, h2]
  rw [this]
def xq (c : UInt8) : Nat := if c = 255 then 64 else c.toNat % 64
theorem A7 (c : UInt8) : xq c ≤ 64 := by unfold xq; split <;> omega
def tornS (was now : Sec) (c : UInt8) : Sec := ⟨now.1.take (xq c) ++ was.1.drop (xq c), by
 have h1 := was.2
 have h2 := now.2
 have := A7 c
 rw [List.length_append, List.length_take, List.length_drop]; omega⟩
def imageOf (k : List Sec) : List UInt8 := k.flatMap (·.1)
theorem wq {ν : Type} (k : Int) (v : ν) (m : List (Int × ν)) : ∀ p ∈ db k v m, p.1 = k ∨ ∃ q ∈ m, q.1 = p.1 := by
 induction m with
 | nil => intro p hp; simp [db] at hp; subst hp; exact .inl rfl
 | cons q m ih =>
  obtain ⟨x, u⟩ := q
  intro p hp
  simp only [db] at hp
  by_cases h : k = x
  ·rw [if_pos h] at hp
   rcases List.mem_cons.1 hp with rfl | hp
   ·exact .inl h.symm
   ·exact .inr ⟨p, by simp [hp], rfl⟩
  ·rw [if_neg h] at hp
   rcases List.mem_cons.1 hp with rfl | hp
   ·exact .inr ⟨_, by simp, rfl⟩
   ·rcases ih p hp with h1 | ⟨q, hq, h1⟩
    ·exact .inl h1
    ·exact .inr ⟨q, by simp [hq], h1⟩
theorem DSt.Fine.write {s : DSt} (h : s.Fine) (hs : s.steps + 1 ≤ 1000000000000) (i : Int) (l : List UInt8) : (s.write i l).1.Fine := by
 obtain ⟨h1, h2, h3, h4⟩ := h
 have h0 : s.step.Fine := ⟨hs, h2, h3, h4⟩
 unfold DSt.write
 split
 ·exact h0
 ·split
  ·exact h0
  ·rename_i hi
   have his : s.is i = true := by simp at hi; exact hi.1
   have : 0 ≤ i ∧ i < s.kept.length := by simpa [DSt.is] using his
   refine ⟨hs, h2, fun p hp => ?_, h4⟩
   rcases wq _ _ _ p hp with h | ⟨q, hq, h⟩
   ·rw [h]; exact this
   ·rw [← h]; exact h3 q hq
theorem DSt.Fine.flush {s : DSt} (h : s.Fine) (hs : s.steps + 1 ≤ 1000000000000) : s.flush.1.Fine := by
 obtain ⟨h1, h2, h3, h4⟩ := h
 unfold DSt.flush
 split
 ·exact ⟨hs, h2, h3, h4⟩
 ·exact ⟨hs, h2, fun p hp => by simp at hp, by show (DSt.apply _ _).length ≤ 4000; rw [jE]; exact h4⟩
theorem DSt.write_steps (s : DSt) (i : Int) (l : List UInt8) : (s.write i l).1.steps = s.steps + 1 := by
 unfold DSt.write; split
 ·rfl
 ·split <;> rfl
theorem DSt.flush_steps (s : DSt) : s.flush.1.steps = s.steps + 1 := by unfold DSt.flush; split <;> rfl
theorem DSt.write_kept (s : DSt) (i : Int) (l : List UInt8) : (s.write i l).1.kept = s.kept := by
 unfold DSt.write; split
 ·rfl
 ·split <;> rfl
theorem DSt.flush_len (s : DSt) : s.flush.1.kept.length = s.kept.length := by
 unfold DSt.flush; split
 ·rfl
 ·exact jE _ _
theorem DSt.is_iff {s : DSt} {i : Int} : s.is i = true ↔ 0 ≤ i ∧ i < s.kept.length := by simp [DSt.is]
theorem DiskAt.turn {w w' : World} {b r : Nat} {kv : Value} {s s' : DSt} (h : DiskAt w b kv r s) (hb : Blk w' b [.int .i64 s'.steps, .int .i64 s'.offAt, kv, .map (some r)]) (hm : Chg [b] w w') (hk : s'.kept = s.kept) (hp : s'.pend = s.pend) : DiskAt w' b kv r s' := by
 obtain ⟨h1, h2, h3, h4, h5, h6⟩ := h
 exact ⟨hb, by rw [hk]; exact h2.mod hm (nb1 h5), by rw [hp]; exact h3.mod hm (by simpa using Ne.symm h4), h4, h5, h6⟩
theorem nH {b r : Nat} {kv : Value} {w w' : World} (h : Chg [b] w w') : Chg (DF b kv r) w w' := h.mono (fun x hx _ => by simp at hx; subst hx; simp [DF])
def Ae (l : List Int) : List Int := l.mergeSort (fun x y => decide (x ≤ y))
def kx (m : List (Int × Sec)) : List Int → List UInt8 → List Sec → List Sec
 | [], _, k => k
 | i :: is, ch, k => kx m is (ch.drop 1) (k.set i.toNat (tornS (k.getD i.toNat sec0) ((bW i m).getD sec0) (ch.headD 0)))
def DSt.crash (s : DSt) (ch : List UInt8) : DSt := ⟨s.steps, 0, kx s.pend (Ae (s.pend.map (·.1))) ch s.kept, []⟩
theorem lg (m : List (Int × Sec)) (is : List Int) (ch : List UInt8) (k : List Sec) : (kx m is ch k).length = k.length := by
 induction is generalizing ch k with
 | nil => rfl
 | cons i is ih => rw [kx, ih, List.length_set]
end Go.Sac

end
section
namespace Go.Sac
open Go Go.Maps Go.Proofs Go.Shelf
end Go.Sac

end
section
namespace Go.Sac
open Go
theorem drw (w : World) : Chg [] w { w with drawn := w.drawn + 1 } := Chg.heap rfl
theorem qw (z : Value) (n : Nat) : Builtin.zeroCells #[z] n = (List.replicate n z).toArray := by
 unfold Builtin.zeroCells
 apply Array.ext
 ·simp
 ·intro i h1 h2
  simp [Nat.mod_one]
section
variable {P : Program} {E : Env} {w : World} {ty t t' : TypeId} {x y : Operand}
theorem xl {α : Type} [Flat α] (vs : List Value) (l : List α) {e : TypeId} {i : TypeInfo} {z : Value} {n : Nat} {ps : List (Nat × Operand)} (ht : P.underlying t = some (.slice e)) (hi : P.info? e = some i) (hz : i.zero = some z) (hsz : i.size = Flat.sz α) (hzs : z.cells.size = Flat.sz α)
  (hps : (ps.map fun p => (p.1, ev E p.2)) = vs.zipIdx.map fun x => (x.2, x.1)) (hv : vs.map (fun v => v.cells.toList) = l.map Flat.enc) (hn : l.length = n) (hb : n * Flat.sz α ≤ 16777216) :
  ∃ v' w', exec P E (.buildSlice t n ps.toArray) ty w = .ok (.value v') w' ∧ (∃ p c, v' = .slice p n c) ∧ Own w' v' l ∧ Chg [] w w' ∧ In v' [] w.heap.size := by
 obtain ⟨v', w', h1, h2, h3, h4⟩ := sF (ty := ty) (w := w) vs l ht hi hz hsz hzs hps hv hn hb
 exact ⟨v', w', h1, h2.form hn, h2, h3, h4⟩
def SubOf (α : Type) [Flat α] (v v' : Value) (k n : Nat) : Prop := ∃ b off c, v = .slice (some ⟨b, off, none⟩) n c ∧ v' = .slice (some ⟨b, off + k * Flat.sz α, none⟩) (n - k) (c - k)
theorem fh {α : Type} [Flat α] (k : Nat) {lo : Operand} {e : TypeId} {i : TypeInfo} {v : Value} {l : List α} {kd : IntKind} {j : Int} (ht : P.underlying t = some (.slice e)) (hi : P.info? e = some i) (hsz : i.size = Flat.sz α) (ho : Own w v l) (hx : ev E x = v) (hl : ev E lo = .int kd j) (hj : j = k) (hk : k < l.length) :
  ∃ v', (∀ w', exec P E (.slice t x (some lo) none none) ty w' = .ok (.value v') w') ∧ SubOf α v v' k l.length := by
 subst hj
 obtain ⟨p, c, rfl, hlc, hp⟩ := ho
 cases p with
 | none => obtain ⟨rfl, _⟩ := hp; simp at hk
 | some a =>
  obtain ⟨b, off, sp⟩ := a
  obtain ⟨h1, _⟩ := hp
  simp only at h1; subst h1
  refine ⟨_, fun w' => lT ht hi hx hl (by omega), b, off, c, rfl, ?_⟩
  rw [Int.toNat_natCast, if_neg (by omega), hsz]
  simp only [Option.map_some, dt]
theorem cP {α : Type} [Flat α] {e : TypeId} {i : TypeInfo} {v v' vy : Value} {l m : List α} {k : Nat} (ht : P.underlying t = some (.slice e)) (hi : P.info? e = some i) (hsz : i.size = Flat.sz α) (ho : Own w v l) (hs : SubOf α v v' k l.length) (hk : k < l.length) (hm : Src α P w vy m) (hx : ev E x = v') (hy : ev E y = vy) :
  ∃ w1, exec P E (.call { callee := .builtin .copy, args := #[x, y], argTypes := #[t, t'] }) ty w = .ok (.value (.int .i64 (min m.length (l.length - k) : Nat))) w1 ∧ Own w1 v (spl l k (m.take (min m.length (l.length - k)))) ∧ Chg (aq v) w w1 ∧ w1.heap.size = w.heap.size := by
 obtain ⟨b, off, c, rfl, rfl⟩ := hs
 obtain ⟨p, cap, hpe, hlc, hp⟩ := ho
 simp only [Value.slice.injEq] at hpe
 obtain ⟨rfl, _, rfl⟩ := hpe
 obtain ⟨h1, cc, ee, fr, h2, h3, h4, h5⟩ := hp
 simp only at h1 h2 h4 h5
 have hlm : l.length * Flat.sz α ≤ c * Flat.sz α := Nat.mul_le_mul_right _ hlc
 have hkm : k * Flat.sz α + (l.length - k) * Flat.sz α = l.length * Flat.sz α := by rw [← Nat.add_mul]; congr 1; omega
 have hroom : off + k * Flat.sz α + (l.length - k) * Flat.sz α ≤ cc.size := by omega
 have hx' := vD (t' := t') (ty := ty) ht hi hsz hx hy hm h2 h3 hroom
 have hml : (m.take (min m.length (l.length - k))).length = min m.length (l.length - k) := by rw [List.length_take]; omega
 have hsl : (spl l k (m.take (min m.length (l.length - k)))).length = l.length := by
  unfold spl; simp only [List.length_append, List.length_take, List.length_drop]; omega
 have hel : (aW (m.take (min m.length (l.length - k)))).length ≤ (l.length - k) * Flat.sz α := by
  rw [aK, hml]; exact Nat.mul_le_mul_right _ (by omega)
 refine ⟨_, hx', ⟨some ⟨b, off, none⟩, c, by rw [hsl], by rw [hsl]; exact hlc, rfl, _, ee, fr, di (bD h2), h3.size (bU _ _ _), by rw [bU]; exact h4, ?_⟩, (Chg.set _ _ _).mono (fun x hx _ => by simpa [aq] using hx), cR _ _ _⟩
 intro j z hj
 show (eM cc (off + k * Flat.sz α) (aW (m.take (min m.length (l.length - k)))))[off + j]? = some z
 rw [fQ _ _ _ _ (by omega)]
 have hsp : aW (spl l k (m.take (min m.length (l.length - k)))) = (aW l).take (k * Flat.sz α) ++ (aW (m.take (min m.length (l.length - k))) ++ (aW l).drop ((k + (m.take (min m.length (l.length - k))).length) * Flat.sz α)) := by
  rw [spl, cO, cO, ← fc, ← dJ, List.append_assoc]
 have hkl : ((aW l).take (k * Flat.sz α)).length = k * Flat.sz α := by rw [List.length_take, aK]; exact Nat.min_eq_left (Nat.mul_le_mul_right _ (by omega))
 rw [hsp] at hj
 by_cases hlt : j < k * Flat.sz α
 ·rw [List.getElem?_append_left (by omega), List.getElem?_take, if_pos hlt] at hj
  rw [if_neg (by omega)]; exact h5 j z hj
 ·rw [List.getElem?_append_right (by omega), hkl] at hj
  by_cases hlt2 : j - k * Flat.sz α < (aW (m.take (min m.length (l.length - k)))).length
  ·rw [List.getElem?_append_left hlt2] at hj
   rw [if_pos (by omega), show off + j - (off + k * Flat.sz α) = j - k * Flat.sz α by omega]; exact hj
  ·rw [List.getElem?_append_right (by omega), List.getElem?_drop, aK] at hj
   rw [aK] at hlt2
   rw [if_neg (by rw [aK]; omega)]
   refine h5 j z ?_
   rw [← hj, Nat.add_mul]
   congr 1; omega
theorem kX {α : Type} [Flat α] (vs : List Value) (l : List α) {e : TypeId} {i : TypeInfo} {z : Value} {n : Nat} {ps : List (Nat × Operand)} (ht : P.underlying t = some (.slice e)) (hi : P.info? e = some i) (hz : i.zero = some z) (hsz : i.size = Flat.sz α) (hzs : z.cells.size = Flat.sz α)
  (hps : (ps.map fun p => (p.1, ev E p.2)) = vs.zipIdx.map fun x => (x.2, x.1)) (hv : vs.map (fun v => v.cells.toList) = l.map Flat.enc) (hn : l.length = n) (hb : n * Flat.sz α ≤ 16777216) (h0 : 0 < n) :
  ∃ v' w', exec P E (.buildSlice t n ps.toArray) ty w = .ok (.value v') w' ∧ (∃ b o c, v' = .slice (some ⟨b, o, none⟩) n c) ∧ Own w' v' l ∧ Chg [] w w' ∧ In v' [] w.heap.size := by
 obtain ⟨v', w', h1, h2, h3, h4⟩ := sF (ty := ty) (w := w) vs l ht hi hz hsz hzs hps hv hn hb
 exact ⟨v', w', h1, h2.some hn h0, h2, h3, h4⟩
theorem iZ {d : TypeId} {a : List UInt8} (hx : ev E x = str a) (ht : P.underlying d = some .string) : exec P E (.call { callee := .builtin .len, args := #[x], argTypes := #[d] }) ty w = .ok (.value (.int .i64 a.length)) w := by
 rw [yb hx ht]; simp [ByteArray.size]
theorem rk {u : TypeId} {a b : List UInt8} (hx : ev E x = str a) (hy : ev E y = str b) : exec P E (.binOp .eql t x y u) ty w = .ok (.value (.bool (decide (a = b)))) w := by
 rw [x_streq hx hy]
 congr 3
 simp only [ByteArray.toList_eq]
 rw [Bool.eq_iff_iff]; simp
theorem tI {u : TypeId} {a b : List UInt8} (hx : ev E x = str a) (hy : ev E y = str b) : exec P E (.binOp .neq t x y u) ty w = .ok (.value (.bool (decide (a ≠ b)))) w := by
 rw [x_strne hx hy]
 congr 3
 simp only [ByteArray.toList_eq]
 rw [Bool.eq_iff_iff]; simp
theorem zQ {e : TypeId} {i : TypeInfo} {k : IntKind} {vx : Value} {l : List UInt8} {j : Int} (m : Nat) (ht : P.underlying t = some (.slice e)) (ht' : P.underlying t' = some (.int k)) (hi : P.info? e = some i) (hz : i.zero = some (.int .u8 0)) (hsz : i.size = 1)
  (hby : i.bytes ≤ 1024) (hl : Own w vx l) (hx : ev E x = vx) (hy : ev E y = .int .i64 j) (hj : j = m) (hb : l.length + m ≤ 1073741824) :
  ∃ v' w', exec P E (.call { callee := .builtin .append, args := #[x, y], argTypes := #[t, t'] }) ty w = .ok (.value v') w' ∧ Appended vx l (List.replicate m (0 : UInt8)) w v' w' := by
 subst hj
 obtain ⟨p, cap, rfl, hlc, hp⟩ := hl
 have hown : Own w (.slice p l.length cap) l := ⟨p, cap, rfl, hlc, hp⟩
 have hzc : (Value.int .u8 0).cells = #[Value.int .u8 0] := rfl
 have henc : ∀ n, aW (List.replicate n (0 : UInt8)) = List.replicate n (.int .u8 0) := fun n => by
  rw [mT, List.map_replicate]; rfl
 have key : ∃ v' w', (Builtin.append_ #[t, t'] ty #[.slice p l.length cap, .int .i64 m]).run P w = .ok v' w' ∧ Appended (.slice p l.length cap) l (List.replicate m (0 : UInt8)) w v' w' := by
  unfold Builtin.append_
  simp only [List.getElem?_toArray, List.getElem?_cons_zero, List.getElem?_cons_succ]
  rw [an (run_underlying ht w)]
  simp only []
  rw [an (bA hi w)]
  rw [an (run_underlying ht' w)]
  have happ : ∀ w' : World, (if m * i.size = 0 then (pure #[] : Sem (Array Value)) else do pure (Builtin.zeroCells (← zeroValue e).cells m)).run P w' = .ok (aW (List.replicate m (0 : UInt8))).toArray w' := fun w' => by
   rw [hsz, Nat.mul_one]
   by_cases h0 : m = 0
   ·rw [if_pos h0, h0]; rfl
   ·rw [if_neg h0, an (cA hi hz w'), hzc, qw, henc]; rfl
  simp only [pure_bind, bind_assoc, if_true, Bool.not_true, Bool.false_eq_true, if_false]
  have ha : (asInt (.int .i64 (m : Int))).run P w = .ok (m : Int) w := rfl
  rw [an ha, gJ (by omega)]
  rw [if_neg (by omega)]
  rw [an (cH hi w)]
  have hnb0 : ¬ ((m : Int) * (i.bytes : Int) > 2 ^ 48) := by
   have : m * i.bytes ≤ 1073741824 * 1024 := Nat.mul_le_mul (by omega) hby
   have h2 : ((m * i.bytes : Nat) : Int) ≤ 1073741824 * 1024 := by omega
   rw [Int.natCast_mul] at h2
   omega
  rw [if_neg hnb0]
  simp only [pure_bind, Int.toNat_natCast]
  by_cases hc : l.length + m ≤ cap
  ·rw [if_pos hc]
   rw [an (happ w)]
   cases p with
   | none =>
    obtain ⟨rfl, rfl⟩ := hp
    have hm0 : m = 0 := by simpa using hc
    subst hm0
    exact ⟨_, w, rfl, ⟨none, 0, rfl, Nat.zero_le _, rfl, rfl⟩, Chg.refl' _ _, by intro b hb; simp [aq] at hb⟩
   | some a =>
    obtain ⟨b, off, sp⟩ := a
    obtain ⟨h1, c, ee, fr, h2, h3, h4, h5⟩ := hp
    simp only at h1 h2 h4 h5; subst h1
    have hz1 : Flat.sz UInt8 = 1 := rfl
    rw [hz1, Nat.mul_one] at h4
    have hlen : (aW (List.replicate m (0 : UInt8))).length = m := by rw [henc, List.length_replicate]
    have hll : (aW l).length = l.length := by rw [aK, hz1, Nat.mul_one]
    have hroom : off + l.length + (aW (List.replicate m (0 : UInt8))).length ≤ c.size := by omega
    simp only [dt, hsz, Nat.mul_one]
    rw [an (dL _ h2 (by simpa using hroom) h3 (by simpa using eO _))]
    refine ⟨_, _, rfl, ⟨some ⟨b, off, none⟩, cap, by rw [List.length_append, List.length_replicate], by simpa using hc, rfl, _, ee, fr, di (bD h2), h3.size (bU _ _ _), by rw [bU, hz1, Nat.mul_one]; exact h4, ?_⟩, ?_, ?_⟩
    ·intro k q hk
     rw [cO] at hk
     simp only at hk ⊢
     by_cases hkl : k < (aW l).length
     ·rw [List.getElem?_append_left hkl] at hk
      exact mq (by simpa using hroom) (h5 k q hk) (by omega)
     ·rw [List.getElem?_append_right (by omega)] at hk
      have := pK (c := c) (off := off + l.length) (vs := (aW (List.replicate m (0 : UInt8))).toArray.toList) (by simpa using hroom) (by simpa using hk)
      rw [show off + l.length + (k - (aW l).length) = off + k from by omega] at this
      exact this
    ·exact (Chg.set _ _ _).mono (fun b hb _ => by simpa [aq] using hb)
    ·intro b hb; left; simpa [aq] using hb
  ·rw [if_neg hc]
   have hov : ¬ ((l.length + m : Nat) : Int) > IntKind.i64.max := by
    have : IntKind.i64.max = 9223372036854775807 := by decide
    omega
   rw [an (cH hi w), if_neg (by intro h; exact absurd h.1 hov), an (cH hi w)]
   have hnc := lz (l.length + m) cap (by omega)
   have hnb : ¬ Builtin.nextslicecap (l.length + m) cap * i.bytes > 2 ^ 48 := by
    have : Builtin.nextslicecap (l.length + m) cap * i.bytes ≤ (4 * 1073741824 + 2000) * 1024 := Nat.mul_le_mul (by omega) hby
    omega
   rw [if_neg hnb]
   obtain ⟨nc, hnc1, hch⟩ := jt (P := P) (w := w) (need := l.length + m) (cap := cap) (e := e)
   rw [an hch]
   rw [an (cH hi _), an iT]
   have hf1 := ((hown.sl.heap (w' := { w with drawn := w.drawn + 1 }) rfl).first (P := P) l.length (Nat.le_refl _))
   rw [List.take_length] at hf1
   rw [hsz]
   have h1 : Flat.sz UInt8 = 1 := rfl
   rw [h1] at hf1
   rw [an hf1]
   have happ' := happ { w with drawn := w.drawn + 1 }
   rw [hsz] at happ'
   rw [an happ', an (cA hi hz _)]
   refine ⟨.slice (some ⟨w.heap.size, 0, none⟩) (l ++ List.replicate m (0 : UInt8)).length nc, _, ?_, mA (w := { w with drawn := w.drawn + 1 }) (l := l ++ List.replicate m (0 : UInt8)) (e := e) (rest := Builtin.zeroCells (Value.int .u8 0).cells (nc - (l.length + m))) (cap := nc) (by simpa using hnc1) ?_, ?_, ?_⟩
   ·rw [List.length_append, List.length_replicate, cO]
    simp only [← List.append_toArray]
    rfl
   ·rw [ij, List.length_append, List.length_replicate]; rfl
   ·exact (Chg.push { w with drawn := w.drawn + 1 } _).mono (by simp)
   ·intro b hb; right; simp only [aq, List.mem_singleton] at hb; omega
 obtain ⟨v', w', h1, h2⟩ := key
 refine ⟨v', w', ?_, h2⟩
 rw [mV, hx, hy]
 exact aT h1
end
end Go.Sac

end
section
namespace Go.Sac
open Go
abbrev W48 := { l : List UInt8 // l.length = 48 }
def w48z : W48 := ⟨List.replicate 48 0, rfl⟩
structure Slt where
 w : W48
 gen : UInt64
def slt0 : Slt := ⟨w48z, 0⟩
def vSlt (x : Slt) : Value := .agg (aW x.w.1 ++ [Value.int .u64 x.gen.toNat]).toArray
structure SSt where
 full : List (Int × Slt)
 puts : UInt64
 dead : Bool
def vFull (m : List (Int × Slt)) : List (Int × Value) := m.map fun p => (p.1, vSlt p.2)
def SlotAt (w : World) (sb fr b : Nat) (s : SSt) : Prop :=
 Blk w sb [.pointer (some ⟨b, 0, none⟩), .map (some fr), .int .u64 s.puts.toNat, .bool s.dead] ∧ MapAt w fr (vFull s.full) ∧ sb ≠ fr
theorem SlotAt.chg {w w' : World} {sb fr b : Nat} {s : SSt} {S : List Nat} (h : SlotAt w sb fr b s) (hm : Chg S w w') (h1 : sb ∉ S) (h2 : fr ∉ S) : SlotAt w' sb fr b s :=
 ⟨h.1.chg hm h1, h.2.1.mod hm h2, h.2.2⟩
theorem SlotAt.chg0 {w w' : World} {sb fr b : Nat} {s : SSt} (h : SlotAt w sb fr b s) (hm : Chg [] w w') : SlotAt w' sb fr b s := h.chg hm (by simp) (by simp)
def dB (n : Nat) (w : List UInt8) : List UInt8 := be 8 n ++ w ++ be 8 n
def vI (l : List UInt8) : UInt64 := UInt64.ofNat (cI (l.take 8))
def A0 (l : List UInt8) : UInt64 := UInt64.ofNat (cI (((l.drop 8).drop 48).take 8))
def yf (l : List UInt8) : W48 := ⟨((l.drop 8).take 48 ++ List.replicate 48 0).take 48, by simp⟩
def cW (l : List UInt8) : UInt64 × W48 := if A0 l = vI l then (vI l, yf l) else (0, w48z)
def jd (l : List UInt8) : List UInt8 := l ++ List.replicate (64 - l.length) 0
theorem fx (n : Nat) (w : List UInt8) : (dB n w).length = 16 + w.length := by simp [dB, aH]; omega
theorem jx (l : List UInt8) (h : l.length ≤ 64) : (jd l).length = 64 := by simp [jd]; omega
theorem unfW_eq (l : List UInt8) (h : l.length = 64) : (yf l).1 = (l.drop 8).take 48 := by
 unfold yf
 exact List.take_left' (by rw [List.length_take, List.length_drop]; omega)
def wrD (ds : DSt) (i : Int) (l : List UInt8) : DSt × Int := if (ds.write i (jd l)).2 = 0 then (ds.write i (jd l)).1.flush else ds.write i (jd l)
def SSt.died (s : SSt) (e : Int) : SSt := { s with dead := s.dead || decide (e = 61) }
def cntD (ds : DSt) (n : UInt64) : DSt × Int := wrD ds (24 + ((n % 2).toNat : Int)) (dB n.toNat w48z.1)
def lF (i : Int) : Bool := decide (0 ≤ i) && decide (i < 24)
def mkW : Nat → Nat → DSt → DSt × Int
 | 0, _, ds => (ds, 0)
 | k + 1, i, ds => if (ds.write i (List.replicate 64 0)).2 = 0 then mkW k (i + 1) (ds.write i (List.replicate 64 0)).1 else ds.write i (List.replicate 64 0)
def makeD (ds : DSt) : DSt × Int :=
 if ds.kept.length < 64 then (ds, 70)
 else if (mkW 26 0 ds).2 = 0 then (mkW 26 0 ds).1.flush else mkW 26 0 ds
def ss0 : SSt := ⟨[], 0, false⟩
def vJ (a b : UInt64) : UInt64 := if a.toNat ≤ b.toNat then b else a
def SSt.reads (s : SSt) (i : Int) (l : List UInt8) : SSt :=
 { s with puts := vJ s.puts (cW l).1, full := if i < 24 ∧ 0 < (cW l).1 then db i ⟨(cW l).2, (cW l).1⟩ s.full else s.full }
def jM (ds : DSt) (n : Nat) : SSt := (List.range n).foldl (fun (s : SSt) (i : Nat) => s.reads (i : Int) (ds.now (i : Int)).1) ss0
def As (ds : DSt) (s : SSt) (i : Int) (kek key : List UInt8) (hk : key.length = 32) : DSt × SSt × Int :=
 if s.dead then (ds, s, 260)
 else if lF i then
  let c := cntD ds (s.puts + 1)
  if c.2 = 0 then
   let s1 : SSt := { s.died c.2 with puts := s.puts + 1 }
   let x : Slt := ⟨⟨lY kek i.toNat (s.puts + 1).toNat key, fA _ _ _ _ hk⟩, s.puts + 1⟩
   let d := wrD c.1 i (dB x.gen.toNat x.w.1)
   if d.2 = 0 then (d.1, { s1.died d.2 with full := db i x s1.full }, 0) else (d.1, s1.died d.2, d.2)
  else (c.1, s.died c.2, c.2)
 else (ds, s, 70)
def qe (ds : DSt) (s : SSt) (i : Int) : DSt × SSt × Int :=
 if s.dead then (ds, s, 260)
 else if lF i then
  let d := wrD ds i []
  if d.2 = 0 then (d.1, { s.died d.2 with full := iD i s.full }, 0) else (d.1, s.died d.2, d.2)
 else (ds, s, 70)
def getS (s : SSt) (i : Int) (kek : List UInt8) : List UInt8 × Int :=
 if lF i then
  match bW i s.full with
  | none => (List.replicate 32 0, 120)
  | some x => if l7 kek (bX i.toNat x.gen.toNat) tWrap x.w.1 then (eV kek (bX i.toNat x.gen.toNat) (x.w.1.take 32), 0) else (List.replicate 32 0, 50)
 else (List.replicate 32 0, 70)
def usedS (s : SSt) (n : Nat) : List Int := ((List.range n).map fun (i : Nat) => (i : Int)).filter fun i => (bW i s.full).isSome
def freeS (s : SSt) : Nat → Nat → Int
 | 0, _ => -1
 | k + 1, i => if (bW (i : Int) s.full).isSome then freeS s k (i + 1) else i
theorem max_u64 (a b : UInt64) : max (a.toNat : Int) (b.toNat : Int) = ((vJ a b).toNat : Int) := by
 unfold vJ; split <;> omega
def sltC (x : Slt) : List Value := aW x.w.1 ++ [Value.int .u64 x.gen.toNat]
theorem wrD_pos {ds : DSt} {i : Int} {l : List UInt8} (h : (ds.write i (jd l)).2 = 0) : wrD ds i l = (ds.write i (jd l)).1.flush := by unfold wrD; rw [if_pos h]
theorem lu (ds : DSt) (n : Nat) : jM ds (n + 1) = (jM ds n).reads n (ds.now n).1 := by
 unfold jM; rw [List.range_succ, List.foldl_append]; rfl
theorem lr (ds : DSt) : jM ds 0 = ss0 := rfl
def RunD (w0 w : World) (b : Nat) (kv : Value) (r : Nat) (ds : DSt) : Prop := DiskAt w b kv r ds ∧ Chg [] w0 w ∧ ∀ x ∈ DF b kv r, w0.heap.size ≤ x
def RunS (w0 w : World) (sb fr b : Nat) (kv : Value) (r : Nat) (s : SSt) : Prop := SlotAt w sb fr b s ∧ (sb ∉ DF b kv r ∧ fr ∉ DF b kv r) ∧ w0.heap.size ≤ sb ∧ w0.heap.size ≤ fr
theorem RunD.chg0 {w0 w w' : World} {b r : Nat} {kv : Value} {ds : DSt} (h : RunD w0 w b kv r ds) (hm : Chg [] w w') : RunD w0 w' b kv r ds := ⟨h.1.chg0 hm, h.2.1.tr hm, h.2.2⟩
theorem RunS.chg0 {w0 w w' : World} {sb fr b r : Nat} {kv : Value} {s : SSt} (h : RunS w0 w sb fr b kv r s) (hm : Chg [] w w') : RunS w0 w' sb fr b kv r s := ⟨h.1.chg0 hm, h.2⟩
attribute [irreducible] cW jM wrD mkW makeD
end Go.Sac

end
section
namespace Go.Sac
open Go
abbrev PgF := UInt32 → Bool
def j4 : PgF := fun _ => false
def tt (g : Nat → Bool) : UInt8 := UInt8.ofNat ((List.range 8).foldl (fun n k => n ||| (g k).toNat <<< k) 0)
theorem wS (g : Nat → Bool) (k : Nat) (hk : k < 8) : (tt g).toNat.testBit k = g k := by
 have h : ∀ b0 b1 b2 b3 b4 b5 b6 b7 : Bool, ∀ k : Fin 8, (UInt8.ofNat (0 ||| b0.toNat <<< 0 ||| b1.toNat <<< 1 ||| b2.toNat <<< 2 ||| b3.toNat <<< 3 ||| b4.toNat <<< 4 ||| b5.toNat <<< 5 ||| b6.toNat <<< 6 ||| b7.toNat <<< 7)).toNat.testBit k = [b0, b1, b2, b3, b4, b5, b6, b7].getD k false := by decide +kernel
 have := h (g 0) (g 1) (g 2) (g 3) (g 4) (g 5) (g 6) (g 7) ⟨k, hk⟩
 unfold tt
 simp only [List.range, List.range.loop, List.foldl]
 rw [this]
 rcases k with _ | _ | _ | _ | _ | _ | _ | _ | k <;> first | rfl | omega
theorem Be {a b : UInt8} (h : ∀ k, k < 8 → a.toNat.testBit k = b.toNat.testBit k) : a = b := by
 apply UInt8.toNat_inj.1
 apply Nat.eq_of_testBit_eq
 intro k
 by_cases hk : k < 8
 ·exact h k hk
 ·have ha := a.toNat_lt
  have hb := b.toNat_lt
  have h2 : 2 ^ 8 ≤ 2 ^ k := Nat.pow_le_pow_right (by omega) (by omega)
  rw [Nat.testBit_lt_two_pow (by omega), Nat.testBit_lt_two_pow (by omega)]
def dx (f : PgF) : List UInt8 := (List.range 50).map fun i => tt fun k => f (UInt32.ofNat (8 * i + k))
def gn (l : List UInt8) (k : Nat) : Bool := (l.getD (k / 8) 0).toNat.testBit (k % 8)
def pR (l : List UInt8) : PgF := fun k => decide (k.toNat < 400) && gn l k.toNat
theorem dS (f : PgF) : (dx f).length = 50 := by simp [dx]
theorem wz (f : PgF) (i : Nat) (h : i < 50) : (dx f).getD i 0 = tt fun k => f (UInt32.ofNat (8 * i + k)) := by
 unfold dx
 rw [List.getD_eq_getElem?_getD, List.getElem?_map, List.getElem?_range h]; rfl
theorem pV (f : PgF) (k : Nat) (h : k < 400) : gn (dx f) k = f (UInt32.ofNat k) := by
 unfold gn
 rw [wz f _ (by omega), wS _ _ (by omega)]
 congr 2
 omega
theorem wU {f : PgF} {l : List UInt8} (hl : l.length = 50) (h : ∀ k, k < 400 → gn l k = f (UInt32.ofNat k)) : l = dx f := by
 apply List.ext_getElem?
 intro i
 by_cases hi : i < 50
 ·have h1 : l[i]? = some (l.getD i 0) := by rw [List.getD_eq_getElem?_getD, List.getElem?_eq_getElem (by omega)]; rfl
  have h2 : (dx f)[i]? = some ((dx f).getD i 0) := by rw [List.getD_eq_getElem?_getD, List.getElem?_eq_getElem (by rw [dS]; exact hi)]; rfl
  rw [h1, h2]
  congr 1
  apply Be
  intro k hk
  have q1 := h (8 * i + k) (by omega)
  have q2 := pV f (8 * i + k) (by omega)
  rw [← q2] at q1
  unfold gn at q1
  rw [show (8 * i + k) / 8 = i by omega, show (8 * i + k) % 8 = k by omega] at q1
  exact q1
 ·rw [List.getElem?_eq_none (by omega), List.getElem?_eq_none (by rw [dS]; omega)]
theorem nQ {f : PgF} (h : ∀ k, f k = true → k.toNat < 400) : pR (dx f) = f := by
 funext k
 unfold pR
 by_cases hk : k.toNat < 400
 ·rw [decide_eq_true hk, Bool.true_and, pV f _ hk, UInt32.ofNat_toNat]
 ·rw [decide_eq_false hk, Bool.false_and]
  cases hf : f k with
  | false => rfl
  | true => exact absurd (h k hf) hk
structure Sup where
 root : UInt32
 txt : List UInt8
 used : PgF
 written : PgF
 commit : UInt64
 epoch : UInt32
def vK : List UInt8 := [115, 117, 112, 101, 114]
def aZ : List UInt8 := [112, 97, 103, 101]
def iS (k b : List UInt8) : List UInt8 := lB (aV k vK 0) b
def fH (s : Sup) : List UInt8 := be 8 s.commit.toNat ++ be 4 s.epoch.toNat ++ be 4 s.root.toNat ++ (be 2 s.txt.length ++ s.txt) ++ dx s.used ++ dx s.written
def bu (k : List UInt8) (s : Sup) : List UInt8 := fH s ++ iS k (fH s)
theorem gZ (k b : List UInt8) : (iS k b).length = 32 := cY _ _
theorem l5 (s : Sup) : (fH s).length = 118 + s.txt.length := by simp [fH, aH, dS]; omega
theorem eZ (k : List UInt8) (s : Sup) : (bu k s).length = 150 + s.txt.length := by
 rw [bu, List.length_append, l5, gZ]; omega
def txN (b : List UInt8) : Nat := cI ((b.drop 16).take 2)
def gU (b : List UInt8) : Sup :=
 ⟨UInt32.ofNat (cI ((b.drop 12).take 4)), (b.drop 18).take (txN b), pR ((b.drop (18 + txN b)).take 50), pR ((b.drop (68 + txN b)).take 50), UInt64.ofNat (cI (b.take 8)), UInt32.ofNat (cI ((b.drop 8).take 4))⟩
def dj (k b : List UInt8) : Option Sup :=
 if b.length < 56 ∨ 200 < txN b ∨ b.length < 150 + txN b then none
 else if (b.drop (118 + txN b)).take 32 = iS k (b.take (118 + txN b)) then some (gU b) else none
def ei : Nat → List UInt8 → List UInt8 → List UInt8
 | 0, _, _ => []
 | n + 1, nb, b => (nb ++ b.take 56 ++ List.replicate (56 - (b.take 56).length) 0 ++ nb) ++ ei n nb (b.drop 56)
def cN (b : List UInt8) (n : UInt64) : List UInt8 := ei ((b.length + 55) / 56) (be 4 n.toNat) b
def jI (nb : List UInt8) : Nat → List UInt8 → List UInt8
 | 0, _ => []
 | n + 1, b => if b.take 4 = nb ∧ (b.drop 60).take 4 = nb then (b.drop 4).take 56 ++ jI nb n (b.drop 64) else []
def fN (b : List UInt8) : List UInt8 := jI (b.take 4) (b.length / 64) b
def je : Nat → List UInt8 → List UInt64
 | 0, _ => []
 | n + 1, b => UInt64.ofNat (cI (b.take 4)) :: UInt64.ofNat (cI ((b.drop 60).take 4)) :: je n (b.drop 64)
def eN (b : List UInt8) : List UInt64 := je (b.length / 64) b
def j7 (c x : UInt64) : UInt64 := cX ((fj ((x - c).toNat : Int)).toNat : Int)
theorem zl (c x : UInt64) : j7 c x = (x - c).toUInt32.toUInt64 := by unfold j7; rw [rB, na]
def dM (c n x : UInt64) : UInt64 := if j7 c x < 65536 then vJ n (c + j7 c x) else n
def xE (c : UInt64) (l : List UInt64) : UInt64 := l.foldl (dM c) c + 1
theorem l6 : ∀ (n : Nat) (nb b : List UInt8), nb.length = 4 → (ei n nb b).length = 64 * n
 | 0, _, _, _ => rfl
 | n + 1, nb, b, h => by
  rw [ei, List.length_append, l6 n nb _ h]
  simp only [List.length_append, List.length_replicate, List.length_take, h]; omega
theorem j5 (b : List UInt8) (n : UInt64) : (cN b n).length = 64 * ((b.length + 55) / 56) := l6 _ _ _ (aH _ _)
theorem rz (nb : List UInt8) : ∀ (n : Nat) (b : List UInt8), b.length = 64 * n → ∃ m, (jI nb n b).length = 56 * m ∧ m ≤ n
 | 0, _, _ => ⟨0, rfl, Nat.le_refl _⟩
 | n + 1, b, h => by
  rw [jI]
  split
  ·obtain ⟨m, h1, h2⟩ := rz nb n (b.drop 64) (by rw [List.length_drop]; omega)
   exact ⟨m + 1, by rw [List.length_append, h1, List.length_take, List.length_drop]; omega, by omega⟩
  ·exact ⟨0, rfl, by omega⟩
theorem hE : ∀ (n : Nat) (b : List UInt8), (je n b).length = 2 * n
 | 0, _ => rfl
 | n + 1, b => by rw [je, List.length_cons, List.length_cons, hE n]; omega
namespace DSt
def wr : Nat → DSt → Int → List UInt8 → DSt × Int
 | 0, s, _, _ => (s, 0)
 | n + 1, s, i, l => if (s.write i (l.take 64)).2 = 0 then wr n (s.write i (l.take 64)).1 (i + 1) (l.drop 64) else s.write i (l.take 64)
def writes (s : DSt) (i : Int) (l : List UInt8) : DSt × Int := wr ((l.length + 63) / 64) s i l
def reads (s : DSt) (i : Int) (n : Nat) : List UInt8 := (List.range n).flatMap fun (k : Nat) => (s.now (i + (k : Int))).1
theorem reads_succ (s : DSt) (i : Int) (n : Nat) : s.reads i (n + 1) = s.reads i n ++ (s.now (i + (n : Int))).1 := by
 unfold reads; rw [List.range_succ, List.flatMap_append]; simp
theorem reads_zero (s : DSt) (i : Int) : s.reads i 0 = [] := rfl
theorem reads_length (s : DSt) (i : Int) (n : Nat) : (s.reads i n).length = 64 * n := by
 induction n with
 | zero => rfl
 | succ n ih => rw [reads_succ, List.length_append, ih, (s.now _).2]; omega
end DSt
def gk (n : Nat) : Int := min ((max ((n : Int) - 32) 0) / 8) 400
def dU (ds : DSt) (i : Nat) : List UInt8 := ds.reads ((i : Int) * 16) 16
def cZ (k : List UInt8) (ds : DSt) (best : Option (Sup × Nat)) (i : Nat) : Option (Sup × Nat) :=
 match dj k (fN (dU ds i)) with
 | none => best
 | some s => match best with
  | none => some (s, i)
  | some (b, j) => if b.commit < s.commit then some (s, i) else some (b, j)
def newest (k : List UInt8) (ds : DSt) : Option (Sup × Nat) := cZ k ds (cZ k ds none 0) 1
def gV (best : Option (Sup × Nat)) : UInt64 := match best with | none => 0 | some (s, _) => s.commit
def ou (best : Option (Sup × Nat)) : Int := match best with | none => -1 | some (_, j) => j
def qK (best : Option (Sup × Nat)) : UInt32 := match best with | none => 0 | some (s, _) => s.epoch
def eh (k : List UInt8) (ds : DSt) : UInt64 := xE (gV (newest k ds)) (eN (dU ds 0) ++ eN (dU ds 1))
def cn (k : List UInt8) (ds : DSt) (at_ : Nat) (s : Sup) : DSt × Int :=
 if (ds.writes ((at_ : Int) * 16) (cN (bu k s) s.commit)).2 = 0 then (ds.writes ((at_ : Int) * 16) (cN (bu k s) s.commit)).1.flush
 else ds.writes ((at_ : Int) * 16) (cN (bu k s) s.commit)
namespace DSt
theorem wr_bnd (n : Nat) : ∀ (ds : DSt) (i : Int) (l : List UInt8), ds.Fine → ds.steps + n ≤ 1000000000000 → (wr n ds i l).1.Fine ∧ (wr n ds i l).1.steps ≤ ds.steps + n ∧ (wr n ds i l).1.kept = ds.kept := by
 induction n with
 | zero => intro ds i l hf hs; exact ⟨hf, Nat.le_refl _, rfl⟩
 | succ n ih =>
  intro ds i l hf hs
  have h1 := hf.write (by omega) i (l.take 64)
  have h2 := write_steps ds i (l.take 64)
  have h3 := write_kept ds i (l.take 64)
  rw [wr]
  by_cases h : (ds.write i (l.take 64)).2 = 0
  ·rw [if_pos h]
   obtain ⟨q1, q2, q3⟩ := ih _ (i + 1) (l.drop 64) h1 (by omega)
   exact ⟨q1, by omega, by rw [q3, h3]⟩
  ·rw [if_neg h]
   exact ⟨h1, by omega, h3⟩
end DSt
end Go.Sac

end
section
namespace Go.Sac
open Go
set_option maxRecDepth 100000
def keyN (n : UInt8) : List UInt8 := n :: (List.replicate 30 0 ++ [200])
def sv (l : List UInt8) : Option Slt := if 0 < (cW l).1 then some ⟨(cW l).2, (cW l).1⟩ else none
theorem kM (n : UInt64) : UInt64.ofNat (cI (be 8 n.toNat)) = n := by
 rw [iV]
 apply UInt64.toNat_inj.1
 rw [UInt64.toNat_ofNat']
 have := n.toNat_lt
 have h : (256 : Nat) ^ 8 = 18446744073709551616 := by decide
 rw [h]; omega
theorem uK (n : Nat) (w : List UInt8) : (dB n w).take 8 = be 8 n := by
 unfold dB; rw [List.append_assoc, List.take_left' (aH 8 n)]
theorem nY (n : Nat) (w : List UInt8) : (dB n w).drop 8 = w ++ be 8 n := by
 unfold dB; rw [List.append_assoc, List.drop_left' (aH 8 n)]
theorem m8 (l : List UInt8) : cW l = if A0 l = vI l then (vI l, yf l) else (0, w48z) := by unfold cW; rfl
theorem gT (n : UInt64) (x : W48) : cW (dB n.toNat x.1) = (n, x) := by
 have h1 : vI (dB n.toNat x.1) = n := by unfold vI; rw [uK, kM]
 have h2 : A0 (dB n.toNat x.1) = n := by
  unfold A0; rw [nY, List.drop_left' x.2, List.take_of_length_le (by rw [aH]; omega), kM]
 have h3 : yf (dB n.toNat x.1) = x := by
  apply Subtype.ext
  rw [unfW_eq _ (by rw [fx, x.2]), nY, List.take_left' x.2]
 rw [m8, if_pos (by rw [h1, h2]), h1, h3]
theorem kZ : cW (List.replicate 64 0) = (0, w48z) := by
 have h1 : vI (List.replicate 64 0) = 0 := by decide
 have h2 : A0 (List.replicate 64 0) = 0 := by decide
 have h3 : yf (List.replicate 64 0) = w48z := by apply Subtype.ext; decide
 rw [m8, if_pos (by rw [h1, h2]), h1, h3]
theorem xr : sv (List.replicate 64 0) = none := by unfold sv; rw [kZ]; rfl
theorem rE (n : UInt64) (x : W48) (h : 0 < n) : sv (dB n.toNat x.1) = some ⟨x, n⟩ := by
 unfold sv; rw [gT, if_pos h]
def kT (l : List UInt8) : Sec := DSt.putS sec0 (jd l)
theorem sQ (l : List UInt8) (h : l.length ≤ 64) : (kT l).1 = jd l := by
 have hl := jx l h
 unfold kT
 rw [kL _ _ (by omega), hl, List.drop_of_length_le (Nat.le_of_eq sec0.2), List.append_nil]
theorem Ao (c : Sec) (l : List UInt8) (h : l.length ≤ 64) : DSt.putS c (jd l) = kT l := by
 have hl := jx l h
 apply Subtype.ext
 rw [sQ l h, kL _ _ (by omega), hl, List.drop_of_length_le (Nat.le_of_eq c.2), List.append_nil]
theorem wi (l : List UInt8) (h : l.length = 64) : jd l = l := by simp [jd, h]
theorem zj (k : List Sec) (i : Int) (c : Sec) (hi : 0 ≤ i) : DSt.apply k [(i, c)] = k.set i.toNat c := by
 have := qn k [] i c hi (by simp)
 rwa [List.nil_append, sw] at this
theorem vG {ds : DSt} {i : Int} {l : List UInt8} (h0 : ds.offAt = 0) (hp : ds.pend = []) (hi : 0 ≤ i) (hi2 : i < ds.kept.length) (hl : l.length ≤ 64) :
  wrD ds i l = (⟨ds.steps + 2, 0, ds.kept.set i.toNat (kT l), []⟩, 0) := by
 have hw : ds.write i (jd l) = (⟨ds.steps + 1, 0, ds.kept, [(i, kT l)]⟩, 0) := by
  have ho : ds.step.off = false := by simp [DSt.off, DSt.step, h0]
  have his : ds.is i = true := by simp [DSt.is, hi, hi2]
  unfold DSt.write
  rw [if_neg (by rw [ho]; decide), if_neg (by rw [his, decide_eq_false (by rw [jx l hl]; omega)]; decide), hp, Ao _ _ hl]
  simp [db, DSt.step, h0]
 rw [wrD_pos (by rw [hw]), hw]
 unfold DSt.flush
 rw [if_neg (by simp [DSt.off, DSt.step])]
 simp only [DSt.step, zj _ _ _ hi]
structure SInv (ds : DSt) (s : SSt) : Prop where
 pend : ds.pend = []
 len : 64 ≤ ds.kept.length
 full : ∀ i : Nat, i < 24 → bW (i : Int) s.full = sv (ds.kept.getD i sec0).1
 keys : (s.full.map (·.1)).Nodup
 gens : ∀ i : Nat, i < 26 → (cW (ds.kept.getD i sec0).1).1.toNat ≤ s.puts.toNat
theorem pU {ν : Type} (i k : Int) (v : ν) (m : List (Int × ν)) : bW i (db k v m) = if i = k then some v else bW i m := by
 induction m with
 | nil =>
  simp only [db, bW]
 | cons p m ih =>
  obtain ⟨x, u⟩ := p
  simp only [db]
  by_cases h : k = x
  ·subst h
   simp only [if_true, bW]
   by_cases hi : i = k <;> simp [hi]
  ·simp only [h, if_false, bW]
   by_cases hi : i = x
   ·subst hi
    have : ¬ i = k := fun e => h e.symm
    simp [this]
   ·simp only [hi, if_false]; exact ih
theorem qH {ν : Type} (k : Int) (v : ν) (m : List (Int × ν)) : (db k v m).map (·.1) = if k ∈ m.map (·.1) then m.map (·.1) else m.map (·.1) ++ [k] := by
 induction m with
 | nil => simp [db]
 | cons p m ih =>
  obtain ⟨x, u⟩ := p
  simp only [db]
  by_cases h : k = x
  ·subst h; simp
  ·simp only [h, if_false, List.map_cons, List.mem_cons, false_or, ih]
   split <;> simp
theorem nV {ν : Type} (k : Int) (v : ν) (m : List (Int × ν)) (h : (m.map (·.1)).Nodup) : ((db k v m).map (·.1)).Nodup := by
 rw [qH]
 split
 ·exact h
 ·rename_i hk
  rw [List.nodup_append]
  exact ⟨h, by simp, fun a ha b hb => by simp at hb; subst hb; exact fun e => hk (e ▸ ha)⟩
theorem AL {ν : Type} (k : Int) (m : List (Int × ν)) : (iD k m).Sublist m := by
 induction m with
 | nil => exact List.Sublist.refl _
 | cons p m ih =>
  obtain ⟨x, u⟩ := p
  simp only [iD]
  split
  ·exact List.sublist_cons_self _ _
  ·exact ih.cons_cons _
theorem yN {ν : Type} (i k : Int) (m : List (Int × ν)) (h : (m.map (·.1)).Nodup) : bW i (iD k m) = if i = k then none else bW i m := by
 induction m with
 | nil => simp [iD, bW]
 | cons p m ih =>
  obtain ⟨x, u⟩ := p
  simp only [List.map_cons, List.nodup_cons] at h
  simp only [iD]
  by_cases hk : k = x
  ·subst hk
   simp only [if_true]
   by_cases hi : i = k
   ·subst hi; rw [if_pos rfl, ns h.1]
   ·rw [if_neg hi]; simp [bW, hi]
  ·simp only [hk, if_false, bW]
   by_cases hi : i = x
   ·subst hi
    have : ¬ i = k := fun e => hk e.symm
    simp [this]
   ·simp only [hi, if_false]; exact ih h.2
theorem mO {α : Type} (l : List α) (i j : Nat) (a d : α) (h : i < l.length) : (l.set i a).getD j d = if i = j then a else l.getD j d := by
 rw [List.getD_eq_getElem?_getD, List.getElem?_set, List.getD_eq_getElem?_getD]
 by_cases hij : i = j
 ·subst hij; simp [h]
 ·simp [hij]
def mr (k : List Sec) (n : UInt64) (i : Nat) (w : List UInt8) : List Sec :=
 (k.set (24 + (n % 2).toNat) (kT (dB n.toNat w48z.1))).set i (kT (dB n.toNat w))
theorem xz {ds : DSt} {s : SSt} {i : Nat} {kek key : List UInt8} (hy : key.length = 32) (h0 : ds.offAt = 0) (hp : ds.pend = []) (hl : 64 ≤ ds.kept.length) (hdd : s.dead = false) (hi : i < 24) :
  As ds s i kek key hy = (⟨ds.steps + 4, 0, mr ds.kept (s.puts + 1) i (lY kek i (s.puts + 1).toNat key), []⟩,
   ⟨db (i : Int) ⟨⟨lY kek i (s.puts + 1).toNat key, fA _ _ _ _ hy⟩, s.puts + 1⟩ s.full, s.puts + 1, false⟩, 0) := by
 have h2 : ((s.puts + 1) % 2).toNat < 2 := by rw [UInt64.toNat_mod]; exact Nat.mod_lt _ (by decide)
 have hc : cntD ds (s.puts + 1) = (⟨ds.steps + 2, 0, ds.kept.set (24 + ((s.puts + 1) % 2).toNat) (kT (dB (s.puts + 1).toNat w48z.1)), []⟩, 0) := by
  unfold cntD
  rw [vG h0 hp (by omega) (by omega) (by rw [fx, w48z.2]; decide)]
  congr 3
 have hw : ∀ l : List UInt8, l.length ≤ 64 → wrD ⟨ds.steps + 2, 0, ds.kept.set (24 + ((s.puts + 1) % 2).toNat) (kT (dB (s.puts + 1).toNat w48z.1)), []⟩ (i : Int) l = (⟨ds.steps + 2 + 2, 0, (ds.kept.set (24 + ((s.puts + 1) % 2).toNat) (kT (dB (s.puts + 1).toNat w48z.1))).set i (kT l), []⟩, 0) := by
  intro l hl'
  rw [vG rfl rfl (by omega) (by simp only [List.length_set]; omega) hl']
  rfl
 have his : lF (i : Int) = true := by simp [lF]; omega
 unfold As
 rw [if_neg (by rw [hdd]; decide), if_pos his]
 simp only [hc, if_true, Int.toNat_natCast]
 rw [hw _ (by rw [fx, fA _ _ _ _ hy]; decide)]
 simp only [if_true, SSt.died, hdd]
 rfl
theorem sf {ds : DSt} {s : SSt} {i : Nat} (h0 : ds.offAt = 0) (hp : ds.pend = []) (hl : 64 ≤ ds.kept.length) (hdd : s.dead = false) (hi : i < 24) :
  qe ds s i = (⟨ds.steps + 2, 0, ds.kept.set i (kT []), []⟩, ⟨iD (i : Int) s.full, s.puts, false⟩, 0) := by
 have his : lF (i : Int) = true := by simp [lF]; omega
 have hw := vG (i := (i : Int)) (l := []) h0 hp (by omega) (by omega) (by decide)
 unfold qe
 rw [if_neg (by rw [hdd]; decide), if_pos his]
 simp only [hw, if_true, SSt.died, hdd, Int.toNat_natCast]
 rfl
theorem mh (l : List UInt8) (h : l.length = 64) : (kT l).1 = l := by rw [sQ l (by omega), wi l h]
theorem px : (kT []).1 = List.replicate 64 0 := sQ [] (by decide)
theorem pM (k : List Sec) (n : UInt64) (i : Nat) (w : List UInt8) : (mr k n i w).length = k.length := by simp [mr]
theorem jY (k : List Sec) (n : UInt64) (i j : Nat) (w : List UInt8) (hl : 64 ≤ k.length) (hi : i < 24) :
  (mr k n i w).getD j sec0 = if i = j then kT (dB n.toNat w) else if 24 + (n % 2).toNat = j then kT (dB n.toNat w48z.1) else k.getD j sec0 := by
 have h2 : (n % 2).toNat < 2 := by rw [UInt64.toNat_mod]; exact Nat.mod_lt _ (by decide)
 unfold mr
 rw [mO _ _ _ _ _ (by rw [List.length_set]; omega), mO _ _ _ _ _ (by omega)]
theorem SInv.put {ds : DSt} {s : SSt} {i : Nat} {kek key : List UInt8} (h : SInv ds s) (hy : key.length = 32) (h0 : ds.offAt = 0) (hdd : s.dead = false) (hi : i < 24) (hpu : s.puts.toNat < 1000000000000) :
  SInv (As ds s i kek key hy).1 (As ds s i kek key hy).2.1 := by
 obtain ⟨h1, h2, h3, h4, h5⟩ := h
 have hn : (s.puts + 1).toNat = s.puts.toNat + 1 := by
  rw [UInt64.toNat_add]; show (s.puts.toNat + 1) % 18446744073709551616 = _; omega
 have hpos : 0 < s.puts + 1 := by rw [UInt64.lt_iff_toNat_lt, hn]; exact Nat.succ_pos _
 rw [xz hy h0 h1 h2 hdd hi]
 generalize hx : (⟨lY kek i (s.puts + 1).toNat key, fA _ _ _ _ hy⟩ : W48) = x
 have hxw : lY kek i (s.puts + 1).toNat key = x.1 := by rw [← hx]
 rw [hxw]
 have hfl : ∀ y : W48, (dB (s.puts + 1).toNat y.1).length = 64 := fun y => by rw [fx, y.2]
 refine ⟨rfl, by simp only [pM]; exact h2, fun j hj => ?_, nV _ _ _ h4, fun j hj => ?_⟩
 ·simp only
  rw [pU, jY _ _ _ _ _ h2 hi]
  by_cases hij : i = j
  ·subst hij
   rw [if_pos rfl, if_pos rfl, mh _ (hfl x), rE _ _ hpos]
  ·have : ¬ (j : Int) = (i : Int) := by omega
   rw [if_neg this, if_neg hij, if_neg (by omega)]; exact h3 j hj
 ·simp only
  rw [jY _ _ _ _ _ h2 hi]
  by_cases hij : i = j
  ·rw [if_pos hij, mh _ (hfl x), gT]; exact Nat.le_refl _
  ·rw [if_neg hij]
   split
   ·rw [mh _ (hfl w48z), gT]; exact Nat.le_refl _
   ·have := h5 j hj; omega
theorem SInv.erase {ds : DSt} {s : SSt} {i : Nat} (h : SInv ds s) (h0 : ds.offAt = 0) (hdd : s.dead = false) (hi : i < 24) :
  SInv (qe ds s i).1 (qe ds s i).2.1 := by
 obtain ⟨h1, h2, h3, h4, h5⟩ := h
 rw [sf h0 h1 h2 hdd hi]
 refine ⟨rfl, by simp only [List.length_set]; exact h2, fun j hj => ?_, (((AL _ _).map _).nodup h4), fun j hj => ?_⟩
 ·simp only
  rw [yN _ _ _ h4, mO _ _ _ _ _ (by omega)]
  by_cases hij : i = j
  ·subst hij; rw [if_pos rfl, if_pos rfl, px, xr]
  ·have : ¬ (j : Int) = (i : Int) := by omega
   rw [if_neg this, if_neg hij]; exact h3 j hj
 ·simp only
  rw [mO _ _ _ _ _ (by omega)]
  split
  ·rw [px, kZ]; exact Nat.zero_le _
  ·exact h5 j hj
theorem pc (a b : UInt64) : (vJ a b).toNat = max a.toNat b.toNat := by unfold vJ; split <;> omega
theorem ux {ds : DSt} (h : ds.pend = []) (i : Nat) : ds.now i = ds.kept.getD i sec0 := by
 unfold DSt.now; rw [h]; rfl
theorem yG (ds : DSt) (n : Nat) (i : Nat) : bW (i : Int) (jM ds n).full = if i < n ∧ i < 24 then sv (ds.now i).1 else none := by
 induction n with
 | zero => rw [lr]; simp [ss0, bW]
 | succ n ih =>
  rw [lu]
  unfold SSt.reads
  simp only
  by_cases hc : (n : Int) < 24 ∧ 0 < (cW (ds.now n).1).1
  ·rw [if_pos hc, pU]
   by_cases hin : i = n
   ·subst hin
    rw [if_pos rfl, if_pos (by omega)]
    unfold sv; rw [if_pos hc.2]
   ·rw [if_neg (by omega), ih]
    by_cases h1 : i < n ∧ i < 24
    ·rw [if_pos h1, if_pos (by omega)]
    ·rw [if_neg h1, if_neg (by omega)]
  ·rw [if_neg hc, ih]
   by_cases hin : i = n
   ·subst hin
    rw [if_neg (by omega)]
    split
    ·rename_i h24
     unfold sv
     rw [if_neg (fun h => hc ⟨by omega, h⟩)]
    ·rfl
   ·by_cases h1 : i < n ∧ i < 24
    ·rw [if_pos h1, if_pos (by omega)]
    ·rw [if_neg h1, if_neg (by omega)]
theorem wk (ds : DSt) (n : Nat) : ((jM ds n).full.map (·.1)).Nodup := by
 induction n with
 | zero => rw [lr]; simp [ss0]
 | succ n ih =>
  rw [lu]
  unfold SSt.reads
  simp only
  split
  ·exact nV _ _ _ ih
  ·exact ih
theorem wj (ds : DSt) (n : Nat) : (∀ i, i < n → (cW (ds.now i).1).1.toNat ≤ (jM ds n).puts.toNat) ∧ ∀ B, (∀ i : Nat, i < n → (cW (ds.now i).1).1.toNat ≤ B) → (jM ds n).puts.toNat ≤ B := by
 induction n with
 | zero => rw [lr]; exact ⟨fun i h => by omega, fun B _ => Nat.zero_le _⟩
 | succ n ih =>
  rw [lu]
  have hp : ((jM ds n).reads n (ds.now n).1).puts = vJ (jM ds n).puts (cW (ds.now n).1).1 := rfl
  rw [hp, pc]
  refine ⟨fun i hi => ?_, fun B hB => ?_⟩
  ·by_cases hin : i = n
   ·subst hin; omega
   ·have := ih.1 i (by omega); omega
  ·have h1 := ih.2 B (fun i hi => hB i (by omega))
   have h2 := hB n (by omega)
   omega
theorem SInv.open {ds : DSt} (hp : ds.pend = []) (hl : 64 ≤ ds.kept.length) : SInv ds (jM ds 26) := by
 refine ⟨hp, hl, fun i hi => ?_, wk _ _, fun i hi => ?_⟩
 ·rw [yG, if_pos (by omega), ux hp]
 ·have := (wj ds 26).1 i hi
  rwa [ux hp] at this
def HoldsS (ds : DSt) (C : Nat → Option (List UInt8 × List UInt8)) : Prop :=
 ∀ i, i < 24 → match C i with
  | none => sv (ds.kept.getD i sec0).1 = none
  | some (k, y) => ∃ (h : y.length = 32) (g : UInt64), 0 < g ∧ sv (ds.kept.getD i sec0).1 = some ⟨⟨lY k i g.toNat y, fA _ _ _ _ h⟩, g⟩
def setC (C : Nat → Option (List UInt8 × List UInt8)) (i : Nat) (v : Option (List UInt8 × List UInt8)) : Nat → Option (List UInt8 × List UInt8) := fun j => if j = i then v else C j
theorem HoldsS.is {ds : DSt} {s : SSt} {C : Nat → Option (List UInt8 × List UInt8)} (h : SInv ds s) (hC : HoldsS ds C) {i : Nat} (hi : i < 24) : (bW (i : Int) s.full).isSome = (C i).isSome := by
 have h1 := hC i hi
 rw [h.full i hi]
 cases hc : C i with
 | none => rw [hc] at h1; simp only at h1; rw [h1]; rfl
 | some p =>
  obtain ⟨k, y⟩ := p
  rw [hc] at h1
  obtain ⟨hy, g, hg, hsv⟩ := h1
  rw [hsv]; rfl
theorem HoldsS.put {ds : DSt} {s : SSt} {C : Nat → Option (List UInt8 × List UInt8)} {i : Nat} {kek key : List UInt8} (h : SInv ds s) (hC : HoldsS ds C) (hy : key.length = 32) (h0 : ds.offAt = 0) (hdd : s.dead = false) (hi : i < 24) (hpu : s.puts.toNat < 1000000000000) :
  HoldsS (As ds s i kek key hy).1 (setC C i (some (kek, key))) := by
 have hn : (s.puts + 1).toNat = s.puts.toNat + 1 := by
  rw [UInt64.toNat_add]; show (s.puts.toNat + 1) % 18446744073709551616 = _; omega
 have hpos : 0 < s.puts + 1 := by rw [UInt64.lt_iff_toNat_lt, hn]; exact Nat.succ_pos _
 rw [xz hy h0 h.pend h.len hdd hi]
 intro j hj
 simp only
 rw [jY _ _ _ _ _ h.len hi]
 unfold setC
 by_cases hij : j = i
 ·subst hij
  rw [if_pos rfl, if_pos rfl]
  have hwl := fA kek j (s.puts + 1).toNat key hy
  refine ⟨hy, s.puts + 1, hpos, ?_⟩
  have := rE (s.puts + 1) ⟨lY kek j (s.puts + 1).toNat key, hwl⟩ hpos
  rw [mh _ (by rw [fx, hwl])]; exact this
 ·rw [if_neg hij, if_neg (fun e => hij e.symm), if_neg (by omega)]
  exact hC j hj
theorem HoldsS.erase {ds : DSt} {s : SSt} {C : Nat → Option (List UInt8 × List UInt8)} {i : Nat} (h : SInv ds s) (hC : HoldsS ds C) (h0 : ds.offAt = 0) (hdd : s.dead = false) (hi : i < 24) :
  HoldsS (qe ds s i).1 (setC C i none) := by
 rw [sf h0 h.pend h.len hdd hi]
 intro j hj
 simp only
 have hlen := h.len
 rw [mO _ _ _ _ _ (by omega)]
 unfold setC
 by_cases hij : j = i
 ·subst hij
  rw [if_pos rfl, if_pos rfl]
  simp only
  rw [px, xr]
 ·rw [if_neg hij, if_neg (fun e => hij e.symm)]
  exact hC j hj
theorem zk (k : List Sec) (m : List (Int × Sec)) (j : Nat) (h : j < k.length) : (DSt.apply k m).getD j sec0 = (bW (j : Int) m).getD (k.getD j sec0) := by
 unfold DSt.apply
 rw [List.getD_eq_getElem?_getD, List.getElem?_mapIdx, List.getD_eq_getElem?_getD, List.getElem?_eq_getElem h]; rfl
def dsN (n : Nat) : DSt := ⟨0, 0, List.replicate n sec0, []⟩
theorem uX (n : Nat) (h : n ≤ 4000) : (dsN n).Fine := ⟨Nat.zero_le _, Nat.zero_le _, fun p hp => by simp [dsN] at hp, by simpa [dsN] using h⟩
end Go.Sac

end
section
namespace Go.Sac
open Go
theorem lA {κ ν : Type} [DecidableEq κ] (i k : κ) (v : ν) (m : List (κ × ν)) : bW i (db k v m) = if i = k then some v else bW i m := by
 induction m with
 | nil =>
  simp only [db, bW]
 | cons p m ih =>
  obtain ⟨x, u⟩ := p
  simp only [db]
  by_cases h : k = x
  ·subst h
   simp only [if_true, bW]
   by_cases hi : i = k <;> simp [hi]
  ·simp only [h, if_false, bW]
   by_cases hi : i = x
   ·subst hi
    have : ¬ i = k := fun e => h e.symm
    simp [this]
   ·simp only [hi, if_false]; exact ih
theorem wy {κ ν : Type} [DecidableEq κ] (i k : κ) (m : List (κ × ν)) (h : (m.map (·.1)).Nodup) : bW i (iD k m) = if i = k then none else bW i m := by
 induction m with
 | nil => simp [iD, bW]
 | cons p m ih =>
  obtain ⟨x, u⟩ := p
  simp only [List.map_cons, List.nodup_cons] at h
  simp only [iD]
  by_cases hk : k = x
  ·subst hk
   simp only [if_true]
   by_cases hi : i = k
   ·subst hi; rw [if_pos rfl, ns h.1]
   ·rw [if_neg hi]; simp [bW, hi]
  ·simp only [hk, if_false, bW]
   by_cases hi : i = x
   ·subst hi
    have : ¬ i = k := fun e => hk e.symm
    simp [this]
   ·simp only [hi, if_false]; exact ih h.2
def SetAt (w : World) (r : Nat) (f : PgF) : Prop := ∃ m : List (UInt32 × Value), MapAt w r m ∧ ∀ k, bW k m = if f k = true then some (.bool true) else none
def dn (f : PgF) (k : UInt32) : PgF := fun j => decide (j = k) || f j
def fm (f : PgF) (k : UInt32) : PgF := fun j => !decide (j = k) && f j
section
variable {w w' : World} {r : Nat} {f : PgF}
theorem SetAt.mod {S : List Nat} (h : SetAt w r f) (hm : Chg S w w') (hn : r ∉ S) : SetAt w' r f := by
 obtain ⟨m, h1, h2⟩ := h; exact ⟨m, h1.mod hm hn, h2⟩
theorem SetAt.chg0 (h : SetAt w r f) (hm : Chg [] w w') : SetAt w' r f := h.mod hm (by simp)
theorem SetAt.lt (h : SetAt w r f) : r < w.heap.size := by
 obtain ⟨m, h1, h2⟩ := h; exact h1.lt
theorem SetAt.nil (h : MapAt w r ([] : List (UInt32 × Value))) : SetAt w r j4 := ⟨[], h, fun k => by simp [bW, j4]⟩
theorem SetAt.look {k : UInt32} {m : List (UInt32 × Value)} (h : ∀ k, bW k m = if f k = true then some (.bool true) else none) : (bW k m).getD (.bool false) = .bool (f k) := by
 rw [h k]
 cases f k <;> rfl
theorem mf {m : List (UInt32 × Value)} (h : ∀ k, bW k m = if f k = true then some (.bool true) else none) (k : UInt32) : ∀ j, bW j (db k (.bool true) m) = if dn f k j = true then some (.bool true) else none := by
 intro j
 rw [lA]
 unfold dn
 by_cases hj : j = k
 ·subst hj; simp
 ·rw [if_neg hj, h j, decide_eq_false hj, Bool.false_or]
theorem xW {m : List (UInt32 × Value)} (h : ∀ k, bW k m = if f k = true then some (.bool true) else none) (hn : (m.map (·.1)).Nodup) (k : UInt32) : ∀ j, bW j (iD k m) = if fm f k j = true then some (.bool true) else none := by
 intro j
 rw [wy _ _ _ hn]
 unfold fm
 by_cases hj : j = k
 ·subst hj; simp
 ·rw [if_neg hj, h j, decide_eq_false hj, Bool.not_false, Bool.true_and]
end
theorem zh (l : List UInt8) (k j : Nat) (hk : k / 8 < l.length) : gn (l.set (k / 8) (l.getD (k / 8) 0 ||| vL 1 (k % 8))) j = (decide (j = k) || gn l j) := by
 unfold gn
 by_cases hj : j / 8 = k / 8
 ·rw [hj, List.getD_eq_getElem?_getD, List.getElem?_set_self hk, Option.getD_some, UInt8.toNat_or, Nat.testBit_or]
  have h1 : (vL 1 (k % 8)).toNat = 2 ^ (k % 8) := by
   unfold vL
   rw [UInt8.toNat_ofNat']
   have : ∀ q : Fin 8, (((1 : UInt8).toNat <<< q.1) % 2 ^ 8) = 2 ^ q.1 := by decide
   exact this ⟨k % 8, by omega⟩
  rw [h1, Nat.testBit_two_pow, Bool.or_comm]
  congr 1
  by_cases h2 : j = k
  ·subst h2; simp
  ·rw [decide_eq_false h2, decide_eq_false (by omega)]
 ·rw [List.getD_eq_getElem?_getD, List.getElem?_set_ne (fun h => hj h.symm), ← List.getD_eq_getElem?_getD, decide_eq_false (fun h => hj (by rw [h])), Bool.false_or]
def orBit (c : UInt8) (k : Nat) : UInt8 := c ||| vL 1 k
theorem bit_one (c : UInt8) (k : Nat) (hk : k < 8) : (shr8 c k &&& 1 = 1) ↔ c.toNat.testBit k = true := by
 have : ∀ (c : Fin 256) (k : Fin 8), (shr8 (UInt8.ofNat c.1) k.1 &&& 1 = 1) ↔ (UInt8.ofNat c.1).toNat.testBit k.1 = true := by decide +kernel
 have := this ⟨c.toNat, c.toNat_lt⟩ ⟨k, hk⟩
 rw [UInt8.ofNat_toNat] at this
 exact this
theorem wV (k : Nat) : gn (List.replicate 50 0) k = false := by
 unfold gn
 have : (List.replicate 50 (0 : UInt8)).getD (k / 8) 0 = 0 := by
  rw [List.getD_eq_getElem?_getD, List.getElem?_replicate]; split <;> rfl
 rw [this]; simp
abbrev M50 := { l : List UInt8 // l.length = 50 }
instance : Flat M50 := ⟨50, fun s => aW s.1, fun s => by rw [aK, s.2]; rfl, fun s => eO s.1⟩
def m50 (f : PgF) : M50 := ⟨dx f, dS f⟩
def eK (s : Sup) (u r : Nat) : List Value := [.int .u32 s.root.toNat, str s.txt, .map (some u), .map (some r), .int .u64 s.commit.toNat, .int .u32 s.epoch.toNat]
def yj (s : Sup) (u r : Nat) : Value := .agg (eK s u r).toArray
structure Sup.Ok (s : Sup) : Prop where
 txt : s.txt.length ≤ 200
 used : ∀ k, s.used k = true → k.toNat < 400
 written : ∀ k, s.written k = true → k.toNat < 400
theorem fa (s : Sup) (u r : Nat) : ∀ q ∈ eK s u r, eb q = true := by
 intro q hq
 simp only [eK, List.mem_cons, List.not_mem_nil, or_false] at hq
 rcases hq with rfl | rfl | rfl | rfl | rfl | rfl <;> rfl
theorem A3 (n : Nat) : fj ((UInt64.ofNat n).toNat : Int) = UInt32.ofNat n := by
 rw [rB]
 apply UInt32.toNat_inj.1
 simp
theorem supC_of (b : List UInt8) (u r : Nat) : [.int .u32 (fj ((UInt64.ofNat (cI ((b.drop (8 + 4)).take 4))).toNat : Int)).toNat, str ((b.drop 18).take (txN b)), .map (some u), .map (some r), .int .u64 (UInt64.ofNat (cI (b.take 8))).toNat, .int .u32 (fj ((UInt64.ofNat (cI ((b.drop 8).take 4))).toNat : Int)).toNat] = eK (gU b) u r := by
 rw [A3, A3]; rfl
theorem uk {k b : List UInt8} (h : 150 + txN b ≤ b.length) (h2 : txN b ≤ 200) : dj k b = if (b.drop (118 + txN b)).take 32 = iS k (b.take (118 + txN b)) then some (gU b) else none := by
 unfold dj
 rw [if_neg (by omega)]
end Go.Sac

end
section
namespace Go.Sac
open Go Go.Maps Go.Proofs Go.Shelf
theorem ze {κ : Type} [Key κ] {P : Program} {ρ : Ren} (L : SlLaysW.n5 P ρ) (w : World) (r : Nat) (m : List (κ × Value)) (hm : MapAt w r m) :
  Ret P (ρ.f 5) #[.map (some r)] w fun v w' => ∃ q, v = .map (some q) ∧ MapAt w' q m ∧ Chg [] w w' ∧ w.heap.size ≤ q := by
 obtain ⟨es, cl, hb, h⟩ := hm
 refine Calls.mono (AnyW.maps_Clone L r es cl w hb) ?_
 rintro e w' ⟨rfl, rfl⟩
 refine ⟨_, rfl, _, rfl, ⟨es, cl, ?_, h⟩, Chg.push w (.map es cl), Nat.le_refl _⟩
 exact ew w (.map es cl)
theorem zd {P : Program} {ρ : Ren} (L : SlLaysW.n5 P ρ) (w : World) (r : Nat) (f : PgF) (hm : SetAt w r f) :
  Ret P (ρ.f 5) #[.map (some r)] w fun v w' => ∃ q, v = .map (some q) ∧ SetAt w' q f ∧ Chg [] w w' ∧ w.heap.size ≤ q := by
 obtain ⟨m, h1, h2⟩ := hm
 refine Calls.mono (ze L w r m h1) ?_
 rintro e w' ⟨v, rfl, q, rfl, h3, h4, h5⟩
 exact ⟨_, rfl, q, rfl, ⟨m, h3, h2⟩, h4, h5⟩
end Go.Sac

end
section
namespace Go.Sac
open Go
structure Pst where
 root : UInt32
 txt : List UInt8
 used : PgF
 written : PgF
structure Pg where
 now : Pst
 kept : Sup
 at_ : Nat
 count : UInt32
 gens : UInt32 → Option UInt64
 broken : Bool
def Pg.free (P : Pg) (i : UInt32) : Bool := !P.now.used i && !P.kept.used i
def Pg.fresh (P : Pg) (i : UInt32) : Bool := P.now.used i && !P.kept.used i
structure PR where
 pb : Nat
 u : Nat
 r : Nat
 ku : Nat
 kr : Nat
 g : Nat
def PF (R : PR) : List Nat := [R.pb, R.u, R.r, R.ku, R.kr, R.g]
def stC (s : Pst) (u r : Nat) : List Value := [.int .u32 s.root.toNat, str s.txt, .map (some u), .map (some r)]
def stV (s : Pst) (u r : Nat) : Value := .agg (stC s u r).toArray
def Sup.st (s : Sup) : Pst := ⟨s.root, s.txt, s.used, s.written⟩
theorem Ab (s : Pst) (u r : Nat) : ∀ q ∈ stC s u r, eb q = true := by
 intro q hq
 simp only [stC, List.mem_cons, List.not_mem_nil, or_false] at hq
 rcases hq with rfl | rfl | rfl | rfl <;> rfl
def pgA (P : Pg) (R : PR) (b : Nat) : List Value := [.int .u32 P.now.root.toNat, str P.now.txt, .map (some R.u), .map (some R.r), .pointer (some ⟨b, 0, none⟩)]
def pgC (P : Pg) (R : PR) : List Value := [.int .u32 P.kept.root.toNat, str P.kept.txt, .map (some R.ku), .map (some R.kr), .int .u64 P.kept.commit.toNat, .int .u32 P.kept.epoch.toNat, .int .i64 P.at_, .int .u32 P.count.toNat, .map (some R.g), .bool P.broken]
def pgL (k pk : List UInt8) (A C : List Value) : List Value := A ++ (aW k ++ (aW pk ++ C))
def GenAt (w : World) (r : Nat) (f : UInt32 → Option UInt64) : Prop := ∃ m : List (UInt32 × Value), MapAt w r m ∧ ∀ k, bW k m = (f k).map fun x => Value.int .u64 x.toNat
def PagerAt (w : World) (R : PR) (b : Nat) (k : List UInt8) (P : Pg) : Prop :=
 Blk w R.pb (pgL k (aV k aZ 0) (pgA P R b) (pgC P R)) ∧ SetAt w R.u P.now.used ∧ SetAt w R.r P.now.written ∧ SetAt w R.ku P.kept.used ∧ SetAt w R.kr P.kept.written ∧ GenAt w R.g P.gens ∧ (PF R).Nodup
section
variable {k pk : List UInt8} {A A' C C' : List Value}
theorem kU (k : List UInt8) : (aW k).length = k.length := by rw [aK]; show k.length * 1 = _; omega
theorem eT (hk : k.length = 32) (hp : pk.length = 32) (hA : A.length = 5) (hC : C.length = 10) : (pgL k pk A C).length = 79 := by
 unfold pgL
 simp only [List.length_append, kU]; omega
theorem pgL_a (hA : A.length = 5) (i : Nat) (hi : i < 5) {v : Value} (h : A[i]? = some v) : (pgL k pk A C)[i]? = some v := by
 unfold pgL; rw [List.getElem?_append_left (by omega)]; exact h
theorem pgL_c (hk : k.length = 32) (hp : pk.length = 32) (hA : A.length = 5) (i : Nat) {v : Value} (h : C[i]? = some v) : (pgL k pk A C)[69 + i]? = some v := by
 unfold pgL
 rw [List.getElem?_append_right (by omega), List.getElem?_append_right (by rw [kU]; omega), List.getElem?_append_right (by rw [kU, kU]; omega), kU, kU, ← h]
 congr 1; omega
theorem pgL_pk (hk : k.length = 32) (hA : A.length = 5) : ((pgL k pk A C).drop 37).take (aW pk).length = aW pk := by
 unfold pgL
 rw [show 37 = 5 + 32 from rfl, ← List.drop_drop, List.drop_left' hA, List.drop_left' (by rw [kU]; exact hk), List.take_left' rfl]
theorem uj (hA : A.length = 5) (i : Nat) (l : List Value) (hi : i + l.length ≤ 5) (h : spl A i l = A') : spl (pgL k pk A C) i l = pgL k pk A' C := by
 subst h
 unfold pgL spl
 rw [List.take_append_of_le_length (by omega), List.drop_append_of_le_length (by omega)]
 simp only [List.append_assoc]
theorem hJ (X Y l : List Value) (n i : Nat) (hX : X.length = n) : spl (X ++ Y) (n + i) l = X ++ spl Y i l := by
 unfold spl
 rw [List.take_append, List.take_of_length_le (by omega), List.drop_append, List.drop_of_length_le (by omega), show n + i - X.length = i by omega, show n + i + l.length - X.length = i + l.length by omega]
 simp only [List.append_assoc, List.nil_append]
theorem jZ (hk : k.length = 32) (hp : pk.length = 32) (hA : A.length = 5) (i : Nat) (l : List Value) (h : spl C i l = C') : spl (pgL k pk A C) (69 + i) l = pgL k pk A C' := by
 subst h
 unfold pgL
 rw [show 69 + i = 5 + (32 + (32 + i)) by omega, hJ _ _ _ 5 _ hA, hJ _ _ _ 32 _ (by rw [kU]; exact hk), hJ _ _ _ 32 _ (by rw [kU]; exact hp)]
end
section
variable {w w' : World} {R : PR} {b : Nat} {k : List UInt8} {P : Pg}
theorem GenAt.mod {S : List Nat} {r : Nat} {f : UInt32 → Option UInt64} (h : GenAt w r f) (hm : Chg S w w') (hn : r ∉ S) : GenAt w' r f := by
 obtain ⟨m, h1, h2⟩ := h; exact ⟨m, h1.mod hm hn, h2⟩
theorem PagerAt.chg {S : List Nat} (h : PagerAt w R b k P) (hm : Chg S w w') (hn : ∀ x ∈ PF R, x ∉ S) : PagerAt w' R b k P := by
 obtain ⟨h1, h2, h3, h4, h5, h6, h7⟩ := h
 exact ⟨h1.chg hm (hn _ (by simp [PF])), h2.mod hm (hn _ (by simp [PF])), h3.mod hm (hn _ (by simp [PF])), h4.mod hm (hn _ (by simp [PF])), h5.mod hm (hn _ (by simp [PF])), h6.mod hm (hn _ (by simp [PF])), h7⟩
theorem PagerAt.chg0 (h : PagerAt w R b k P) (hm : Chg [] w w') : PagerAt w' R b k P := h.chg hm (by simp)
theorem PagerAt.lt (h : PagerAt w R b k P) : ∀ x ∈ PF R, x < w.heap.size := by
 obtain ⟨h1, h2, h3, h4, h5, h6, h7⟩ := h
 intro x hx
 simp only [PF, List.mem_cons, List.not_mem_nil, or_false] at hx
 obtain ⟨m, h6, _⟩ := h6
 rcases hx with rfl | rfl | rfl | rfl | rfl | rfl
 ·exact h1.lt
 ·exact h2.lt
 ·exact h3.lt
 ·exact h4.lt
 ·exact h5.lt
 ·exact h6.lt
theorem PagerAt.a (h : PagerAt w R b k P) (i : Nat) (hi : i < 5) {v : Value} (hv : (pgA P R b)[i]? = some v) : w.cell? ⟨R.pb, i, none⟩ = some v := h.1.c (pgL_a rfl i hi hv)
theorem PagerAt.c (h : PagerAt w R b k P) (hk : k.length = 32) (i : Nat) {v : Value} (hv : (pgC P R)[i]? = some v) : w.cell? ⟨R.pb, 69 + i, none⟩ = some v := h.1.c (pgL_c hk (dm _ _ _) rfl i hv)
theorem PagerAt.atP (h : PagerAt w R b k P) (hk : k.length = 32) : At w R.pb 37 (aW (aV k aZ 0)) := h.1.at (pgL_pk hk rfl)
end
section
variable {w w' : World} {R : PR} {b : Nat} {k : List UInt8} {P : Pg}
theorem PR.apart (h : (PF R).Nodup) : (R.pb ≠ R.u ∧ R.pb ≠ R.r ∧ R.pb ≠ R.ku ∧ R.pb ≠ R.kr ∧ R.pb ≠ R.g) ∧ (R.u ≠ R.r ∧ R.u ≠ R.ku ∧ R.u ≠ R.kr ∧ R.u ≠ R.g) ∧ (R.r ≠ R.ku ∧ R.r ≠ R.kr ∧ R.r ≠ R.g) ∧ (R.ku ≠ R.kr ∧ R.ku ≠ R.g) ∧ R.kr ≠ R.g := by
 simp only [PF, List.nodup_cons, List.mem_cons, List.not_mem_nil, or_false, not_or] at h
 obtain ⟨h1, h2, h3, h4, h5, _⟩ := h
 exact ⟨h1, h2, h3, h4, h5⟩
theorem PagerAt.updU {f : PgF} (h : PagerAt w R b k P) (hs : SetAt w' R.u f) (hc : Chg [R.u] w w') : PagerAt w' R b k { P with now := { P.now with used := f } } := by
 obtain ⟨h1, h2, h3, h4, h5, h6, h7⟩ := h
 obtain ⟨q1, q2, q3, q4, q5⟩ := PR.apart h7
 exact ⟨h1.nb hc q1.1, hs, h3.mod hc (by simpa using Ne.symm q2.1), h4.mod hc (by simpa using Ne.symm q2.2.1), h5.mod hc (by simpa using Ne.symm q2.2.2.1), h6.mod hc (by simpa using Ne.symm q2.2.2.2), h7⟩
theorem PagerAt.updW {f : PgF} (h : PagerAt w R b k P) (hs : SetAt w' R.r f) (hc : Chg [R.r] w w') : PagerAt w' R b k { P with now := { P.now with written := f } } := by
 obtain ⟨h1, h2, h3, h4, h5, h6, h7⟩ := h
 obtain ⟨q1, q2, q3, q4, q5⟩ := PR.apart h7
 exact ⟨h1.nb hc q1.2.1, h2.mod hc (by simpa using q2.1), hs, h4.mod hc (by simpa using Ne.symm q3.1), h5.mod hc (by simpa using Ne.symm q3.2.1), h6.mod hc (by simpa using Ne.symm q3.2.2), h7⟩
theorem PagerAt.updG {f : UInt32 → Option UInt64} (h : PagerAt w R b k P) (hs : GenAt w' R.g f) (hc : Chg [R.g] w w') : PagerAt w' R b k { P with gens := f } := by
 obtain ⟨h1, h2, h3, h4, h5, h6, h7⟩ := h
 obtain ⟨q1, q2, q3, q4, q5⟩ := PR.apart h7
 exact ⟨h1.nb hc q1.2.2.2.2, h2.mod hc (by simpa using q2.2.2.2), h3.mod hc (by simpa using q3.2.2), h4.mod hc (by simpa using q4.2), h5.mod hc (by simpa using q5), hs, h7⟩
theorem PagerAt.updC {P' : Pg} (h : PagerAt w R b k P) (hB : Blk w' R.pb (pgL k (aV k aZ 0) (pgA P' R b) (pgC P' R))) (hc : Chg [R.pb] w w') (h1 : P'.now.used = P.now.used) (h2 : P'.now.written = P.now.written) (h3 : P'.kept.used = P.kept.used) (h4 : P'.kept.written = P.kept.written) (h5 : P'.gens = P.gens) : PagerAt w' R b k P' := by
 obtain ⟨g1, g2, g3, g4, g5, g6, g7⟩ := h
 obtain ⟨q1, q2, q3, q4, q5⟩ := PR.apart g7
 refine ⟨hB, ?_, ?_, ?_, ?_, ?_, g7⟩
 ·rw [h1]; exact g2.mod hc (by simpa using Ne.symm q1.1)
 ·rw [h2]; exact g3.mod hc (by simpa using Ne.symm q1.2.1)
 ·rw [h3]; exact g4.mod hc (by simpa using Ne.symm q1.2.2.1)
 ·rw [h4]; exact g5.mod hc (by simpa using Ne.symm q1.2.2.2.1)
 ·rw [h5]; exact g6.mod hc (by simpa using Ne.symm q1.2.2.2.2)
end
def dR (P : Pg) (n : Nat) : Nat := ((List.range n).filter fun i => P.free (UInt32.ofNat i)).length
theorem vR (P : Pg) (n : Nat) : dR P (n + 1) = dR P n + (if P.free (UInt32.ofNat n) = true then 1 else 0) := by
 unfold dR
 rw [List.range_succ, List.filter_append, List.length_append]
 congr 1
 by_cases h : P.free (UInt32.ofNat n) = true <;> simp [h]
theorem Al (P : Pg) (n : Nat) : dR P n ≤ n := by
 unfold dR
 exact Nat.le_trans (List.length_filter_le _ _) (by simp)
def cK (l : List UInt8) : List UInt8 := be 2 l.length ++ l ++ List.replicate (480 - l.length) 0
def fk (pk : List UInt8) (i g : Nat) (l : List UInt8) : List UInt8 := be 8 g ++ eH pk (bX i g) aZ (cK l) ++ List.replicate 6 0
theorem j1 (l : List UInt8) (h : l.length ≤ 480) : (cK l).length = 482 := by simp [cK, aH]; omega
theorem jw (pk : List UInt8) (i g : Nat) (l : List UInt8) (h : l.length ≤ 480) : (fk pk i g l).length = 512 := by
 unfold fk
 simp only [List.length_append, fC, aH, j1 l h, List.length_replicate]
def Pg.gen (P : Pg) : UInt64 := u3 (cX (P.kept.epoch.toNat : Int)) 32 ||| cX (P.count.toNat : Int)
def pw (f : UInt32 → Option UInt64) (i : UInt32) (g : UInt64) : UInt32 → Option UInt64 := fun j => if j = i then some g else f j
theorem gen_law {f : UInt32 → Option UInt64} {m : List (UInt32 × Value)} (h : ∀ k, bW k m = (f k).map fun x => Value.int .u64 x.toNat) (i : UInt32) (g : UInt64) : ∀ k, bW k (db i (.int .u64 g.toNat) m) = (pw f i g k).map fun x => Value.int .u64 x.toNat := by
 intro k
 rw [lA]
 unfold pw
 by_cases hk : k = i
 ·rw [if_pos hk, if_pos hk]; rfl
 ·rw [if_neg hk, if_neg hk]; exact h k
theorem Ac {α : Type} (a b c m : List α) (hb : b.length = m.length) {k : Nat} (hk : a.length = k) : spl (a ++ b ++ c) k m = a ++ m ++ c := by
 subst hk
 unfold spl
 have e : a ++ b ++ c = a ++ (b ++ c) := List.append_assoc _ _ _
 rw [e, List.take_left' rfl, ← List.drop_drop, List.drop_left' rfl, List.drop_left' hb]
theorem yD (l : List UInt8) (h : l.length ≤ 480) : spl (be 2 l.length ++ List.replicate (482 - 2) (0 : UInt8)) 2 l = cK l := by
 have h2 : List.replicate (482 - 2) (0 : UInt8) = List.replicate l.length 0 ++ List.replicate (480 - l.length) 0 := by
  rw [List.replicate_append_replicate]; congr 1; omega
 rw [h2, ← List.append_assoc]
 exact Ac _ _ _ _ (by simp) (aH _ _)
theorem fR (g : Nat) (s : List UInt8) (h : s.length = 498) : spl (be 8 g ++ List.replicate (512 - 8) (0 : UInt8)) 8 s = be 8 g ++ s ++ List.replicate 6 0 := by
 have h2 : List.replicate (512 - 8) (0 : UInt8) = List.replicate 498 0 ++ List.replicate 6 0 := by
  rw [List.replicate_append_replicate]
 rw [h2, ← List.append_assoc]
 exact Ac _ _ _ _ (by rw [h, List.length_replicate]) (aH _ _)
theorem AZ {f : UInt32 → Option UInt64} {m : List (UInt32 × Value)} (h : ∀ k, bW k m = (f k).map fun x => Value.int .u64 x.toNat) (i : UInt32) : (bW i m).getD (.int .u64 0) = .int .u64 ((f i).getD 0).toNat := by
 rw [h i]
 cases f i with
 | none => simp
 | some x => simp
theorem tZ (X Y l : List Value) (h : l.length = X.length) : spl (X ++ Y) 0 l = l ++ Y := by
 unfold spl
 rw [List.take_zero, List.nil_append, Nat.zero_add, h, List.drop_left' rfl]
theorem Ax {z k pk : List UInt8} {A C : List Value} (hz : z.length = 32) (hk : k.length = 32) (hA : A.length = 5) : spl (pgL z pk A C) 5 (aW k) = pgL k pk A C := by
 unfold pgL
 rw [show 5 = 5 + 0 from rfl, hJ _ _ _ 5 _ hA, tZ _ _ _ (by rw [kU, kU, hz, hk])]
theorem Aw {z k pk : List UInt8} {A C : List Value} (hk : k.length = 32) (hz : z.length = 32) (hp : pk.length = 32) (hA : A.length = 5) : spl (pgL k z A C) 37 (aW pk) = pgL k pk A C := by
 unfold pgL
 rw [show 37 = 5 + (32 + 0) from rfl, hJ _ _ _ 5 _ hA, hJ _ _ _ 32 _ (by rw [kU]; exact hk), tZ _ _ _ (by rw [kU, kU, hz, hp])]
theorem fill2 {place : Nat → Option (Nat × Nat)} {cs cs' l : List Value} {i off size : Nat} {v : Value} {rest : List (Nat × Value)} {r : Option (Array Value)} (hp : place i = some (off, size)) (hv : v.cells.toList = l) (hl : l.length = size) (ho : off + size ≤ cs.length) (hs : spl cs off l = cs')
  (h : Instr.fill place cs'.toArray rest = r) : Instr.fill place cs.toArray ((i, v) :: rest) = r := by
 subst hs
 exact bY hp hv hl ho h
def z32 : List UInt8 := List.replicate 32 0
def pgA0 : List Value := [.int .u32 0, str [], .map none, .map none, .pointer none]
def pgC0 : List Value := [.int .u32 0, str [], .map none, .map none, .int .u64 0, .int .u32 0, .int .i64 0, .int .u32 0, .map none, .bool false]
theorem lp {place : Nat → Option (Nat × Nat)} {k pk : List UInt8} (hk : k.length = 32) (hpk : pk.length = 32) (s : Sup) (st : Pst) (b u' r' u rr g a : Nat) (h0 : place 0 = some (0, 4)) (h1 : place 1 = some (4, 1)) (h2 : place 2 = some (5, 32)) (h3 : place 3 = some (37, 32)) (h4 : place 4 = some (69, 6)) (h5 : place 5 = some (75, 1)) (h7 : place 7 = some (77, 1)) :
  Instr.fill place (pgL z32 z32 pgA0 pgC0).toArray [(0, stV st u' r'), (1, .pointer (some ⟨b, 0, none⟩)), (2, bT k), (3, bT pk), (4, yj s u rr), (5, .int .i64 a), (7, .map (some g))] =
   some (pgL k pk (pgA ⟨st, s, a, 0, fun _ => none, false⟩ ⟨0, u', r', u, rr, g⟩ b) (pgC ⟨st, s, a, 0, fun _ => none, false⟩ ⟨0, u', r', u, rr, g⟩)).toArray := by
 have hz : z32.length = 32 := rfl
 refine fill2 (l := stC st u' r') h0 rfl rfl (by rw [eT hz hz rfl rfl]; omega) (uj rfl 0 (stC st u' r') (Nat.le_of_ble_eq_true rfl) rfl) ?_
 refine fill2 (l := [.pointer (some ⟨b, 0, none⟩)]) h1 rfl rfl (by rw [eT hz hz rfl rfl]; omega) (uj rfl 4 [.pointer (some ⟨b, 0, none⟩)] (Nat.le_of_ble_eq_true rfl) rfl) ?_
 refine fill2 (l := aW k) h2 rfl (by rw [kU]; exact hk) (by rw [eT hz hz rfl rfl]; omega) (Ax hz hk rfl) ?_
 refine fill2 (l := aW pk) h3 rfl (by rw [kU]; exact hpk) (by rw [eT hk hz rfl rfl]; omega) (Aw hk hz hpk rfl) ?_
 refine fill2 (l := eK s u rr) h4 rfl rfl (by rw [eT hk hpk rfl rfl]; omega) (jZ hk hpk rfl 0 (eK s u rr) rfl) ?_
 refine fill2 (l := [.int .i64 a]) h5 rfl rfl (by rw [eT hk hpk rfl rfl]; omega) (jZ hk hpk rfl 6 [.int .i64 a] rfl) ?_
 refine fill2 (l := [.map (some g)]) h7 rfl rfl (by rw [eT hk hpk rfl rfl]; omega) (jZ hk hpk rfl 8 [.map (some g)] rfl) ?_
 exact ef rfl
end Go.Sac

end
section
namespace Go.Sac
open Go
theorem oV {ds : DSt} (i : Int) (l : List UInt8) (hf : ds.Fine) (h : ds.steps + (l.length + 63) / 64 ≤ 1000000000000) : (ds.writes i l).1.Fine ∧ (ds.writes i l).1.steps ≤ ds.steps + (l.length + 63) / 64 ∧ (ds.writes i l).1.kept = ds.kept := DSt.wr_bnd _ ds i l hf h
theorem jh (k : List UInt8) (ds : DSt) (a : Nat) (s : Sup) (hf : ds.Fine) (ht : s.txt.length ≤ 200) (h : ds.steps + 20 ≤ 1000000000000) :
  (cn k ds a s).1.Fine ∧ (cn k ds a s).1.steps ≤ ds.steps + 8 ∧ (cn k ds a s).1.kept.length = ds.kept.length := by
 have hl : (cN (bu k s) s.commit).length = 64 * ((150 + s.txt.length + 55) / 56) := by rw [j5, eZ]
 obtain ⟨h1, h2, h3⟩ := oV ((a : Int) * 16) (cN (bu k s) s.commit) hf (by omega)
 unfold cn
 split
 ·have h4 := DSt.flush_steps (ds.writes ((a : Int) * 16) (cN (bu k s) s.commit)).1
  exact ⟨h1.flush (by omega), by omega, by rw [DSt.flush_len, h3]⟩
 ·exact ⟨h1, by omega, by rw [h3]⟩
theorem uz {k : List UInt8} {ds : DSt} {s : Sup} {a : Nat} (h : newest k ds = some (s, a)) : a ≤ 1 ∧ dj k (fN (dU ds a)) = some s := by
 have h0 : ∀ (o : Option (Sup × Nat)) (i : Nat), cZ k ds o i = o ∨ ∃ s, cZ k ds o i = some (s, i) ∧ dj k (fN (dU ds i)) = some s := by
  intro o i
  unfold cZ
  split
  ·exact .inl rfl
  ·rename_i s0 hs0
   split
   ·exact .inr ⟨_, rfl, hs0⟩
   ·split
    ·exact .inr ⟨_, rfl, hs0⟩
    ·exact .inl rfl
 unfold newest at h
 rcases h0 (cZ k ds none 0) 1 with h1 | ⟨s1, h1, h2⟩
 ·rw [h1] at h
  rcases h0 none 0 with h3 | ⟨s3, h3, h4⟩
  ·rw [h3] at h; cases h
  ·rw [h3] at h; cases h; exact ⟨by omega, h4⟩
 ·rw [h1] at h; cases h; exact ⟨by omega, h2⟩
def pT (pk : List UInt8) (i : Nat) (t : List UInt8) : Option (List UInt8) :=
 if l7 pk (bX i (UInt64.ofNat (cI (t.take 8))).toNat) aZ ((t.drop 8).take 498) then
  some (((eV pk (bX i (UInt64.ofNat (cI (t.take 8))).toNat) ((t.drop 8).take 482)).drop 2).take (min (cI ((eV pk (bX i (UInt64.ofNat (cI (t.take 8))).toNat) ((t.drop 8).take 482)).take 2)) 480))
 else none
def genD (ds : DSt) (i : UInt32) : UInt64 := UInt64.ofNat (cI ((ds.reads (32 + (i.toNat : Int) * 8) 1).take 8))
def gR (P : Pg) (root : UInt32) (txt : List UInt8) : Sup := ⟨root, txt, P.now.used, P.now.written, P.kept.commit + 1, P.kept.epoch⟩
theorem rQ (k : List UInt8) (ds : DSt) : ou (newest k ds) = -1 ∨ ou (newest k ds) = 0 ∨ ou (newest k ds) = 1 := by
 have h0 : ∀ (o : Option (Sup × Nat)) (i : Nat), cZ k ds o i = o ∨ ∃ s, cZ k ds o i = some (s, i) := by
  intro o i
  unfold cZ
  split
  ·exact .inl rfl
  ·split
   ·exact .inr ⟨_, rfl⟩
   ·split
    ·exact .inr ⟨_, rfl⟩
    ·exact .inl rfl
 unfold newest
 rcases h0 (cZ k ds none 0) 1 with h | ⟨s, h⟩
 ·rw [h]
  rcases h0 none 0 with h | ⟨s, h⟩
  ·rw [h]; exact .inl rfl
  ·rw [h]; exact .inr (.inl rfl)
 ·rw [h]; exact .inr (.inr rfl)
def eE (k : List UInt8) (ds : DSt) (i : Nat) : Sup := ⟨0, [], j4, j4, eh k ds + cX (i : Int), qK (newest k ds) + 1⟩
def fJ (k : List UInt8) (ds : DSt) (i : Nat) : Nat := ((ou (newest k ds) + 1 + i) % 2).toNat
def fW (k : List UInt8) (ds : DSt) : Nat → DSt × Int
 | 0 => (ds, 0)
 | i + 1 => cn k (fW k ds i).1 (fJ k ds i) (eE k ds i)
theorem xO (k : List UInt8) (ds : DSt) (i : Nat) : fJ k ds i ≤ 1 := by unfold fJ; omega
theorem wI (k : List UInt8) (ds : DSt) (u r : Nat) {ep : UInt32} (h : ep = qK (newest k ds)) : eK (eE k ds 0) u r = [.int .u32 0, str [], .map (some u), .map (some r), .int .u64 (eh k ds).toNat, .int .u32 (ep + 1).toNat] := by
 have h0 : eh k ds + cX ((0 : Nat) : Int) = eh k ds := by rw [en]; exact UInt64.add_zero _
 subst h
 show [Value.int .u32 0, str [], .map (some u), .map (some r), .int .u64 (eh k ds + cX ((0 : Nat) : Int)).toNat, .int .u32 (qK (newest k ds) + 1).toNat] = _
 rw [h0]
theorem uM (k : List UInt8) (ds : DSt) (hf : ds.Fine) (h : ds.steps + 60 ≤ 1000000000000) : ∀ i, i ≤ 3 → (fW k ds i).1.Fine ∧ (fW k ds i).1.steps ≤ ds.steps + 8 * i ∧ (fW k ds i).1.kept.length = ds.kept.length
 | 0, _ => ⟨hf, Nat.le_refl _, rfl⟩
 | i + 1, hi => by
  obtain ⟨h1, h2, h3⟩ := uM k ds hf h i (by omega)
  obtain ⟨q1, q2, q3⟩ := jh k (fW k ds i).1 (fJ k ds i) (eE k ds i) h1 (by show 0 ≤ 200; omega) (by omega)
  exact ⟨q1, by show (cn k (fW k ds i).1 (fJ k ds i) (eE k ds i)).1.steps ≤ _; omega, by show (cn k (fW k ds i).1 (fJ k ds i) (eE k ds i)).1.kept.length = _; rw [q3, h3]⟩
theorem fmtS_ok (k : List UInt8) (ds : DSt) (i : Nat) : (eE k ds i).Ok := ⟨by show 0 ≤ 200; omega, fun _ h => Bool.noConfusion h, fun _ h => Bool.noConfusion h⟩
def opS (k : List UInt8) (ds : DSt) (s : Sup) : Sup := { s with commit := eh k ds, epoch := s.epoch + 1 }
end Go.Sac

end
section
namespace Go.Sac
open Go
section
variable {κ : Type} [Key κ] [DecidableEq κ]
def EntAt (w : World) (r : Nat) (m : List (κ × Value)) (k : κ) (born : Nat) : Prop :=
 ∃ es cl i, w.heap[r]? = some (.map es cl) ∧ es.findIdx? (fun e => (e.born : Int) == (born : Int)) = some i ∧
  ∀ v, ∀ w2 : World, w2.heap[r]? = some (.map (es.modify i fun e => { e with val := v }) cl) → MapAt w2 r (db k v m)
theorem EntAt.mod {S : List Nat} {w w' : World} {r : Nat} {m : List (κ × Value)} {k : κ} {born : Nat} (h : EntAt w r m k born) (hm : Chg S w w') (hn : r ∉ S) : EntAt w' r m k born := by
 obtain ⟨es, cl, i, h1, h2⟩ := h
 exact ⟨es, cl, i, hm.blk h1 hn, h2⟩
variable {P : Program} {E : Env} {w : World} {ty t : TypeId} {x y z : Operand}
theorem wN : exec P E (.mapEntry t x y) ty w = (gL (Instr.mapEntry t (ev E x) (ev E y))).run P w := rfl
theorem tk : exec P E (.entryStore t x y z) ty w = (zY (Instr.entryStore t (ev E x) (ev E y) (ev E z))).run P w := rfl
theorem sa {es : List MapEntry} (hn : (es.map (·.born)).Nodup) {i : Nat} {e : MapEntry} (he : es[i]? = some e) : es.findIdx? (fun x => (x.born : Int) == (e.born : Int)) = some i := by
 rw [List.findIdx?_eq_some_iff_getElem]
 have hi := (List.getElem?_eq_some_iff.1 he).1
 have hv := (List.getElem?_eq_some_iff.1 he).2
 refine ⟨hi, by rw [hv]; simp, fun j hj hb => ?_⟩
 have hj' : j < es.length := by omega
 simp only [beq_iff_eq] at hb
 have h1 := (List.pairwise_iff_getElem.1 hn) j i (by simpa using hj') (by simpa using hi) hj
 simp only [List.getElem_map, hv] at h1
 omega
theorem mP (a : Array MapEntry) (p : MapEntry → Bool) : a.findIdx? p = a.toList.findIdx? p := by
 obtain ⟨l⟩ := a
 simp
theorem oK {kt vt : TypeId} {nf : TypeInfo} {zv : Value} {r : Nat} {k : κ} {m : List (κ × Value)} (ht : P.underlying t = some (.map kt vt)) (hk : KeyOk P kt κ) (hi : P.info? vt = some nf) (hz : nf.zero = some zv) (hx : ev E x = .map (some r)) (hy : ev E y = Key.enc k) (hm : MapAt w r m) :
  ∃ v w', exec P E (.mapEntry t x y) ty w = .ok (.value v) w' ∧ ∃ born u, v = .tuple #[u, .int .i64 (born : Nat)] ∧ EntAt w' r m k born ∧ Chg [r] w w' ∧ w'.heap.size = w.heap.size := by
 obtain ⟨es, cl, hb, he, hn, hbn, hcl⟩ := hm
 have hg : (getObj r).run P w = .ok (.map es cl) w := by
  show Sem.run P (.getObj r .pure) w = _
  simp only [Sem.run, hb]
 have hset := fun v => lG k v es.toList m 0 he
 have key : ∃ u born o, (Instr.mapEntry t (.map (some r)) (Key.enc k)).run P w = .ok (.tuple #[u, .int .i64 (born : Nat)]) (w.setB r o) ∧ EntAt (w.setB r o) r m k born := by
  unfold Instr.mapEntry
  rw [an (run_underlying ht w)]
  simp only []
  rw [an hg]
  simp only []
  rw [an (hk.chk _ k w), an (hk.fnd k es.toList _ w (oE he))]
  cases hf : gl k es.toList (m.map (·.1)) 0 with
  | none =>
   simp only [hf] at hset ⊢
   rw [an (cA hi hz w), an (fu hb)]
   refine ⟨zv, cl, _, rfl, ?_⟩
   have hnb : (((es.push { key := Key.enc k, val := zv, born := cl }).toList).map (·.born)).Nodup := by
    simp only [Array.toList_push, List.map_append, List.map_cons, List.map_nil]
    refine List.nodup_append.2 ⟨hbn, by simp, ?_⟩
    intro a ha b hb'
    simp only [List.mem_singleton] at hb'
    obtain ⟨e, he', rfl⟩ := List.mem_map.1 ha
    have := hcl e he'
    omega
   refine ⟨_, _, es.size, di (bD hb), ?_, fun v w2 hw2 => ⟨_, _, hw2, ?_, ?_, ?_, ?_⟩⟩
   ·rw [mP]
    exact sa hnb (e := { key := Key.enc k, val := zv, born := cl }) (by simp)
   ·have hl : ((es.push { key := Key.enc k, val := zv, born := cl }).modify es.size fun e => { e with val := v }).toList = es.toList ++ [{ key := Key.enc k, val := v, born := cl }] := by
     rw [Array.toList_modify, Array.toList_push]
     apply List.ext_getElem?
     intro i
     rw [List.getElem?_modify]
     by_cases hi' : es.size = i
     ·subst hi'; simp
     ·simp only [hi', if_false, List.getElem?_append, Array.length_toList]
      by_cases hlt : i < es.size
      ·simp [hlt]
      ·obtain ⟨d, hd⟩ : ∃ d, i - es.size = d + 1 := ⟨i - es.size - 1, by omega⟩
       simp [hlt, hd]
    rw [hl, (hset v).2.1]
    simp [he]
   ·rw [(hset v).2.1]; simp only [List.map_append, List.map_cons, List.map_nil]
    exact List.nodup_append.2 ⟨hn, by simp, by simpa using fun a b hab => by intro hh; subst hh; exact (hset v).1 (List.mem_map.2 ⟨_, hab, rfl⟩)⟩
   ·have : (((es.push { key := Key.enc k, val := zv, born := cl }).modify es.size fun e => { e with val := v }).toList.map (·.born)) = ((es.push { key := Key.enc k, val := zv, born := cl }).toList).map (·.born) := by
     rw [Array.toList_modify]
     apply List.ext_getElem?
     intro i
     simp only [List.getElem?_map, List.getElem?_modify]
     split
     ·cases (es.push { key := Key.enc k, val := zv, born := cl }).toList[i]? <;> rfl
     ·cases (es.push { key := Key.enc k, val := zv, born := cl }).toList[i]? <;> rfl
    rw [this]; exact hnb
   ·intro e he'
    rw [Array.toList_modify] at he'
    obtain ⟨i, hi'⟩ := List.mem_iff_getElem?.1 he'
    rw [List.getElem?_modify] at hi'
    cases hh : (es.push { key := Key.enc k, val := zv, born := cl }).toList[i]? with
    | none => rw [hh] at hi'; simp at hi'
    | some e0 =>
     rw [hh] at hi'
     have h0 : e0.born < cl + 1 := by
      have hmem := List.mem_of_getElem? hh
      simp only [Array.toList_push, List.mem_append, List.mem_singleton] at hmem
      rcases hmem with h | rfl
      ·have := hcl e0 h; omega
      ·simp
     by_cases hij : es.size = i
     ·simp [hij] at hi'; subst hi'; exact h0
     ·simp [hij] at hi'; subst hi'; exact h0
  | some q =>
   obtain ⟨j, v'⟩ := q
   simp only [hf, Nat.sub_zero] at hset ⊢
   obtain ⟨_, h2, _, _, h5, _⟩ := hset v'
   have hjs : j < es.toList.length := h2
   have hej : es.toList[j]? = some es.toList[j] := List.getElem?_eq_getElem hjs
   have hej' : es[j]? = some es.toList[j] := by rw [← hej]; simp
   have hkj : (es.toList[j]).key = Key.enc k := by rw [hej] at h5; simpa using h5
   have hkey : ((es[j]?).map (·.key)).getD (Key.enc k) = Key.enc k := by rw [hej']; exact hkj
   rw [hkey]
   have hst : (Instr.keyThatStays (Key.enc k) (Key.enc k)).run P w = .ok (Key.enc k) w := by
    unfold Instr.keyThatStays
    rw [if_pos (Key.bits k)]; rfl
   rw [an hst, an (fu hb)]
   have hbo : ((es[j]?).map (fun x => (x.born : Int))).getD 0 = ((es.toList[j]).born : Int) := by rw [hej']; rfl
   rw [hbo]
   refine ⟨v', (es.toList[j]).born, _, rfl, ?_⟩
   have hme : es.modify j (fun e => { e with key := Key.enc k }) = es := by
    apply Array.ext'
    rw [Array.toList_modify]
    apply List.ext_getElem?
    intro i
    rw [List.getElem?_modify]
    by_cases hij : j = i
    ·subst hij; rw [hej]; simp [← hkj]
    ·simp [hij]
   rw [hme]
   refine ⟨_, _, j, di (bD hb), ?_, fun v w2 hw2 => ⟨_, _, hw2, ?_, ?_, ?_, ?_⟩⟩
   ·rw [mP]
    exact sa hbn hej
   ·obtain ⟨_, _, h3, _, _, _⟩ := hset v
    rw [← h3, Array.toList_modify]
    congr 1
    apply List.ext_getElem?
    intro i
    simp only [List.getElem?_modify]
    by_cases hij : j = i
    ·subst hij; rw [hej]; simp [← hkj]
    ·simp [hij]
   ·obtain ⟨_, _, _, h4, _, _⟩ := hset v
    rw [h4]; exact hn
   ·have : ((es.modify j fun e => { e with val := v }).toList.map (·.born)) = es.toList.map (·.born) := by
     rw [Array.toList_modify]
     apply List.ext_getElem?
     intro i
     simp only [List.getElem?_map, List.getElem?_modify]
     split
     ·cases es.toList[i]? <;> rfl
     ·cases es.toList[i]? <;> rfl
    rw [this]; exact hbn
   ·intro e he'
    rw [Array.toList_modify] at he'
    obtain ⟨i, hi'⟩ := List.mem_iff_getElem?.1 he'
    rw [List.getElem?_modify] at hi'
    cases hh : es.toList[i]? with
    | none => rw [hh] at hi'; simp at hi'
    | some e0 =>
     rw [hh] at hi'
     have := hcl e0 (List.mem_of_getElem? hh)
     by_cases hij : j = i
     ·subst hij; simp at hi'; subst hi'; exact this
     ·simp [hij] at hi'; subst hi'; exact this
 obtain ⟨u, born, o, h1, h2⟩ := key
 refine ⟨_, _, ?_, born, u, rfl, h2, Chg.set _ _ _, cR _ _ _⟩
 rw [wN, hx, hy]
 exact aT h1
theorem lS {r : Nat} {k : κ} {v : Value} {m : List (κ × Value)} {born : Nat} (hx : ev E x = .map (some r)) (hy : ev E y = .int .i64 born) (hv : ev E z = v) (hm : EntAt w r m k born) :
  ∃ w', exec P E (.entryStore t x y z) ty w = .ok .skip w' ∧ MapAt w' r (db k v m) ∧ Chg [r] w w' ∧ w'.heap.size = w.heap.size := by
 obtain ⟨es, cl, i, hb, hf, hs⟩ := hm
 have hg : (getObj r).run P w = .ok (.map es cl) w := by
  show Sem.run P (.getObj r .pure) w = _
  simp only [Sem.run, hb]
 refine ⟨w.setB r (.map (es.modify i fun e => { e with val := v }) cl), ?_, hs v _ (di (bD hb)), Chg.set _ _ _, cR _ _ _⟩
 rw [tk, hx, hy, hv]
 have key : (Instr.entryStore t (.map (some r)) (.int .i64 born) v).run P w = .ok () (w.setB r (.map (es.modify i fun e => { e with val := v }) cl)) := by
  unfold Instr.entryStore
  simp only []
  rw [an hg]
  simp only []
  have ha : (asInt (.int .i64 (born : Int))).run P w = .ok (born : Int) w := rfl
  rw [an ha]
  simp only [hf]
  exact fu hb
 exact pA key
end
end Go.Sac

end
section
namespace Go.Sac
open Go
def SlE {α : Type} [Flat α] (w : World) (v : Value) (l : List α) : Prop := Sl w v l ∨ (l = [] ∧ ∃ p c, v = .slice p 0 c)
section
variable {α : Type} [Flat α] {P : Program} {E : Env} {w w' : World} {v : Value} {l : List α} {S : List Nat} {ty t u : TypeId} {x : Operand}
theorem SlE.form (h : SlE w v l) : ∃ p c, v = .slice p l.length c := by
 rcases h with h | ⟨rfl, p, c, rfl⟩
 ·exact h.form rfl
 ·exact ⟨p, c, rfl⟩
theorem SlE.mod (h : SlE w v l) (hm : Chg S w w') (hn : l ≠ [] → ∀ b ∈ aq v, b ∉ S) : SlE w' v l := by
 by_cases hl : l = []
 ·subst hl
  obtain ⟨p, c, rfl⟩ := h.form
  exact .inr ⟨rfl, p, c, rfl⟩
 ·rcases h with h | ⟨h, _⟩
  ·exact .inl (h.mod hm (hn hl))
  ·exact absurd h hl
theorem SlE.mod0 (h : SlE w v l) (hm : Chg [] w w') : SlE w' v l := h.mod hm (fun _ _ _ => by simp)
theorem SlE.lt (h : SlE w v l) (hl : l ≠ []) : ∀ b ∈ aq v, b < w.heap.size := by
 rcases h with h | ⟨h, _⟩
 ·exact h.lt
 ·exact absurd h hl
theorem SlE.src (h : SlE w v l) : Src α P w v l := by
 rcases h with h | ⟨rfl, p, c, rfl⟩
 ·exact h.src
 ·refine ⟨rfl, fun w' _ n hn => ?_⟩
  obtain rfl : n = 0 := by simpa using hn
  cases p with
  | none => rfl
  | some a =>
   show (loadCells a (0 * Flat.sz α)).run P w' = _
   rw [Nat.zero_mul]
   rfl
end
end Go.Sac

end
section
namespace Go.Sac
open Go
def chS (l : List UInt8) (q : Nat) : Sec := DSt.putS sec0 ((l.drop (64 * q)).take 64)
theorem Ap (c c' : Sec) (l : List UInt8) (h : l.length = 64) : DSt.putS c l = DSt.putS c' l := by
 apply Subtype.ext
 rw [kL _ _ (by omega), kL _ _ (by omega), List.drop_of_length_le (by rw [c.2]; omega), List.drop_of_length_le (by rw [c'.2]; omega)]
theorem tq (l : List UInt8) (q n : Nat) (h : l.length = 64 * n) (hq : q < n) : (chS l q).1 = (l.drop (64 * q)).take 64 := by
 have hl : ((l.drop (64 * q)).take 64).length = 64 := by rw [List.length_take, List.length_drop]; omega
 unfold chS
 rw [kL _ _ (by omega), hl, show sec0.1.drop 64 = [] from List.drop_of_length_le (by rw [sec0.2]; omega), List.append_nil]
theorem Bc (l : List UInt8) (q : Nat) : chS (l.drop 64) q = chS l (q + 1) := by
 unfold chS
 rw [List.drop_drop, show 64 + 64 * q = 64 * (q + 1) by omega]
structure Put (s s' : DSt) (i : Int) (l : List UInt8) (m : Nat) : Prop where
 kept : s'.kept = s.kept
 offAt : s'.offAt = s.offAt
 pend : ∀ j, bW j s'.pend = if i ≤ j ∧ j < i + m then some (chS l (j - i).toNat) else bW j s.pend
theorem wr_put (n : Nat) : ∀ (s : DSt) (i : Int) (l : List UInt8), l.length = 64 * n → 0 ≤ i → i + n ≤ s.kept.length →
  ∃ m, m ≤ n ∧ Put s (DSt.wr n s i l).1 i l m ∧ (((DSt.wr n s i l).2 = 0 ∧ m = n) ∨ ((DSt.wr n s i l).2 = 61 ∧ m < n ∧ 0 < s.offAt)) := by
 induction n with
 | zero =>
  intro s i l _ _ _
  refine ⟨0, Nat.le_refl _, ⟨rfl, rfl, fun j => ?_⟩, .inl ⟨rfl, rfl⟩⟩
  rw [if_neg (by omega)]; rfl
 | succ n ih =>
  intro s i l hl hi hn
  have hl1 : (l.take 64).length = 64 := by rw [List.length_take]; omega
  by_cases hoff : s.step.off = true
  ·have hw : s.write i (l.take 64) = (s.step, 61) := by unfold DSt.write; rw [if_pos hoff]
   have hr : DSt.wr (n + 1) s i l = (s.step, 61) := by rw [DSt.wr, hw, if_neg (show ¬ (61 : Int) = 0 by decide)]
   refine ⟨0, by omega, ?_, .inr ⟨by rw [hr], by omega, ?_⟩⟩
   ·rw [hr]
    refine ⟨rfl, rfl, fun j => ?_⟩
    rw [if_neg (by omega)]; rfl
   ·have : s.step.offAt = s.offAt := rfl
    unfold DSt.off at hoff
    simp only [Bool.and_eq_true, decide_eq_true_eq] at hoff
    omega
  ·have his : s.is i = true := DSt.is_iff.2 (by omega)
   have hw : s.write i (l.take 64) = ({ s.step with pend := db i (DSt.putS (s.now i) (l.take 64)) s.pend }, 0) := by
    unfold DSt.write
    rw [if_neg hoff, if_neg (by rw [his, hl1]; decide)]
   have hr : DSt.wr (n + 1) s i l = DSt.wr n { s.step with pend := db i (DSt.putS (s.now i) (l.take 64)) s.pend } (i + 1) (l.drop 64) := by rw [DSt.wr, hw, if_pos rfl]
   obtain ⟨m, hm, ⟨h1, h2, h3⟩, h4⟩ := ih { s.step with pend := db i (DSt.putS (s.now i) (l.take 64)) s.pend } (i + 1) (l.drop 64) (by rw [List.length_drop]; omega) (by omega) (by show i + 1 + (n : Int) ≤ (s.kept.length : Int); omega)
   rw [hr]
   refine ⟨m + 1, by omega, ⟨h1, h2, fun j => ?_⟩, ?_⟩
   ·rw [h3 j, lA]
    by_cases hj : j = i
    ·subst hj
     rw [if_neg (by omega), if_pos rfl, if_pos (by omega)]
     congr 1
     rw [Ap _ sec0 _ hl1]
     unfold chS
     rw [show (j - j).toNat = 0 by omega, Nat.mul_zero, List.drop_zero]
    ·rw [if_neg hj]
     by_cases hj2 : i + 1 ≤ j ∧ j < i + 1 + m
     ·rw [if_pos hj2, if_pos (by omega), Bc]
      congr 2
      omega
     ·rw [if_neg hj2, if_neg (by omega)]
   ·rcases h4 with ⟨q1, q2⟩ | ⟨q1, q2, q3⟩
    ·exact .inl ⟨q1, by omega⟩
    ·exact .inr ⟨q1, by omega, q3⟩
theorem oU (n : Nat) (s : DSt) (i : Int) (l : List UInt8) (hl : l.length = 64 * n) (hi : 0 ≤ i) (hn : i + n ≤ s.kept.length) :
  ∃ m, m ≤ n ∧ Put s (s.writes i l).1 i l m ∧ (((s.writes i l).2 = 0 ∧ m = n) ∨ ((s.writes i l).2 = 61 ∧ m < n ∧ 0 < s.offAt)) := by
 unfold DSt.writes
 rw [show (l.length + 63) / 64 = n by omega]
 exact wr_put n s i l hl hi hn
theorem rn (n : Nat) (s : DSt) (i : Int) (l : List UInt8) (ho : s.offAt = 0) (hl : l.length = 64 * n) (hi : 0 ≤ i) (hn : i + n ≤ s.kept.length) : (s.writes i l).2 = 0 ∧ Put s (s.writes i l).1 i l n := by
 obtain ⟨m, _, h1, h2⟩ := oU n s i l hl hi hn
 rcases h2 with ⟨q1, rfl⟩ | ⟨_, _, q⟩
 ·exact ⟨q1, h1⟩
 ·omega
theorem Put.now {s s' : DSt} {i : Int} {l : List UInt8} {m : Nat} (h : Put s s' i l m) (j : Int) : s'.now j = if i ≤ j ∧ j < i + m then chS l (j - i).toNat else s.now j := by
 unfold DSt.now
 rw [h.pend j, h.kept]
 by_cases hj : i ≤ j ∧ j < i + m
 ·rw [if_pos hj, if_pos hj]; rfl
 ·rw [if_neg hj, if_neg hj]
theorem iU {s s' : DSt} {i : Int} {n : Nat} (h : ∀ q : Nat, q < n → s'.now (i + q) = s.now (i + q)) : s'.reads i n = s.reads i n := by
 induction n with
 | zero => rfl
 | succ n ih => rw [DSt.reads_succ, DSt.reads_succ, ih (fun q hq => h q (by omega)), h n (by omega)]
theorem uh {s : DSt} {i : Int} {l : List UInt8} {n : Nat} (hl : 64 * n ≤ l.length) (h : ∀ q : Nat, q < n → (s.now (i + q)).1 = (l.drop (64 * q)).take 64) : s.reads i n = l.take (64 * n) := by
 induction n with
 | zero => rfl
 | succ n ih =>
  rw [DSt.reads_succ, ih (by omega) (fun q hq => h q (by omega)), h n (by omega), show 64 * (n + 1) = 64 * n + 64 by omega, List.take_add]
theorem Put.reads {s s' : DSt} {i : Int} {l : List UInt8} {n : Nat} (h : Put s s' i l n) (hl : l.length = 64 * n) : s'.reads i n = l := by
 rw [uh (l := l) (by omega) (fun q hq => ?_), ← hl, List.take_length]
 rw [h.now, if_pos (by omega), show (i + (q : Int) - i).toNat = q by omega, tq l q n hl hq]
theorem Put.other {s s' : DSt} {i : Int} {l : List UInt8} {m : Nat} (h : Put s s' i l m) {j : Int} {n : Nat} (hd : j + n ≤ i ∨ i + m ≤ j) : s'.reads j n = s.reads j n :=
 iU fun q hq => by rw [h.now, if_neg (by omega)]
theorem nw {s : DSt} (h : s.flush.2 = 0) {j : Int} (h0 : 0 ≤ j) (h1 : j < s.kept.length) : s.flush.1.now j = s.now j := by
 unfold DSt.flush at h ⊢
 by_cases hq : s.step.off = true
 ·rw [if_pos hq] at h; exact absurd h (show ¬ (61 : Int) = 0 by decide)
 ·rw [if_neg hq]
  obtain ⟨n, rfl⟩ : ∃ n : Nat, j = n := ⟨j.toNat, by omega⟩
  show (DSt.apply s.kept s.pend).getD (n : Int).toNat sec0 = _
  rw [show (n : Int).toNat = n from rfl, zk _ _ _ (by omega)]
  rfl
theorem wJ {s : DSt} (h : s.flush.2 = 0) : s.flush.1.pend = [] := by
 unfold DSt.flush at h ⊢
 by_cases hq : s.step.off = true
 ·rw [if_pos hq] at h; exact absurd h (show ¬ (61 : Int) = 0 by decide)
 ·rw [if_neg hq]
theorem nZ (s : DSt) : s.flush.1.offAt = s.offAt := by unfold DSt.flush; split <;> rfl
theorem rZ (s : DSt) : s.flush.2 = 0 ∨ (s.flush.2 = 61 ∧ s.flush.1 = s.step ∧ 0 < s.offAt) := by
 unfold DSt.flush
 by_cases hq : s.step.off = true
 ·rw [if_pos hq]
  refine .inr ⟨rfl, rfl, ?_⟩
  unfold DSt.off at hq
  simp only [Bool.and_eq_true, decide_eq_true_eq] at hq
  exact hq.1
 ·rw [if_neg hq]; exact .inl rfl
theorem B2 {s : DSt} (h : s.offAt = 0) : s.flush.2 = 0 := by
 rcases rZ s with h1 | ⟨_, _, h1⟩
 ·exact h1
 ·omega
def fV (s : Sup) : Nat := (150 + s.txt.length + 55) / 56
theorem ic (k : List UInt8) (s : Sup) : (cN (bu k s) s.commit).length = 64 * fV s := by rw [j5, eZ]; rfl
theorem kG {s : Sup} (h : s.txt.length ≤ 200) : 3 ≤ fV s ∧ fV s ≤ 7 := by unfold fV; omega
structure Laid (k : List UInt8) (ds ds' : DSt) (a : Nat) (s : Sup) : Prop where
 pend : ds'.pend = []
 offAt : ds'.offAt = ds.offAt
 now : ∀ j : Int, 0 ≤ j → j < ds.kept.length → ds'.now j = if (a : Int) * 16 ≤ j ∧ j < (a : Int) * 16 + fV s then chS (cN (bu k s) s.commit) (j - (a : Int) * 16).toNat else ds.now j
 len : ds'.kept.length = ds.kept.length
theorem uG (k : List UInt8) (ds : DSt) (a : Nat) (s : Sup) (ha : a ≤ 1) (hl : 32 ≤ ds.kept.length) (ht : s.txt.length ≤ 200) :
  ((cn k ds a s).2 = 0 ∧ Laid k ds (cn k ds a s).1 a s) ∨ ((cn k ds a s).2 = 61 ∧ 0 < ds.offAt ∧ ∃ m, m ≤ fV s ∧ Put ds (cn k ds a s).1 ((a : Int) * 16) (cN (bu k s) s.commit) m) := by
 have hn := kG ht
 obtain ⟨m, hm, hp, hr⟩ := oU (fV s) ds ((a : Int) * 16) (cN (bu k s) s.commit) (ic k s) (by omega) (by omega)
 unfold cn
 rcases hr with ⟨h0, rfl⟩ | ⟨h0, _, h2⟩
 ·rw [if_pos h0]
  rcases rZ (ds.writes ((a : Int) * 16) (cN (bu k s) s.commit)).1 with hf | ⟨hf, hf2, hf3⟩
  ·refine .inl ⟨hf, wJ hf, by rw [nZ, hp.offAt], fun j hj0 hj1 => ?_, by rw [DSt.flush_len, hp.kept]⟩
   rw [nw hf hj0 (by rw [hp.kept]; exact hj1), hp.now]
  ·refine .inr ⟨hf, by rw [hp.offAt] at hf3; exact hf3, fV s, Nat.le_refl _, ?_⟩
   rw [hf2]
   exact ⟨hp.kept, hp.offAt, hp.pend⟩
 ·rw [if_neg (by rw [h0]; decide)]
  exact .inr ⟨h0, h2, m, hm, hp⟩
theorem mK {k : List UInt8} {ds : DSt} {a : Nat} {s : Sup} (ho : ds.offAt = 0) (ha : a ≤ 1) (hl : 32 ≤ ds.kept.length) (ht : s.txt.length ≤ 200) : (cn k ds a s).2 = 0 ∧ Laid k ds (cn k ds a s).1 a s := by
 rcases uG k ds a s ha hl ht with h | ⟨_, h, _⟩
 ·exact h
 ·omega
section
variable {k : List UInt8} {ds ds' : DSt} {a : Nat} {s : Sup}
theorem Laid.other (h : Laid k ds ds' a s) {j : Int} {n : Nat} (h0 : 0 ≤ j) (h1 : j + n ≤ ds.kept.length) (hd : j + n ≤ (a : Int) * 16 ∨ (a : Int) * 16 + fV s ≤ j) : ds'.reads j n = ds.reads j n :=
 iU fun q hq => by rw [h.now _ (by omega) (by omega), if_neg (by omega)]
theorem kK (ds : DSt) (i : Int) (m n : Nat) : ds.reads i (m + n) = ds.reads i m ++ ds.reads (i + m) n := by
 induction n with
 | zero => rw [Nat.add_zero, DSt.reads_zero, List.append_nil]
 | succ n ih =>
  rw [← Nat.add_assoc, DSt.reads_succ, ih, DSt.reads_succ, List.append_assoc, show i + ((m + n : Nat) : Int) = i + (m : Int) + (n : Int) by omega]
theorem Laid.reg (h : Laid k ds ds' a s) (ha : a ≤ 1) (hl : 32 ≤ ds.kept.length) (ht : s.txt.length ≤ 200) : dU ds' a = cN (bu k s) s.commit ++ ds.reads ((a : Int) * 16 + fV s) (16 - fV s) := by
 have hn := kG ht
 unfold dU
 have hsp := kK ds' ((a : Int) * 16) (fV s) (16 - fV s)
 rw [show fV s + (16 - fV s) = 16 by omega] at hsp
 rw [hsp]
 congr 1
 ·rw [uh (l := cN (bu k s) s.commit) (by rw [ic]; omega) (fun q hq => ?_), ← ic k s, List.take_length]
  rw [h.now _ (by omega) (by omega), if_pos (by omega), show ((a : Int) * 16 + (q : Int) - (a : Int) * 16).toNat = q by omega, tq _ q _ (ic k s) hq]
 ·exact h.other (n := 16 - fV s) (by omega) (by omega) (.inr (Int.le_refl _))
end
def Stands (ds : DSt) (pk : List UInt8) (i : Nat) (g : UInt64) (l : List UInt8) : Prop := ds.reads (32 + (i : Int) * 8) 8 = fk pk i g.toNat l ∧ l.length ≤ 480
theorem nm (pk : List UInt8) (i : Nat) (g : UInt64) (l : List UInt8) : UInt64.ofNat (cI ((fk pk i g.toNat l).take 8)) = g := by
 unfold fk
 rw [List.append_assoc, List.take_left' (aH _ _), kM]
theorem uu (pk : List UInt8) (i : Nat) (g : UInt64) (l : List UInt8) (h : l.length ≤ 480) : pT pk i (fk pk i g.toNat l) = some l := by
 have hpl := j1 l h
 have hsl : (eH pk (bX i g.toNat) aZ (cK l)).length = 498 := by rw [fC, hpl]
 have h8 : ((fk pk i g.toNat l).drop 8) = eH pk (bX i g.toNat) aZ (cK l) ++ List.replicate 6 0 := by
  unfold fk
  rw [List.append_assoc, List.drop_left' (aH _ _)]
 have h498 : ((fk pk i g.toNat l).drop 8).take 498 = eH pk (bX i g.toNat) aZ (cK l) := by rw [h8, List.take_left' hsl]
 have h482 : ((fk pk i g.toNat l).drop 8).take 482 = (eH pk (bX i g.toNat) aZ (cK l)).take ((eH pk (bX i g.toNat) aZ (cK l)).length - 16) := by
  rw [h8, hsl, List.take_append_of_le_length (by omega)]
 unfold pT
 rw [nm, h498, if_pos (yr _ _ _ _), h482, vN]
 have hd : (cK l).drop 2 = l ++ List.replicate (480 - l.length) 0 := by
  unfold cK; rw [List.append_assoc, List.drop_left' (aH _ _)]
 have htk : cI ((cK l).take 2) = l.length := by
  unfold cK; rw [List.append_assoc, List.take_left' (aH _ _), iV]; exact Nat.mod_eq_of_lt (by omega)
 rw [hd, htk, Nat.min_eq_left h, List.take_left' rfl]
end Go.Sac

end
section
namespace Go.Sac
open Go
theorem eQ {α : Type} {a b : List α} {n m : Nat} (h : a.length = m) (hm : m ≤ n) : (a ++ b).drop n = b.drop (n - m) := by
 rw [List.drop_append, List.drop_of_length_le (by omega), List.nil_append, h]
def AA (n : Nat) (b : List UInt8) : List UInt8 := b ++ List.replicate (56 * n - b.length) 0
theorem yE (n : Nat) (b : List UInt8) (h : b.length ≤ 56 * (n + 1)) : (b.take 56 ++ List.replicate (56 - (b.take 56).length) 0) ++ AA n (b.drop 56) = AA (n + 1) b := by
 unfold AA
 by_cases hb : b.length ≤ 56
 ·rw [List.take_of_length_le hb, List.drop_of_length_le hb, List.nil_append, List.append_assoc, List.replicate_append_replicate]
  congr 2
  simp only [List.length_nil]; omega
 ·have h1 : (b.take 56).length = 56 := by rw [List.length_take]; omega
  rw [h1, Nat.sub_self, List.replicate_zero, List.append_nil, ← List.append_assoc, List.take_append_drop, List.length_drop]
  congr 2
  omega
theorem iX (n : Nat) (nb b : List UInt8) (rest : List UInt8) (hn : nb.length = 4) :
  ((ei (n + 1) nb b ++ rest).take 4 = nb) ∧ (((ei (n + 1) nb b ++ rest).drop 60).take 4 = nb) ∧ (((ei (n + 1) nb b ++ rest).drop 4).take 56 = b.take 56 ++ List.replicate (56 - (b.take 56).length) 0) ∧ ((ei (n + 1) nb b ++ rest).drop 64 = ei n nb (b.drop 56) ++ rest) := by
 have hp : (b.take 56 ++ List.replicate (56 - (b.take 56).length) (0 : UInt8)).length = 56 := by
  rw [List.length_append, List.length_replicate, List.length_take]; omega
 generalize hP : b.take 56 ++ List.replicate (56 - (b.take 56).length) (0 : UInt8) = p at hp
 have hf : ei (n + 1) nb b ++ rest = nb ++ (p ++ (nb ++ (ei n nb (b.drop 56) ++ rest))) := by
  rw [ei, ← hP]
  simp only [List.append_assoc]
 rw [hf]
 refine ⟨List.take_left' hn, ?_, ?_, ?_⟩
 ·rw [eQ hn (by omega), eQ hp (by omega), List.drop_zero, List.take_left' hn]
 ·rw [List.drop_left' hn, List.take_left' hp]
 ·rw [eQ hn (by omega), eQ hp (by omega), eQ hn (by omega)]; rfl
theorem oY (nb : List UInt8) (hn : nb.length = 4) (rest : List UInt8) : ∀ (n N : Nat) (b : List UInt8), n ≤ N → b.length ≤ 56 * n →
  jI nb N (ei n nb b ++ rest) = AA n b ++ jI nb (N - n) rest
 | 0, N, b, _, hb => by
  have : b = [] := List.eq_nil_of_length_eq_zero (by omega)
  subst this
  rfl
 | n + 1, N, b, hN, hb => by
  obtain ⟨N, rfl⟩ : ∃ q, N = q + 1 := ⟨N - 1, by omega⟩
  obtain ⟨h1, h2, h3, h4⟩ := iX n nb b rest hn
  rw [jI, if_pos ⟨h1, h2⟩, h3, h4, oY nb hn rest n N (b.drop 56) (by omega) (by rw [List.length_drop]; omega), ← List.append_assoc, yE n b hb, show N + 1 - (n + 1) = N - n by omega]
theorem zZ (k : List UInt8) (s : Sup) (rest : List UInt8) (h : fV s ≤ 16) (hr : rest.length = 64 * (16 - fV s)) : ∃ z, fN (cN (bu k s) s.commit ++ rest) = bu k s ++ z := by
 have hl : (cN (bu k s) s.commit ++ rest).length = 1024 := by rw [List.length_append, ic, hr]; omega
 have hsl := eZ k s
 have hN : fV s = ((bu k s).length + 55) / 56 := by rw [hsl]; rfl
 have h3 : 2 ≤ fV s := by unfold fV; omega
 have hfr : cN (bu k s) s.commit = ei (fV s) (be 4 s.commit.toNat) (bu k s) := by unfold cN; rw [← hN]
 unfold fN
 rw [hl, hfr]
 obtain ⟨m, hm⟩ : ∃ m, fV s = m + 1 := ⟨fV s - 1, by omega⟩
 have hh := (iX m (be 4 s.commit.toNat) (bu k s) rest (aH _ _)).1
 rw [← hm] at hh
 rw [hh, show 1024 / 64 = 16 from rfl, oY _ (aH _ _) rest (fV s) 16 (bu k s) h (by rw [hN]; omega)]
 exact ⟨_, by unfold AA; rw [List.append_assoc]⟩
theorem eR (k : List UInt8) (s : Sup) (z : List UInt8) : bu k s ++ z = be 8 s.commit.toNat ++ (be 4 s.epoch.toNat ++ (be 4 s.root.toNat ++ (be 2 s.txt.length ++ (s.txt ++ (dx s.used ++ (dx s.written ++ (iS k (fH s) ++ z))))))) := by
 unfold bu
 generalize iS k (fH s) = t
 unfold fH
 simp only [List.append_assoc]
theorem xp (k : List UInt8) (s : Sup) (z : List UInt8) (h : s.txt.length ≤ 200) : txN (bu k s ++ z) = s.txt.length := by
 unfold txN
 rw [eR, eQ (aH _ _) (by omega), eQ (aH _ _) (by omega), eQ (aH _ _) (by omega), List.drop_zero, List.take_left' (aH _ _), iV]
 exact Nat.mod_eq_of_lt (by omega)
theorem yk (k : List UInt8) (s : Sup) (z : List UInt8) (h : s.Ok) : gU (bu k s ++ z) = s := by
 have ht := xp k s z h.txt
 have h1 := dS s.used
 have h2 := dS s.written
 have hb : UInt32.ofNat (cI (be 4 s.root.toNat)) = s.root := by rw [iV]; apply UInt32.toNat_inj.1; rw [UInt32.toNat_ofNat']; have := s.root.toNat_lt; omega
 have he : UInt32.ofNat (cI (be 4 s.epoch.toNat)) = s.epoch := by rw [iV]; apply UInt32.toNat_inj.1; rw [UInt32.toNat_ofNat']; have := s.epoch.toNat_lt; omega
 have e1 : ((bu k s ++ z).drop 12).take 4 = be 4 s.root.toNat := by rw [eR, eQ (aH _ _) (by omega), eQ (aH _ _) (by omega), List.drop_zero, List.take_left' (aH _ _)]
 have e2 : ((bu k s ++ z).drop 18).take s.txt.length = s.txt := by rw [eR, eQ (aH _ _) (by omega), eQ (aH _ _) (by omega), eQ (aH _ _) (by omega), eQ (aH _ _) (by omega), List.drop_zero, List.take_left' rfl]
 have e3 : ((bu k s ++ z).drop (18 + s.txt.length)).take 50 = dx s.used := by rw [eR, eQ (aH _ _) (by omega), eQ (aH _ _) (by omega), eQ (aH _ _) (by omega), eQ (aH _ _) (by omega), eQ rfl (by omega), show 18 + s.txt.length - 8 - 4 - 4 - 2 - s.txt.length = 0 by omega, List.drop_zero, List.take_left' h1]
 have e4 : ((bu k s ++ z).drop (68 + s.txt.length)).take 50 = dx s.written := by rw [eR, eQ (aH _ _) (by omega), eQ (aH _ _) (by omega), eQ (aH _ _) (by omega), eQ (aH _ _) (by omega), eQ rfl (by omega), eQ h1 (by omega), show 68 + s.txt.length - 8 - 4 - 4 - 2 - s.txt.length - 50 = 0 by omega, List.drop_zero, List.take_left' h2]
 have e5 : (bu k s ++ z).take 8 = be 8 s.commit.toNat := by rw [eR, List.take_left' (aH _ _)]
 have e6 : ((bu k s ++ z).drop 8).take 4 = be 4 s.epoch.toNat := by rw [eR, eQ (aH _ _) (by omega), List.drop_zero, List.take_left' (aH _ _)]
 unfold gU
 rw [ht, e1, e2, e3, e4, e5, e6, hb, he, kM, nQ h.used, nQ h.written]
theorem sup_tag (k : List UInt8) (s : Sup) (z : List UInt8) : ((bu k s ++ z).drop (118 + s.txt.length)).take 32 = iS k (fH s) ∧ (bu k s ++ z).take (118 + s.txt.length) = fH s := by
 have hp := l5 s
 have e : bu k s ++ z = fH s ++ (iS k (fH s) ++ z) := by unfold bu; rw [List.append_assoc]
 rw [e, List.drop_left' hp, List.take_left' hp, List.take_left' (gZ _ _)]
 exact ⟨rfl, rfl⟩
theorem vZ (k k2 : List UInt8) (s : Sup) (z : List UInt8) (h : s.Ok) : dj k2 (bu k s ++ z) = if iS k (fH s) = iS k2 (fH s) then some s else none := by
 have ht := xp k s z h.txt
 have hl : (bu k s ++ z).length = 150 + s.txt.length + z.length := by rw [List.length_append, eZ]
 have h3 := h.txt
 obtain ⟨h4, h5⟩ := sup_tag k s z
 unfold dj
 rw [ht, if_neg (by omega), h4, h5, yk k s z h]
theorem vY (k : List UInt8) (s : Sup) (z : List UInt8) (h : s.Ok) : dj k (bu k s ++ z) = some s := by
 rw [vZ k k s z h, if_pos rfl]
def sR (c : Sec) : Nat := cI (c.1.take 4)
def sP (c : Sec) : Nat := cI ((c.1.drop 60).take 4)
theorem xy (c : Sec) : sR c < 4294967296 := by
 have := kN (c.1.take 4)
 have h2 : (c.1.take 4).length ≤ 4 := by rw [List.length_take]; omega
 have h3 : 256 ^ (c.1.take 4).length ≤ 256 ^ 4 := Nat.pow_le_pow_right (by omega) h2
 unfold sR
 have : (256 : Nat) ^ 4 = 4294967296 := rfl
 omega
theorem xx (c : Sec) : sP c < 4294967296 := by
 have := kN ((c.1.drop 60).take 4)
 have h2 : ((c.1.drop 60).take 4).length ≤ 4 := by rw [List.length_take]; omega
 have h3 : 256 ^ ((c.1.drop 60).take 4).length ≤ 256 ^ 4 := Nat.pow_le_pow_right (by omega) h2
 unfold sP
 have : (256 : Nat) ^ 4 = 4294967296 := rfl
 omega
theorem uw (ds : DSt) : ∀ (n : Nat) (i : Int) (x : UInt64), x ∈ je n (ds.reads i n) → ∃ q : Nat, q < n ∧ (x.toNat = sR (ds.now (i + q)) ∨ x.toNat = sP (ds.now (i + q)))
 | 0, _, _, h => by simp [je] at h
 | n + 1, i, x, h => by
  have hr : ds.reads i (n + 1) = (ds.now i).1 ++ ds.reads (i + 1) n := by
   rw [Nat.add_comm n 1, kK]
   congr 1
   rw [DSt.reads_succ, DSt.reads_zero, List.nil_append]; simp
  have hs := (ds.now i).2
  have e1 : (ds.reads i (n + 1)).take 4 = (ds.now i).1.take 4 := by rw [hr, List.take_append_of_le_length (by omega)]
  have e2 : ((ds.reads i (n + 1)).drop 60).take 4 = ((ds.now i).1.drop 60).take 4 := by rw [hr, List.drop_append_of_le_length (by omega), List.take_append_of_le_length (by rw [List.length_drop]; omega)]
  have e3 : (ds.reads i (n + 1)).drop 64 = ds.reads (i + 1) n := by rw [hr, List.drop_left' hs]
  rw [je, e1, e2, e3] at h
  have h1 := xy (ds.now i)
  have h2 := xx (ds.now i)
  have hi : i + ((0 : Nat) : Int) = i := by simp
  rcases List.mem_cons.1 h with rfl | h
  ·refine ⟨0, by omega, .inl ?_⟩
   rw [hi, UInt64.toNat_ofNat']
   exact Nat.mod_eq_of_lt (by unfold sR at h1; omega)
  ·rcases List.mem_cons.1 h with rfl | h
   ·refine ⟨0, by omega, .inr ?_⟩
    rw [hi, UInt64.toNat_ofNat']
    exact Nat.mod_eq_of_lt (by unfold sP at h2; omega)
   ·obtain ⟨q, hq, hx⟩ := uw ds n (i + 1) x h
    exact ⟨q + 1, by omega, by rw [show i + ((q + 1 : Nat) : Int) = i + 1 + (q : Int) by omega]; exact hx⟩
theorem xC (ds : DSt) : ∀ (n : Nat) (i : Int) (q : Nat), q < n → UInt64.ofNat (sR (ds.now (i + q))) ∈ je n (ds.reads i n) ∧ UInt64.ofNat (sP (ds.now (i + q))) ∈ je n (ds.reads i n)
 | 0, _, _, h => by omega
 | n + 1, i, q, h => by
  have hr : ds.reads i (n + 1) = (ds.now i).1 ++ ds.reads (i + 1) n := by
   rw [Nat.add_comm n 1, kK]
   congr 1
   rw [DSt.reads_succ, DSt.reads_zero, List.nil_append]; simp
  have hs := (ds.now i).2
  have e1 : (ds.reads i (n + 1)).take 4 = (ds.now i).1.take 4 := by rw [hr, List.take_append_of_le_length (by omega)]
  have e2 : ((ds.reads i (n + 1)).drop 60).take 4 = ((ds.now i).1.drop 60).take 4 := by rw [hr, List.drop_append_of_le_length (by omega), List.take_append_of_le_length (by rw [List.length_drop]; omega)]
  have e3 : (ds.reads i (n + 1)).drop 64 = ds.reads (i + 1) n := by rw [hr, List.drop_left' hs]
  rw [je, e1, e2, e3]
  rcases q with _ | q
  ·rw [show i + ((0 : Nat) : Int) = i by simp]
   exact ⟨List.mem_cons_self .., List.mem_cons_of_mem _ (List.mem_cons_self ..)⟩
  ·obtain ⟨h1, h2⟩ := xC ds n (i + 1) q (by omega)
   rw [show i + ((q + 1 : Nat) : Int) = i + 1 + (q : Int) by omega]
   exact ⟨List.mem_cons_of_mem _ (List.mem_cons_of_mem _ h1), List.mem_cons_of_mem _ (List.mem_cons_of_mem _ h2)⟩
def NumLe (ds : DSt) (M : Nat) : Prop := ∀ j : Int, 0 ≤ j → j < 32 → sR (ds.now j) ≤ M ∧ sP (ds.now j) ≤ M
theorem NumLe.mem {ds : DSt} {M : Nat} (h : NumLe ds M) {x : UInt64} (hx : x ∈ eN (dU ds 0) ++ eN (dU ds 1)) : x.toNat ≤ M := by
 have h0 : ∀ a : Nat, a ≤ 1 → x ∈ eN (dU ds a) → x.toNat ≤ M := fun a ha hx => by
  unfold eN dU at hx
  rw [DSt.reads_length, show 64 * 16 / 64 = 16 from rfl] at hx
  obtain ⟨q, hq, h1⟩ := uw ds 16 _ x hx
  have := h ((a : Int) * 16 + q) (by omega) (by omega)
  omega
 rcases List.mem_append.1 hx with hx | hx
 ·exact h0 0 (by omega) hx
 ·exact h0 1 (by omega) hx
theorem x3 (c x : UInt64) (hc : c.toNat < 65536) (hx : x.toNat < 65536) : (j7 c x).toNat = if c.toNat ≤ x.toNat then x.toNat - c.toNat else 4294967296 - (c.toNat - x.toNat) := by
 rw [zl, UInt32.toNat_toUInt64, UInt64.toNat_toUInt32, UInt64.toNat_sub]
 split <;> omega
theorem td (c n x : UInt64) (hc : c.toNat < 65536) (hx : x.toNat < 65536) (hn : c.toNat ≤ n.toNat) : (dM c n x).toNat = max n.toNat x.toNat := by
 have h := x3 c x hc hx
 unfold dM
 by_cases hcx : c.toNat ≤ x.toNat
 ·rw [if_pos hcx] at h
  have hlt : j7 c x < 65536 := by rw [UInt64.lt_iff_toNat_lt, h]; show x.toNat - c.toNat < 65536; omega
  rw [if_pos hlt]
  have ha : (c + j7 c x).toNat = x.toNat := by rw [UInt64.toNat_add, h]; omega
  rw [pc, ha]
 ·rw [if_neg hcx] at h
  have hlt : ¬ j7 c x < 65536 := by rw [UInt64.lt_iff_toNat_lt, h]; show ¬ _ < 65536; omega
  rw [if_neg hlt]; omega
theorem rP (c : UInt64) (hc : c.toNat < 65536) : ∀ (l : List UInt64) (n : UInt64), (∀ x ∈ l, x.toNat < 65536) → c.toNat ≤ n.toNat →
  n.toNat ≤ (l.foldl (dM c) n).toNat ∧ (∀ x ∈ l, x.toNat ≤ (l.foldl (dM c) n).toNat) ∧ ((l.foldl (dM c) n).toNat = n.toNat ∨ ∃ x ∈ l, (l.foldl (dM c) n).toNat = x.toNat)
 | [], n, _, _ => ⟨Nat.le_refl _, by simp, .inl rfl⟩
 | y :: l, n, hl, hn => by
  have hy := td c n y hc (hl y (by simp)) hn
  obtain ⟨h1, h2, h3⟩ := rP c hc l (dM c n y) (fun x hx => hl x (by simp [hx])) (by omega)
  rw [List.foldl_cons]
  refine ⟨by omega, fun x hx => ?_, ?_⟩
  ·rcases List.mem_cons.1 hx with rfl | hx
   ·omega
   ·exact h2 x hx
  ·rcases h3 with h3 | ⟨x, hx, h3⟩
   ·by_cases hh : n.toNat ≤ y.toNat
    ·exact .inr ⟨y, by simp, by omega⟩
    ·exact .inl (by omega)
   ·exact .inr ⟨x, by simp [hx], h3⟩
theorem nU {k : List UInt8} {ds : DSt} {M : Nat} (h : NumLe ds M) (hM : M < 60000) (hc : (gV (newest k ds)).toNat ≤ M) : (gV (newest k ds)).toNat < (eh k ds).toNat ∧ (eh k ds).toNat ≤ M + 1 ∧ NumLe ds ((eh k ds).toNat - 1) := by
 have hl : ∀ x ∈ eN (dU ds 0) ++ eN (dU ds 1), x.toNat < 65536 := fun x hx => by have := h.mem hx; omega
 obtain ⟨h1, h2, h3⟩ := rP (gV (newest k ds)) (by omega) _ (gV (newest k ds)) hl (Nat.le_refl _)
 have hr : ((eN (dU ds 0) ++ eN (dU ds 1)).foldl (dM (gV (newest k ds))) (gV (newest k ds))).toNat ≤ M := by
  rcases h3 with h3 | ⟨x, hx, h3⟩
  ·omega
  ·have := h.mem hx; omega
 have hn : (eh k ds).toNat = ((eN (dU ds 0) ++ eN (dU ds 1)).foldl (dM (gV (newest k ds))) (gV (newest k ds))).toNat + 1 := by
  unfold eh xE
  rw [UInt64.toNat_add]
  exact Nat.mod_eq_of_lt (by show _ + 1 < _; omega)
 refine ⟨by omega, by omega, fun j hj0 hj1 => ?_⟩
 rw [hn]
 have hmem : ∀ a : Nat, a ≤ 1 → ∀ q : Nat, q < 16 → UInt64.ofNat (sR (ds.now ((a : Int) * 16 + q))) ∈ eN (dU ds a) ∧ UInt64.ofNat (sP (ds.now ((a : Int) * 16 + q))) ∈ eN (dU ds a) := by
  intro a ha q hq
  unfold eN dU
  rw [DSt.reads_length, show 64 * 16 / 64 = 16 from rfl]
  exact xC ds 16 _ q hq
 have hmem2 : ∀ x : UInt64, (∃ a : Nat, a ≤ 1 ∧ x ∈ eN (dU ds a)) → x ∈ eN (dU ds 0) ++ eN (dU ds 1) := by
  rintro x ⟨a, ha, hx⟩
  rcases (by omega : a = 0 ∨ a = 1) with rfl | rfl
  ·exact List.mem_append_left _ hx
  ·exact List.mem_append_right _ hx
 obtain ⟨a, ha, q, hq, rfl⟩ : ∃ a : Nat, a ≤ 1 ∧ ∃ q : Nat, q < 16 ∧ j = (a : Int) * 16 + q := by
  by_cases hj : j < 16
  ·exact ⟨0, by omega, j.toNat, by omega, by omega⟩
  ·exact ⟨1, by omega, (j - 16).toNat, by omega, by omega⟩
 obtain ⟨m1, m2⟩ := hmem a ha q hq
 have g1 := h2 _ (hmem2 _ ⟨a, ha, m1⟩)
 have g2 := h2 _ (hmem2 _ ⟨a, ha, m2⟩)
 have b1 := xy (ds.now ((a : Int) * 16 + q))
 have b2 := xx (ds.now ((a : Int) * 16 + q))
 rw [UInt64.toNat_ofNat'] at g1 g2
 omega
end Go.Sac

end
section
namespace Go.Sac
open Go
structure POK (n k : Nat) (key : List UInt8) (ds : DSt) (P : Pg) (V : UInt32 → List UInt8) : Prop where
 off : ds.offAt = 0
 fine : ds.Fine
 len : ds.kept.length = 32 + 8 * n
 size : 4 ≤ n ∧ n ≤ 400
 steps : ds.steps ≤ 100 * k
 few : k ≤ 1000000
 broken : P.broken = false
 at_ : P.at_ ≤ 1
 used : ∀ i, P.now.used i = true → i.toNat < n
 kused : ∀ i, P.kept.used i = true → i.toNat < n
 written : ∀ i, P.now.written i = true → P.now.used i = true
 kwritten : ∀ i, P.kept.written i = true → P.kept.used i = true
 wok : ∀ i, P.now.written i = true → P.kept.used i = false ∨ P.kept.written i = true
 pages : ∀ i, P.now.written i = true ∨ P.kept.written i = true → ∃ g, P.gens i = some g ∧ Stands ds (aV key aZ 0) i.toNat g (V i)
def qz (V : UInt32 → List UInt8) (i : UInt32) (l : List UInt8) : UInt32 → List UInt8 := fun j => if j = i then l else V j
theorem uE {n L : Nat} (h : L = 32 + 8 * n) (h2 : n ≤ 400) : gk L = n := by unfold gk; omega
section
variable {n k : Nat} {key : List UInt8} {ds : DSt} {P : Pg} {V : UInt32 → List UInt8}
theorem POK.many (h : POK n k key ds P V) : gk ds.kept.length = n := uE h.len h.size.2
theorem POK.small (h : POK n k key ds P V) : ds.kept.length ≤ 4000 := by have := h.len; have := h.size; omega
theorem POK.offF (h : POK n k key ds P V) : ds.off = false := by
 unfold DSt.off
 rw [h.off]; rfl
theorem POK.inn (h : POK n k key ds P V) {i : UInt32} (hi : P.now.used i = true) : 40 + i.toNat * 8 ≤ ds.kept.length := by
 have := h.used i hi
 have := h.len
 omega
theorem fresh_iff {P : Pg} {i : UInt32} : P.fresh i = true ↔ P.now.used i = true ∧ P.kept.used i = false := by
 unfold Pg.fresh; simp
theorem free_iff {P : Pg} {i : UInt32} : P.free i = true ↔ P.now.used i = false ∧ P.kept.used i = false := by
 unfold Pg.free; simp
theorem POK.alloc (h : POK n k key ds P V) (i : UInt32) (hi : i.toNat < n) : POK n k key ds { P with now := { P.now with used := dn P.now.used i } } V where
 off := h.off
 fine := h.fine
 len := h.len
 size := h.size
 steps := h.steps
 few := h.few
 broken := h.broken
 at_ := h.at_
 used := fun j hj => by
  have hj : dn P.now.used i j = true := hj
  unfold dn at hj
  simp only [Bool.or_eq_true, decide_eq_true_eq] at hj
  rcases hj with rfl | hj
  ·exact hi
  ·exact h.used j hj
 kused := h.kused
 written := fun j hj => by
  show dn P.now.used i j = true
  unfold dn
  rw [h.written j hj, Bool.or_true]
 kwritten := h.kwritten
 wok := h.wok
 pages := h.pages
theorem POK.free (h : POK n k key ds P V) (i : UInt32) : POK n k key ds { P with now := { P.now with used := fm P.now.used i, written := fm P.now.written i } } V where
 off := h.off
 fine := h.fine
 len := h.len
 size := h.size
 steps := h.steps
 few := h.few
 broken := h.broken
 at_ := h.at_
 used := fun j hj => h.used j (by
  have hj : fm P.now.used i j = true := hj
  unfold fm at hj
  simp only [Bool.and_eq_true] at hj
  exact hj.2)
 kused := h.kused
 written := fun j hj => by
  have hj : fm P.now.written i j = true := hj
  unfold fm at hj
  simp only [Bool.and_eq_true] at hj
  show fm P.now.used i j = true
  unfold fm
  rw [hj.1, h.written j hj.2]; rfl
 kwritten := h.kwritten
 wok := fun j hj => h.wok j (by
  have hj : fm P.now.written i j = true := hj
  unfold fm at hj
  simp only [Bool.and_eq_true] at hj
  exact hj.2)
 pages := fun j hj => h.pages j (by
  rcases hj with hj | hj
  ·have hj : fm P.now.written i j = true := hj
   unfold fm at hj
   simp only [Bool.and_eq_true] at hj
   exact .inl hj.2
  ·exact .inr hj)
theorem POK.undo (h : POK n k key ds P V) : POK n k key ds { P with now := P.kept.st } V where
 off := h.off
 fine := h.fine
 len := h.len
 size := h.size
 steps := h.steps
 few := h.few
 broken := h.broken
 at_ := h.at_
 used := h.kused
 kused := h.kused
 written := h.kwritten
 kwritten := h.kwritten
 wok := fun j hj => .inr hj
 pages := fun j hj => h.pages j (.inr (by rcases hj with hj | hj <;> exact hj))
theorem Stands.other {ds ds' : DSt} {pk : List UInt8} {i : Nat} {g : UInt64} {l : List UInt8} (h : Stands ds pk i g l) (hc : ∀ q : Nat, q < 8 → ds'.now (32 + (i : Int) * 8 + q) = ds.now (32 + (i : Int) * 8 + q)) : Stands ds' pk i g l := ⟨by rw [iU hc]; exact h.1, h.2⟩
theorem POK.write (h : POK n k key ds P V) (hk : k + 1 ≤ 1000000) (i : UInt32) (hi : P.fresh i = true) (l : List UInt8) (hl : l.length ≤ 480) :
  (ds.writes (32 + (i.toNat : Int) * 8) (fk (aV key aZ 0) i.toNat P.gen.toNat l)).2 = 0 ∧
  POK n (k + 1) key (ds.writes (32 + (i.toNat : Int) * 8) (fk (aV key aZ 0) i.toNat P.gen.toNat l)).1 { P with count := P.count + 1, now := { P.now with written := dn P.now.written i }, gens := pw P.gens i P.gen } (qz V i l) := by
 obtain ⟨hu, hku⟩ := fresh_iff.1 hi
 have hin := h.used i hu
 have hlen := h.len
 have hpl := jw (aV key aZ 0) i.toNat P.gen.toNat l hl
 obtain ⟨h0, hp⟩ := rn 8 ds (32 + (i.toNat : Int) * 8) (fk (aV key aZ 0) i.toNat P.gen.toNat l) h.off hpl (by omega) (by omega)
 have hsteps := h.steps
 have hbn := oV (32 + (i.toNat : Int) * 8) (fk (aV key aZ 0) i.toNat P.gen.toNat l) h.fine (by omega)
 refine ⟨h0, by rw [hp.offAt]; exact h.off, hbn.1, by rw [hbn.2.2]; exact hlen, h.size, by omega, hk, h.broken, h.at_, h.used, h.kused, fun j hj => ?_, h.kwritten, fun j hj => ?_, fun j hj => ?_⟩
 ·have hj : dn P.now.written i j = true := hj
  unfold dn at hj
  simp only [Bool.or_eq_true, decide_eq_true_eq] at hj
  rcases hj with rfl | hj
  ·exact hu
  ·exact h.written j hj
 ·have hj : dn P.now.written i j = true := hj
  unfold dn at hj
  simp only [Bool.or_eq_true, decide_eq_true_eq] at hj
  rcases hj with rfl | hj
  ·exact .inl hku
  ·exact h.wok j hj
 ·by_cases hji : j = i
  ·subst hji
   refine ⟨P.gen, by show pw P.gens j P.gen j = _; unfold pw; rw [if_pos rfl], ?_, by unfold qz; rw [if_pos rfl]; exact hl⟩
   rw [hp.reads hpl]
   unfold qz; rw [if_pos rfl]
  ·have hj2 : P.now.written j = true ∨ P.kept.written j = true := by
    rcases hj with hj | hj
    ·have hj : dn P.now.written i j = true := hj
     unfold dn at hj
     rw [decide_eq_false hji, Bool.false_or] at hj
     exact .inl hj
    ·exact .inr hj
   obtain ⟨g, hg, hs⟩ := h.pages j hj2
   have hjn : j.toNat ≠ i.toNat := fun hh => hji (UInt32.toNat_inj.1 hh)
   refine ⟨g, by show pw P.gens i P.gen j = _; unfold pw; rw [if_neg hji]; exact hg, ?_⟩
   unfold qz
   rw [if_neg hji]
   exact hs.other fun q hq => by rw [hp.now, if_neg (by omega)]
theorem POK.read (h : POK n k key ds P V) {i : UInt32} (hi : P.now.written i = true) :
  UInt64.ofNat (cI ((ds.reads (32 + (i.toNat : Int) * 8) 8).take 8)) = (P.gens i).getD 0 ∧ pT (aV key aZ 0) i.toNat (ds.reads (32 + (i.toNat : Int) * 8) 8) = some (V i) := by
 obtain ⟨g, hg, hs, hl⟩ := h.pages i (.inl hi)
 rw [hs, nm, hg, uu _ _ _ _ hl]
 exact ⟨rfl, rfl⟩
theorem POK.commit (h : POK n k key ds P V) (hk : k + 1 ≤ 1000000) (root : UInt32) (txt : List UInt8) (ht : txt.length ≤ 200) :
  ds.flush.2 = 0 ∧ (cn key ds.flush.1 ((P.at_ + 1) % 2) (gR P root txt)).2 = 0 ∧
  POK n (k + 1) key (cn key ds.flush.1 ((P.at_ + 1) % 2) (gR P root txt)).1 { P with now := (gR P root txt).st, kept := gR P root txt, at_ := (P.at_ + 1) % 2 } V ∧
  Laid key ds.flush.1 (cn key ds.flush.1 ((P.at_ + 1) % 2) (gR P root txt)).1 ((P.at_ + 1) % 2) (gR P root txt) := by
 have hsteps := h.steps
 have hlen := h.len
 have hsz := h.size
 have h0 := B2 h.off
 have hfs := DSt.flush_steps ds
 have hff := h.fine.flush (by omega)
 have hfl := DSt.flush_len ds
 have hfo : ds.flush.1.offAt = 0 := by rw [nZ]; exact h.off
 have ht2 : (gR P root txt).txt.length ≤ 200 := ht
 obtain ⟨h1, hL⟩ := mK (k := key) (a := (P.at_ + 1) % 2) (s := gR P root txt) hfo (by omega) (by omega) ht2
 have hbn := jh key ds.flush.1 ((P.at_ + 1) % 2) (gR P root txt) hff ht2 (by omega)
 have hsn := kG ht2
 refine ⟨h0, h1, ⟨by rw [hL.offAt]; exact hfo, hbn.1, by rw [hL.len, hfl]; exact hlen, hsz, by omega, hk, h.broken, by show (P.at_ + 1) % 2 ≤ 1; omega, h.used, h.used, h.written, h.written, fun j hj => .inr hj, fun j hj => ?_⟩, hL⟩
 have hj : P.now.written j = true := by rcases hj with hj | hj <;> exact hj
 obtain ⟨g, hg, hs⟩ := h.pages j (.inl hj)
 have hjn := h.used j (h.written j hj)
 refine ⟨g, hg, hs.other fun q hq => ?_⟩
 rw [hL.now _ (by omega) (by rw [hfl]; omega), if_neg (by omega), nw h0 (by omega) (by omega)]
end
end Go.Sac

end
section
namespace Go.Sac
open Go
theorem rX (nb : List UInt8) (hn : nb.length = 4) (rest : List UInt8) : ∀ (n q : Nat) (b : List UInt8), q < n → (ei n nb b ++ rest).drop (64 * q) = ei (n - q) nb (b.drop (56 * q)) ++ rest
 | n, 0, b, _ => by simp
 | 0, q + 1, b, h => by omega
 | n + 1, q + 1, b, h => by
  rw [show 64 * (q + 1) = 64 + 64 * q by omega, ← List.drop_drop, (iX n nb b rest hn).2.2.2, rX nb hn rest n q (b.drop 56) (by omega), List.drop_drop, show n + 1 - (q + 1) = n - q by omega, show 56 + 56 * q = 56 * (q + 1) by omega]
theorem wF (k : List UInt8) (s : Sup) (hc : s.commit.toNat < 4294967296) (q : Nat) (hq : q < fV s) : sR (chS (cN (bu k s) s.commit) q) = s.commit.toNat ∧ sP (chS (cN (bu k s) s.commit) q) = s.commit.toNat := by
 have hsl := eZ k s
 have hN : fV s = ((bu k s).length + 55) / 56 := by rw [hsl]; rfl
 have hfr : cN (bu k s) s.commit = ei (fV s) (be 4 s.commit.toNat) (bu k s) ++ [] := by unfold cN; rw [← hN, List.append_nil]
 obtain ⟨m, hm⟩ : ∃ m, fV s - q = m + 1 := ⟨fV s - q - 1, by omega⟩
 have hv := tq (cN (bu k s) s.commit) q _ (ic k s) hq
 have hd : (cN (bu k s) s.commit).drop (64 * q) = ei (m + 1) (be 4 s.commit.toNat) ((bu k s).drop (56 * q)) ++ [] := by
  rw [hfr, rX _ (aH _ _) _ _ _ _ hq, hm]
 obtain ⟨h1, h2, h3, h4⟩ := iX m (be 4 s.commit.toNat) ((bu k s).drop (56 * q)) [] (aH _ _)
 rw [← hd] at h1 h2
 have hb : cI (be 4 s.commit.toNat) = s.commit.toNat := by rw [iV]; exact Nat.mod_eq_of_lt hc
 unfold sR sP
 rw [hv]
 refine ⟨?_, ?_⟩
 ·rw [List.take_take, show min 4 64 = 4 from rfl, h1, hb]
 ·rw [List.drop_take, List.take_take, show min 4 (64 - 60) = 4 from rfl, h2, hb]
structure SupAt (key : List UInt8) (ds : DSt) (a : Nat) (s : Sup) : Prop where
 a_ : a ≤ 1
 ok : s.Ok
 reg : ∃ rest, rest.length = 64 * (16 - fV s) ∧ dU ds a = cN (bu key s) s.commit ++ rest
 oth : ∀ s', dj key (fN (dU ds ((a + 1) % 2))) = some s' → s'.commit < s.commit
 nums : NumLe ds s.commit.toNat
section
variable {key : List UInt8} {ds ds' : DSt} {a : Nat} {s : Sup}
theorem SupAt.par (h : SupAt key ds a s) : dj key (fN (dU ds a)) = some s := by
 obtain ⟨rest, hr, he⟩ := h.reg
 have := kG h.ok.txt
 obtain ⟨z, hz⟩ := zZ key s rest (by omega) hr
 rw [he, hz, vY key s z h.ok]
theorem mD {k : List UInt8} {ds : DSt} {best : Option (Sup × Nat)} {i : Nat} (h : dj k (fN (dU ds i)) = none) : cZ k ds best i = best := by unfold cZ; rw [h]
theorem SupAt.newest (h : SupAt key ds a s) : newest key ds = some (s, a) := by
 have hp := h.par
 have ho := h.oth
 unfold Go.Sac.newest
 rcases (by have := h.a_; omega : a = 0 ∨ a = 1) with rfl | rfl
 ·have h0 : cZ key ds none 0 = some (s, 0) := by unfold cZ; rw [hp]
  rw [h0]
  cases hq : dj key (fN (dU ds 1)) with
  | none => exact mD hq
  | some s' =>
   have := ho s' hq
   unfold cZ
   rw [hq]
   show (if s.commit < s'.commit then some (s', 1) else some (s, 0)) = some (s, 0)
   rw [if_neg]
   intro hh
   rw [UInt64.lt_iff_toNat_lt] at this hh
   omega
 ·cases hq : dj key (fN (dU ds 0)) with
  | none =>
   rw [mD hq]
   unfold cZ; rw [hp]
  | some s' =>
   have := ho s' hq
   have h0 : cZ key ds none 0 = some (s', 0) := by unfold cZ; rw [hq]
   rw [h0]
   unfold cZ
   rw [hp]
   show (if s'.commit < s.commit then some (s, 1) else some (s', 0)) = some (s, 1)
   rw [if_pos this]
theorem NumLe.mono {M M' : Nat} (h : NumLe ds M) (hm : M ≤ M') : NumLe ds M' := fun j h0 h1 => by have := h j h0 h1; omega
theorem NumLe.congr {M : Nat} (h : NumLe ds M) (hc : ∀ j : Int, 0 ≤ j → j < 32 → ds'.now j = ds.now j) : NumLe ds' M := fun j h0 h1 => by rw [hc j h0 h1]; exact h j h0 h1
theorem pG (ha : a ≤ 1) (hc : ∀ j : Int, 0 ≤ j → j < 32 → ds'.now j = ds.now j) : dU ds' a = dU ds a := iU fun q hq => hc _ (by omega) (by omega)
theorem SupAt.congr (h : SupAt key ds a s) (hc : ∀ j : Int, 0 ≤ j → j < 32 → ds'.now j = ds.now j) : SupAt key ds' a s := by
 refine ⟨h.a_, h.ok, ?_, ?_, h.nums.congr hc⟩
 ·rw [pG h.a_ hc]; exact h.reg
 ·rw [pG (by omega) hc]; exact h.oth
theorem Laid.othReg (h : Laid key ds ds' a s) (ha : a ≤ 1) (hl : 32 ≤ ds.kept.length) (ht : s.txt.length ≤ 200) : dU ds' ((a + 1) % 2) = dU ds ((a + 1) % 2) := by
 have := kG ht
 exact h.other (by omega) (by omega) (by omega)
theorem Laid.nums (h : Laid key ds ds' a s) (hl : 32 ≤ ds.kept.length) {M : Nat} (hn : NumLe ds M) (hM : M ≤ s.commit.toNat) (hc : s.commit.toNat < 4294967296) : NumLe ds' s.commit.toNat := by
 intro j h0 h1
 rw [h.now j h0 (by omega)]
 split
 ·rename_i hj
  obtain ⟨q1, q2⟩ := wF key s hc (j - (a : Int) * 16).toNat (by omega)
  omega
 ·have := hn j h0 h1
  omega
theorem Laid.sup (h : Laid key ds ds' a s) (ha : a ≤ 1) (hl : 32 ≤ ds.kept.length) (hok : s.Ok) {M : Nat} (hn : NumLe ds M) (hM : M ≤ s.commit.toNat) (hc : s.commit.toNat < 4294967296)
  (ho : ∀ s', dj key (fN (dU ds ((a + 1) % 2))) = some s' → s'.commit < s.commit) : SupAt key ds' a s := by
 refine ⟨ha, hok, ⟨_, DSt.reads_length _ _ _, h.reg ha hl hok.txt⟩, ?_, h.nums hl hn hM hc⟩
 rw [h.othReg ha hl hok.txt]
 exact ho
theorem SupAt.next (h : SupAt key ds a s) {s' : Sup} (hL : Laid key ds ds' ((a + 1) % 2) s') (hl : 32 ≤ ds.kept.length) (hok : s'.Ok) (hlt : s.commit.toNat < s'.commit.toNat) (hc : s'.commit.toNat < 4294967296) : SupAt key ds' ((a + 1) % 2) s' := by
 have ha := h.a_
 refine hL.sup (by omega) hl hok h.nums (by omega) hc ?_
 rw [show ((a + 1) % 2 + 1) % 2 = a by omega, h.par]
 intro s2 h2
 cases h2
 rw [UInt64.lt_iff_toNat_lt]; exact hlt
end
theorem xV (n : Nat) (j : Int) : (dsN n).now j = sec0 := by
 unfold DSt.now dsN
 show (none : Option Sec).getD ((List.replicate n sec0).getD j.toNat sec0) = sec0
 rw [Option.getD_none, List.getD_eq_getElem?_getD, List.getElem?_replicate]
 split <;> rfl
theorem uW (n : Nat) : NumLe (dsN n) 0 := fun j _ _ => by rw [xV]; decide
end Go.Sac

end
section
namespace Go.Sac
open Go
theorem my {k b : List UInt8} {s : Sup} (h : dj k b = some s) : s = gU b := by
 unfold dj at h
 split at h
 ·cases h
 ·split at h
  ·cases h; rfl
  ·cases h
theorem reads_zero (n : Nat) (i : Int) : ∀ m, (dsN n).reads i m = List.replicate (64 * m) 0
 | 0 => rfl
 | m + 1 => by
  rw [DSt.reads_succ, reads_zero n i m, xV]
  show List.replicate (64 * m) (0 : UInt8) ++ List.replicate 64 0 = _
  rw [List.replicate_append_replicate]; rfl
theorem ry : fN (List.replicate (64 * 16) 0) = List.replicate 896 0 := by decide +kernel
theorem kf (k : List UInt8) (n : Nat) : gV (newest k (dsN n)) = 0 ∧ qK (newest k (dsN n)) = 0 := by
 cases h : newest k (dsN n) with
 | none => exact ⟨rfl, rfl⟩
 | some p =>
  obtain ⟨s, a⟩ := p
  obtain ⟨_, h1⟩ := uz h
  have h2 := my h1
  unfold dU at h2
  rw [reads_zero, ry] at h2
  subst h2
  have hz : (gU (List.replicate 896 0)).commit = 0 ∧ (gU (List.replicate 896 0)).epoch = 0 := by decide +kernel
  exact hz
theorem B1 (k : List UInt8) (n : Nat) : eh k (dsN n) = 1 := by
 have h := nU (k := k) (uW n) (by omega) (by rw [(kf k n).1]; decide)
 apply UInt64.toNat_inj.1
 show _ = 1
 omega
theorem rY (k : List UInt8) (n i : Nat) (hi : i ≤ 1) : eE k (dsN n) i = ⟨0, [], j4, j4, UInt64.ofNat (i + 1), 1⟩ := by
 unfold eE
 rw [B1, (kf k n).2]
 rcases (by omega : i = 0 ∨ i = 1) with rfl | rfl <;> rfl
theorem yU (k : List UInt8) (ds : DSt) : fJ k ds 1 = (fJ k ds 0 + 1) % 2 := by
 have := rQ k ds
 unfold fJ
 omega
def pgZ (a : Nat) : Pg := ⟨⟨0, [], j4, j4⟩, ⟨0, [], j4, j4, 2, 1⟩, a, 0, fun _ => none, false⟩
theorem uL (key : List UInt8) (n : Nat) (hn : 4 ≤ n ∧ n ≤ 400) (V : UInt32 → List UInt8) :
  (∀ j, j ≤ 2 → (fW key (dsN (32 + 8 * n)) j).2 = 0) ∧ (⟨(eE key (dsN (32 + 8 * n)) 1).st, eE key (dsN (32 + 8 * n)) 1, fJ key (dsN (32 + 8 * n)) 1, 0, fun _ => none, false⟩ : Pg) = pgZ (fJ key (dsN (32 + 8 * n)) 1) ∧
  POK n 1 key (fW key (dsN (32 + 8 * n)) 2).1 (pgZ (fJ key (dsN (32 + 8 * n)) 1)) V ∧ SupAt key (fW key (dsN (32 + 8 * n)) 2).1 (fJ key (dsN (32 + 8 * n)) 1) ⟨0, [], j4, j4, 2, 1⟩ ∧ (fW key (dsN (32 + 8 * n)) 2).1.pend = [] := by
 generalize hds : dsN (32 + 8 * n) = ds
 have hz0 := rY key (32 + 8 * n) 0 (by omega)
 have hz1 := rY key (32 + 8 * n) 1 (by omega)
 have hnm := uW (32 + 8 * n)
 have hf := uX (32 + 8 * n) (by omega)
 have hl : ds.kept.length = 32 + 8 * n := by rw [← hds]; exact List.length_replicate
 have hoff : ds.offAt = 0 := by rw [← hds]; rfl
 have hst : ds.steps = 0 := by rw [← hds]; rfl
 have hnz := kf key (32 + 8 * n)
 have hpar : ∀ (a : Nat) (s' : Sup), dj key (fN (dU ds a)) = some s' → s'.commit < 1 := by
  intro a s' h
  have h2 := my h
  rw [← hds] at h2
  unfold dU at h2
  rw [reads_zero, ry] at h2
  subst h2
  decide +kernel
 rw [hds] at hz0 hz1 hnm hf hnz
 have ha0 := xO key ds 0
 have ha1 := yU key ds
 have ok0 : (eE key ds 0).Ok := by rw [hz0]; exact ⟨Nat.zero_le _, fun _ h => Bool.noConfusion h, fun _ h => Bool.noConfusion h⟩
 have ok1 : (eE key ds 1).Ok := by rw [hz1]; exact ⟨Nat.zero_le _, fun _ h => Bool.noConfusion h, fun _ h => Bool.noConfusion h⟩
 have c0 : (eE key ds 0).commit.toNat = 1 := by rw [hz0]; rfl
 have c1 : (eE key ds 1).commit.toNat = 2 := by rw [hz1]; rfl
 obtain ⟨r0, hL0⟩ := mK (k := key) (a := fJ key ds 0) (s := eE key ds 0) hoff ha0 (by omega) ok0.txt
 have b0 := jh key ds (fJ key ds 0) (eE key ds 0) hf ok0.txt (by omega)
 have hS0 := hL0.sup ha0 (by omega) ok0 hnm (by omega) (by omega) (fun s' h => by
  have := hpar _ s' h
  rw [UInt64.lt_iff_toNat_lt] at this ⊢
  have e : (1 : UInt64).toNat = 1 := rfl
  omega)
 have hd1 : fW key ds 1 = cn key ds (fJ key ds 0) (eE key ds 0) := rfl
 obtain ⟨r1, hL1⟩ := mK (k := key) (ds := (fW key ds 1).1) (a := fJ key ds 1) (s := eE key ds 1) (by rw [hd1, hL0.offAt]; exact hoff) (by omega) (by rw [hd1, hL0.len]; omega) ok1.txt
 have b1 := jh key (fW key ds 1).1 (fJ key ds 1) (eE key ds 1) (by rw [hd1]; exact b0.1) ok1.txt (by rw [hd1]; omega)
 have hd2 : fW key ds 2 = cn key (fW key ds 1).1 (fJ key ds 1) (eE key ds 1) := rfl
 have hS1 : SupAt key (fW key ds 2).1 (fJ key ds 1) (eE key ds 1) := by
  rw [ha1] at hL1 ⊢
  have h := hS0.next (s' := eE key ds 1) (ds' := (cn key (fW key ds 1).1 ((fJ key ds 0 + 1) % 2) (eE key ds 1)).1) hL1 (by rw [hL0.len]; omega) ok1 (by omega) (by omega)
  rw [hd2, ha1]; exact h
 refine ⟨fun j hj => ?_, ?_, ⟨?_, ?_, ?_, hn, ?_, by omega, rfl, ?_, fun i h => Bool.noConfusion h, fun i h => Bool.noConfusion h, fun i h => Bool.noConfusion h, fun i h => Bool.noConfusion h, fun i h => Bool.noConfusion h, fun i h => by rcases h with h | h <;> exact Bool.noConfusion h⟩, ?_, ?_⟩
 ·rcases (by omega : j = 0 ∨ j = 1 ∨ j = 2) with rfl | rfl | rfl
  ·rfl
  ·rw [hd1]; exact r0
  ·rw [hd2]; exact r1
 ·rw [hz1]; rfl
 ·rw [hd2, hL1.offAt, hd1, hL0.offAt]; exact hoff
 ·rw [hd2]; exact b1.1
 ·rw [hd2, hL1.len, hd1, hL0.len]; exact hl
 ·rw [hd2]; rw [hd1] at b1 ⊢; omega
 ·show fJ key ds 1 ≤ 1; omega
 ·rw [hz1] at hS1; exact hS1
 ·rw [hd2]; exact hL1.pend
theorem AD {n k : Nat} {key : List UInt8} {ds : DSt} {a : Nat} {s : Sup} {V : UInt32 → List UInt8} (hS : SupAt key ds a s) (hoff : ds.offAt = 0) (hf : ds.Fine) (hl : ds.kept.length = 32 + 8 * n) (hn : 4 ≤ n ∧ n ≤ 400) (hst : ds.steps ≤ 100 * k) (hk : k + 1 ≤ 1000000) (hc : s.commit.toNat < 50000)
  (hu : ∀ i, s.used i = true → i.toNat < n) (hw : ∀ i, s.written i = true → s.used i = true) (hp : ∀ i, s.written i = true → ∃ g, Stands ds (aV key aZ 0) i.toNat g (V i)) :
  (cn key ds ((a + 1) % 2) (opS key ds s)).2 = 0 ∧
  (∀ f : UInt32 → Option UInt64, (∀ i, s.written i = true → f i = some (genD (cn key ds ((a + 1) % 2) (opS key ds s)).1 i)) → POK n (k + 1) key (cn key ds ((a + 1) % 2) (opS key ds s)).1 ⟨s.st, opS key ds s, (a + 1) % 2, 0, f, false⟩ V) ∧
  SupAt key (cn key ds ((a + 1) % 2) (opS key ds s)).1 ((a + 1) % 2) (opS key ds s) ∧ Laid key ds (cn key ds ((a + 1) % 2) (opS key ds s)).1 ((a + 1) % 2) (opS key ds s) ∧ (opS key ds s).commit.toNat = s.commit.toNat + 1 := by
 have ha := hS.a_
 have hok := hS.ok
 have hok2 : (opS key ds s).Ok := ⟨hok.txt, hok.used, hok.written⟩
 have hnx := nU (k := key) hS.nums (by omega) (by rw [hS.newest]; exact Nat.le_refl _)
 have hcm : gV (newest key ds) = s.commit := by rw [hS.newest]; rfl
 rw [hcm] at hnx
 have hc2 : (opS key ds s).commit.toNat = s.commit.toNat + 1 := by show (eh key ds).toNat = _; omega
 obtain ⟨r0, hL⟩ := mK (k := key) (a := (a + 1) % 2) (s := opS key ds s) hoff (by omega) (by omega) hok2.txt
 have hb := jh key ds ((a + 1) % 2) (opS key ds s) hf hok2.txt (by omega)
 have hsn := kG hok2.txt
 have hS2 := hS.next hL (by omega) hok2 (by omega) (by omega)
 refine ⟨r0, fun f hff => ⟨by rw [hL.offAt]; exact hoff, hb.1, by rw [hL.len]; exact hl, hn, by omega, hk, rfl, by show (a + 1) % 2 ≤ 1; omega, hu, hu, hw, hw, fun i hi => .inr hi, fun i hi => ?_⟩, hS2, hL, hc2⟩
 have hi : s.written i = true := by rcases hi with hi | hi <;> exact hi
 obtain ⟨g, hg⟩ := hp i hi
 have hin := hu i (hw i hi)
 have hg2 : Stands (cn key ds ((a + 1) % 2) (opS key ds s)).1 (aV key aZ 0) i.toNat g (V i) := hg.other fun q hq => by
  rw [hL.now _ (by omega) (by omega), if_neg (by omega)]
 refine ⟨g, ?_, hg2⟩
 show f i = some g
 rw [hff i hi]
 unfold genD
 have e8 : (cn key ds ((a + 1) % 2) (opS key ds s)).1.reads (32 + (i.toNat : Int) * 8) 8 = (cn key ds ((a + 1) % 2) (opS key ds s)).1.reads (32 + (i.toNat : Int) * 8) 1 ++ (cn key ds ((a + 1) % 2) (opS key ds s)).1.reads (32 + (i.toNat : Int) * 8 + (1 : Nat)) 7 := kK _ _ 1 7
 have h1 : ((cn key ds ((a + 1) % 2) (opS key ds s)).1.reads (32 + (i.toNat : Int) * 8) 1).length = 64 := DSt.reads_length _ _ _
 rw [hg2.1] at e8
 have e9 : (fk (aV key aZ 0) i.toNat g.toNat (V i)).take 8 = ((cn key ds ((a + 1) % 2) (opS key ds s)).1.reads (32 + (i.toNat : Int) * 8) 1).take 8 := by rw [e8, List.take_append_of_le_length (by omega)]
 rw [← e9, nm]
end Go.Sac

end
section
namespace Go.Sac
open Go
theorem mget_no {κ ν : Type} [DecidableEq κ] {k : κ} {m : List (κ × ν)} (h : bW k m = none) : k ∉ m.map (·.1) := by
 induction m with
 | nil => simp
 | cons p m ih =>
  obtain ⟨x, u⟩ := p
  simp only [bW] at h
  by_cases hx : k = x
  ·rw [if_pos hx] at h; cases h
  ·rw [if_neg hx] at h
   simp only [List.map_cons, List.mem_cons, not_or]
   exact ⟨hx, ih h⟩
theorem mW (m : List (Int × Sec)) (j : Nat) : ∀ (is : List Int) (ch : List UInt8) (k : List Sec), (∀ i ∈ is, i.toNat ≠ j) → (kx m is ch k).getD j sec0 = k.getD j sec0
 | [], _, _, _ => rfl
 | i :: is, ch, k, h => by
  rw [kx, mW m j is _ _ (fun x hx => h x (by simp [hx]))]
  have hi := h i (by simp)
  rw [List.getD_eq_getElem?_getD, List.getElem?_set_ne hi, ← List.getD_eq_getElem?_getD]
theorem sk {ds : DSt} (hf : ds.Fine) (ch : List UInt8) {j : Int} (hj : 0 ≤ j) (hp : bW j ds.pend = none) : (ds.crash ch).now j = ds.now j := by
 have hno := mget_no hp
 unfold DSt.now
 rw [hp]
 show ((none : Option Sec).getD ((kx ds.pend (Ae (ds.pend.map (·.1))) ch ds.kept).getD j.toNat sec0)) = _
 rw [Option.getD_none, Option.getD_none]
 refine mW _ _ _ _ _ (fun i hi hh => hno ?_)
 unfold Ae at hi
 rw [List.mem_mergeSort] at hi
 obtain ⟨p, hp1, hp2⟩ := List.mem_map.1 hi
 have := hf.keys p hp1
 rw [show j = i by omega]
 exact hi
theorem wP {ds : DSt} (hf : ds.Fine) (ch : List UInt8) : (ds.crash ch).Fine := ⟨hf.steps, Nat.zero_le _, fun p hp => by simp [DSt.crash] at hp, by show (kx _ _ _ _).length ≤ 4000; rw [lg]; exact hf.size⟩
theorem zc (ds : DSt) (ch : List UInt8) : (ds.crash ch).kept.length = ds.kept.length := lg _ _ _ _
structure PInv (n k : Nat) (key : List UInt8) (ds : DSt) (P : Pg) (V : UInt32 → List UInt8) : Prop where
 ok : POK n k key ds P V
 sup : SupAt key ds P.at_ P.kept
 com : P.kept.commit.toNat ≤ k + 1
 few : k ≤ 40000
 dur0 : ∀ j : Int, 0 ≤ j → j < 32 → bW j ds.pend = none
 dur1 : ∀ i, P.kept.written i = true → ∀ q : Nat, q < 8 → bW (32 + (i.toNat : Int) * 8 + q) ds.pend = none
structure PCra (n k : Nat) (key : List UInt8) (ds : DSt) (a : Nat) (s : Sup) (V : UInt32 → List UInt8) : Prop where
 off : ds.offAt = 0
 fine : ds.Fine
 pend : ds.pend = []
 len : ds.kept.length = 32 + 8 * n
 size : 4 ≤ n ∧ n ≤ 400
 steps : ds.steps ≤ 100 * k
 few : k ≤ 40000
 sup : SupAt key ds a s
 com : s.commit.toNat ≤ k + 1
 used : ∀ i, s.used i = true → i.toNat < n
 written : ∀ i, s.written i = true → s.used i = true
 pages : ∀ i, s.written i = true → ∃ g, Stands ds (aV key aZ 0) i.toNat g (V i)
section
variable {n k : Nat} {key : List UInt8} {ds : DSt} {P : Pg} {V : UInt32 → List UInt8}
theorem PInv.alloc (h : PInv n k key ds P V) (i : UInt32) (hi : i.toNat < n) : PInv n k key ds { P with now := { P.now with used := dn P.now.used i } } V :=
 ⟨h.ok.alloc i hi, h.sup, h.com, h.few, h.dur0, h.dur1⟩
theorem PInv.free (h : PInv n k key ds P V) (i : UInt32) : PInv n k key ds { P with now := { P.now with used := fm P.now.used i, written := fm P.now.written i } } V :=
 ⟨h.ok.free i, h.sup, h.com, h.few, h.dur0, h.dur1⟩
theorem PInv.undo (h : PInv n k key ds P V) : PInv n k key ds { P with now := P.kept.st } V := ⟨h.ok.undo, h.sup, h.com, h.few, h.dur0, h.dur1⟩
theorem PInv.write (h : PInv n k key ds P V) (hk : k + 1 ≤ 40000) (i : UInt32) (hi : P.fresh i = true) (l : List UInt8) (hl : l.length ≤ 480) :
  (ds.writes (32 + (i.toNat : Int) * 8) (fk (aV key aZ 0) i.toNat P.gen.toNat l)).2 = 0 ∧
  PInv n (k + 1) key (ds.writes (32 + (i.toNat : Int) * 8) (fk (aV key aZ 0) i.toNat P.gen.toNat l)).1 { P with count := P.count + 1, now := { P.now with written := dn P.now.written i }, gens := pw P.gens i P.gen } (qz V i l) := by
 obtain ⟨h0, h1⟩ := h.ok.write (by omega) i hi l hl
 have hlen := h.ok.len
 obtain ⟨hu, hku⟩ := fresh_iff.1 hi
 have hin := h.ok.used i hu
 have hpl := jw (aV key aZ 0) i.toNat P.gen.toNat l hl
 obtain ⟨_, hp⟩ := rn 8 ds (32 + (i.toNat : Int) * 8) (fk (aV key aZ 0) i.toNat P.gen.toNat l) h.ok.off hpl (by omega) (by omega)
 refine ⟨h0, h1, h.sup.congr fun j hj0 hj1 => by rw [hp.now, if_neg (by omega)], by have := h.com; show P.kept.commit.toNat ≤ _; omega, hk, fun j hj0 hj1 => by rw [hp.pend, if_neg (by omega)]; exact h.dur0 j hj0 hj1, fun j hj q hq => ?_⟩
 have hj : P.kept.written j = true := hj
 have hjn : j.toNat ≠ i.toNat := fun hh => by
  have := h.ok.kwritten j hj
  rw [UInt32.toNat_inj.1 hh, hku] at this; cases this
 rw [hp.pend, if_neg (by omega)]
 exact h.dur1 j hj q hq
theorem Ba {s : UInt64} (h : s.toNat ≤ 50000) : (s + 1).toNat = s.toNat + 1 := by
 rw [UInt64.toNat_add]
 exact Nat.mod_eq_of_lt (by show s.toNat + 1 < _; omega)
theorem PInv.commit (h : PInv n k key ds P V) (hk : k + 1 ≤ 40000) (root : UInt32) (txt : List UInt8) (ht : txt.length ≤ 200) :
  ds.flush.2 = 0 ∧ (cn key ds.flush.1 ((P.at_ + 1) % 2) (gR P root txt)).2 = 0 ∧
  PInv n (k + 1) key (cn key ds.flush.1 ((P.at_ + 1) % 2) (gR P root txt)).1 { P with now := (gR P root txt).st, kept := gR P root txt, at_ := (P.at_ + 1) % 2 } V ∧
  Laid key ds.flush.1 (cn key ds.flush.1 ((P.at_ + 1) % 2) (gR P root txt)).1 ((P.at_ + 1) % 2) (gR P root txt) ∧ SupAt key ds.flush.1 P.at_ P.kept := by
 obtain ⟨h0, h1, h2, hL⟩ := h.ok.commit (by omega) root txt ht
 have hlen := h.ok.len
 have hfl := DSt.flush_len ds
 have hsz := h.ok.size
 have hcom := h.com
 have hfew := h.few
 have hS1 : SupAt key ds.flush.1 P.at_ P.kept := h.sup.congr fun j hj0 hj1 => nw h0 hj0 (by omega)
 have hcn : (gR P root txt).commit.toNat = P.kept.commit.toNat + 1 := Ba (by omega)
 have hok : (gR P root txt).Ok := ⟨ht, fun i hi => by have := h.ok.used i hi; omega, fun i hi => by have := h.ok.used i (h.ok.written i hi); omega⟩
 have hS2 := hS1.next hL (by omega) hok (by omega) (by omega)
 refine ⟨h0, h1, ⟨h2, hS2, by show (gR P root txt).commit.toNat ≤ _; omega, hk, fun j _ _ => by rw [hL.pend]; rfl, fun i _ q _ => by rw [hL.pend]; rfl⟩, hL, hS1⟩
theorem PInv.crash (h : PInv n k key ds P V) (ch : List UInt8) : PCra n k key (ds.crash ch) P.at_ P.kept V := by
 have hf := h.ok.fine
 refine ⟨rfl, wP hf ch, rfl, by rw [zc]; exact h.ok.len, h.ok.size, h.ok.steps, h.few, h.sup.congr fun j hj0 hj1 => sk hf ch hj0 (h.dur0 j hj0 hj1), h.com, h.ok.kused, h.ok.kwritten, fun i hi => ?_⟩
 obtain ⟨g, _, hg⟩ := h.ok.pages i (.inr hi)
 exact ⟨g, hg.other fun q hq => sk hf ch (by omega) (h.dur1 i hi q hq)⟩
theorem PCra.open {a : Nat} {s : Sup} (h : PCra n k key ds a s V) (hk : k + 1 ≤ 40000) :
  newest key ds = some (s, a) ∧ (cn key ds ((a + 1) % 2) (opS key ds s)).2 = 0 ∧
  (∀ f : UInt32 → Option UInt64, (∀ i, s.written i = true → f i = some (genD (cn key ds ((a + 1) % 2) (opS key ds s)).1 i)) → PInv n (k + 1) key (cn key ds ((a + 1) % 2) (opS key ds s)).1 ⟨s.st, opS key ds s, (a + 1) % 2, 0, f, false⟩ V) ∧
  Laid key ds (cn key ds ((a + 1) % 2) (opS key ds s)).1 ((a + 1) % 2) (opS key ds s) ∧ (opS key ds s).commit.toNat = s.commit.toNat + 1 := by
 have hc := h.com
 have hfew := h.few
 obtain ⟨h0, h1, h2, h3, h4⟩ := AD h.sup h.off h.fine h.len h.size h.steps (by omega) (by omega) h.used h.written h.pages
 exact ⟨h.sup.newest, h0, fun f hf => ⟨h1 f hf, h2, by show (opS key ds s).commit.toNat ≤ _; omega, hk, fun j _ _ => by rw [h3.pend]; rfl, fun i _ q _ => by rw [h3.pend]; rfl⟩, h3, h4⟩
end
theorem PInv.zero (key : List UInt8) (n : Nat) (hn : 4 ≤ n ∧ n ≤ 400) (V : UInt32 → List UInt8) :
  (∀ j, j ≤ 2 → (fW key (dsN (32 + 8 * n)) j).2 = 0) ∧ (⟨(eE key (dsN (32 + 8 * n)) 1).st, eE key (dsN (32 + 8 * n)) 1, fJ key (dsN (32 + 8 * n)) 1, 0, fun _ => none, false⟩ : Pg) = pgZ (fJ key (dsN (32 + 8 * n)) 1) ∧
  PInv n 1 key (fW key (dsN (32 + 8 * n)) 2).1 (pgZ (fJ key (dsN (32 + 8 * n)) 1)) V := by
 obtain ⟨h1, h2, h3, h4, h5⟩ := uL key n hn V
 exact ⟨h1, h2, h3, h4, Nat.le_refl 2, by omega, fun j _ _ => by rw [h5]; rfl, fun i hi => Bool.noConfusion hi⟩
end Go.Sac

end
section
namespace Go.Sac
open Go
abbrev Bs := List UInt8
abbrev ltB : Bs → Bs → Bool := Op.bytesLess
theorem mG (a : Bs) : ltB a [] = false := by cases a <;> rfl
theorem mH (a b : UInt8) (x y : Bs) : ltB (a :: x) (b :: y) = (decide (a < b) || (a == b && ltB x y)) := rfl
theorem fv : ∀ a : Bs, ltB a a = false
 | [] => rfl
 | a :: x => by rw [mH, fv x, decide_eq_false (UInt8.lt_irrefl a), Bool.and_false]; rfl
theorem dy : ∀ {a b c : Bs}, ltB a b = true → ltB b c = true → ltB a c = true
 | _, _, [], _, h => by rw [mG] at h; cases h
 | _, [], _ :: _, h, _ => by rw [mG] at h; cases h
 | [], _ :: _, _ :: _, _, _ => rfl
 | a :: x, b :: y, c :: z, h1, h2 => by
  rw [mH] at h1 h2 ⊢
  simp only [Bool.or_eq_true, decide_eq_true_eq, Bool.and_eq_true, beq_iff_eq] at h1 h2 ⊢
  rcases h1 with h1 | ⟨rfl, h1⟩
  ·rcases h2 with h2 | ⟨rfl, h2⟩
   ·exact .inl (UInt8.lt_trans h1 h2)
   ·exact .inl h1
  ·rcases h2 with h2 | ⟨rfl, h2⟩
   ·exact .inl h2
   ·exact .inr ⟨rfl, dy h1 h2⟩
theorem mF : ∀ {a b : Bs}, ltB a b = false → ltB b a = false → a = b
 | [], [], _, _ => rfl
 | [], _ :: _, h, _ => by cases h
 | _ :: _, [], _, h => by cases h
 | a :: x, b :: y, h1, h2 => by
  rw [mH] at h1 h2
  simp only [Bool.or_eq_false_iff, decide_eq_false_iff_not, Bool.and_eq_false_iff, beq_eq_false_iff_ne] at h1 h2
  have hab : a = b := UInt8.le_antisymm (UInt8.not_lt.1 h2.1) (UInt8.not_lt.1 h1.1)
  subst hab
  rw [mF (h1.2.resolve_left (fun h => h rfl)) (h2.2.resolve_left (fun h => h rfl))]
theorem fZ {a b : Bs} (h : ltB a b = true) : ltB b a = false := by
 cases hb : ltB b a with
 | false => rfl
 | true => have := dy h hb; rw [fv] at this; cases this
theorem lC {a b : Bs} (h : ltB a b = true) : a ≠ b := fun e => by subst e; rw [fv] at h; cases h
theorem wA {a b c : Bs} (h1 : ltB a b = true) (h2 : ltB c b = false) : ltB a c = true := by
 cases h3 : ltB b c with
 | true => exact dy h1 h3
 | false => rw [← mF h3 h2]; exact h1
theorem kj {a b c : Bs} (h1 : ltB b a = false) (h2 : ltB b c = true) : ltB a c = true := by
 cases h3 : ltB a b with
 | true => exact dy h3 h2
 | false => rw [mF h3 h1]; exact h2
abbrev Pr := Bs × Bs
def gW (l : List Bs) : Prop := l.Pairwise fun a b => ltB a b = true
def dK (l : List Pr) : Prop := l.Pairwise fun p q => ltB p.1 q.1 = true
theorem sortP_keys {l : List Pr} : dK l ↔ gW (l.map (·.1)) := by unfold dK gW; rw [List.pairwise_map]
theorem yo {α : Type} {f : α → Bs} {l : List α} {x : α} (h : l.Pairwise fun a b => ltB (f a) (f b) = true) (hx : ∀ hp : l.length - 1 < l.length, ltB (f (l[l.length - 1]'hp)) (f x) = true) : (l ++ [x]).Pairwise fun a b => ltB (f a) (f b) = true := by
 rw [List.pairwise_append]
 refine ⟨h, List.pairwise_singleton _ _, fun a ha b hb => ?_⟩
 rw [List.mem_singleton] at hb; subst hb
 obtain ⟨i, hi, rfl⟩ := List.getElem_of_mem ha
 have h2 := hx (by omega)
 by_cases hl : i = l.length - 1
 ·subst hl; exact h2
 ·exact dy (List.pairwise_iff_getElem.1 h i (l.length - 1) hi (by omega) (by omega)) h2
def eP (l : List Bs) (x : Bs) : Nat := (l.takeWhile fun y => ltB y x).length
theorem mY (l : List Bs) (x : Bs) : eP l x ≤ l.length := by
 unfold eP
 exact (List.takeWhile_sublist _).length_le
theorem tp {l : List Bs} {x : Bs} : ∀ {i : Nat} (hi : i < eP l x), ltB (l[i]'(Nat.lt_of_lt_of_le hi (mY l x))) x = true := by
 induction l with
 | nil => intro i hi; exact absurd hi (by simp [eP])
 | cons a l ih =>
  intro i hi
  unfold eP at hi
  rw [List.takeWhile_cons] at hi
  split at hi
  ·rename_i h
   cases i with
   | zero => exact h
   | succ i => exact ih (i := i) (by simpa [eP] using hi)
  ·simp at hi
theorem nC {l : List Bs} {x : Bs} (h : eP l x < l.length) : ltB (l[eP l x]'h) x = false := by
 induction l with
 | nil => simp at h
 | cons a l ih =>
  by_cases ha : ltB a x = true
  ·have e : eP (a :: l) x = eP l x + 1 := by unfold eP; rw [List.takeWhile_cons, if_pos ha]; rfl
   have h' : eP l x < l.length := by rw [e, List.length_cons] at h; omega
   have := ih h'
   have q : (a :: l)[eP (a :: l) x]'h = l[eP l x]'h' := by
    have : (a :: l)[eP (a :: l) x]? = l[eP l x]? := by rw [e]; rfl
    rw [List.getElem?_eq_getElem h, List.getElem?_eq_getElem h'] at this
    exact Option.some.inj this
   rw [q]; exact this
  ·have e : eP (a :: l) x = 0 := by unfold eP; rw [List.takeWhile_cons, if_neg ha]; rfl
   have q : (a :: l)[eP (a :: l) x]'h = a := by
    have : (a :: l)[eP (a :: l) x]? = some a := by rw [e]; rfl
    rw [List.getElem?_eq_getElem h] at this
    exact Option.some.inj this
   rw [q]; simpa using ha
theorem xY {l : List Bs} {x : Bs} (hs : gW l) {i : Nat} (hi : i < l.length) (hc : eP l x ≤ i) : ltB l[i] x = false := by
 have hcl : eP l x < l.length := by omega
 have h0 := nC hcl
 by_cases he : eP l x = i
 ·have q : l[i] = l[eP l x] := by simp only [he]
  rw [q]; exact h0
 ·have := List.pairwise_iff_getElem.1 hs (eP l x) i hcl hi (by omega)
  cases h : ltB l[i] x with
  | false => rfl
  | true => rw [dy this h] at h0; cases h0
theorem xZ {l : List Bs} {x : Bs} {n : Nat} (hn : n ≤ l.length) (h1 : ∀ i (h : i < l.length), i < n → ltB l[i] x = true) (h2 : ∀ h : n < l.length, ltB l[n] x = false) : eP l x = n := by
 rcases Nat.lt_trichotomy (eP l x) n with h | h | h
 ·have hl : eP l x < l.length := by omega
  have := nC hl
  rw [h1 _ hl h] at this; cases this
 ·exact h
 ·have hl : n < l.length := by have := mY l x; omega
  have := tp h
  rw [h2 hl] at this; cases this
def rT (l : List Pr) : List Bs := l.map (·.1)
def km (l : List Pr) (k : Bs) : Option Bs := (l.find? fun p => p.1 == k).map (·.2)
def eL (l : List Pr) (p : Pr) : List Pr := l.filter (fun q => ltB q.1 p.1) ++ p :: l.filter fun q => ltB p.1 q.1
def gm (l : List Pr) (k : Bs) : List Pr := l.filter fun q => !(q.1 == k)
theorem sN {l : List Pr} (f : Pr → Bool) (h : dK l) : dK (l.filter f) := h.sublist List.filter_sublist
theorem yZ {l : List Pr} (k : Bs) (h : dK l) : dK (gm l k) := sN _ h
end Go.Sac

end
section
namespace Go.Sac
open Go
def txt (s : Bs) : Bs := be 2 s.length ++ s
theorem fU (s : Bs) : (txt s).length = s.length + 2 := by unfold txt; rw [List.length_append, aH]; omega
def prB (p : Pr) : Bs := txt p.1 ++ txt p.2
theorem vU (p : Pr) : (prB p).length = p.1.length + p.2.length + 4 := by unfold prB; rw [List.length_append, fU, fU]; omega
def mJ (l : List Pr) : Bs := (1 : UInt8) :: (be 2 l.length ++ l.flatMap prB)
def jk (ids : List UInt32) : Bs := ids.flatMap fun i => be 4 i.toNat
def brB (ks : List Bs) (ids : List UInt32) : Bs := (2 : UInt8) :: (be 2 ks.length ++ (ks.flatMap txt ++ jk ids))
def bK (l : List Pr) : Nat := 3 + (l.map fun p => p.1.length + p.2.length + 4).sum
def cq (ks : List Bs) : Nat := (ks.map fun k => k.length + 2).sum
def brZ (ks : List Bs) (ids : List UInt32) : Nat := 3 + 4 * ids.length + cq ks
theorem g9 {α : Type} (f : α → Bs) (g : α → Nat) (h : ∀ a, (f a).length = g a) : ∀ l : List α, (l.flatMap f).length = (l.map g).sum
 | [] => rfl
 | a :: l => by rw [List.flatMap_cons, List.length_append, g9 f g h l, h, List.map_cons, List.sum_cons]
theorem jz (l : List Pr) : (mJ l).length = bK l := by
 unfold mJ bK
 rw [List.length_cons, List.length_append, aH, g9 prB _ vU]; omega
theorem iW (ids : List UInt32) : (jk ids).length = 4 * ids.length := by
 unfold jk
 rw [g9 _ (fun _ => 4) (fun a => aH _ _), List.map_const', List.sum_replicate_nat]; omega
theorem qm (ks : List Bs) (ids : List UInt32) : (brB ks ids).length = brZ ks ids := by
 unfold brB brZ cq
 rw [List.length_cons, List.length_append, List.length_append, aH, g9 txt _ fU, iW]; omega
theorem dk (l m : List Pr) : bK (l ++ m) + 3 = bK l + bK m := by
 unfold bK; rw [List.map_append, List.sum_append_nat]; omega
theorem g0 (p : Pr) : bK [p] = p.1.length + p.2.length + 7 := by simp [bK]; omega
theorem fE (l m : List Bs) : cq (l ++ m) = cq l + cq m := by
 unfold cq; rw [List.map_append, List.sum_append_nat]
theorem gx (a : Bs) (l : List Bs) : cq (a :: l) = a.length + 2 + cq l := by simp [cq]
theorem hU : ∀ l : List Pr, 3 + 4 * l.length ≤ bK l
 | [] => Nat.le_refl _
 | p :: l => by
  have h1 := hU l
  have h3 := dk [p] l
  rw [g0, List.singleton_append] at h3
  rw [List.length_cons]; omega
abbrev ji (k : Bs) : Prop := 1 ≤ k.length ∧ k.length ≤ 60
abbrev ni (p : Pr) : Prop := ji p.1 ∧ p.2.length ≤ 150
def eI (l : List Pr) : Prop := (∀ p ∈ l, ni p) ∧ dK l
def tg (l : List Bs) : Prop := (∀ k ∈ l, ji k) ∧ gW l
def leafOk (l : List Pr) : Prop := eI l ∧ bK l ≤ 480
def brOk (ks : List Bs) (ids : List UInt32) : Prop := ks ≠ [] ∧ ids.length = ks.length + 1 ∧ tg ks ∧ brZ ks ids ≤ 480
theorem mI : ∀ l : List Pr, (∀ p ∈ l, ni p) → bK l ≤ 3 + 214 * l.length ∧ 3 + 5 * l.length ≤ bK l
 | [], _ => by simp [bK]
 | p :: l, h => by
  have h1 := mI l (fun q hq => h q (List.mem_cons_of_mem _ hq))
  have h2 := h p List.mem_cons_self
  have h3 := dk [p] l
  rw [g0] at h3
  rw [List.singleton_append] at h3
  rw [List.length_cons]
  omega
theorem pX : ∀ l : List Bs, (∀ k ∈ l, ji k) → cq l ≤ 62 * l.length ∧ 3 * l.length ≤ cq l
 | [], _ => by simp [cq]
 | p :: l, h => by
  have h1 := pX l (fun q hq => h q (List.mem_cons_of_mem _ hq))
  have h2 := h p List.mem_cons_self
  rw [gx, List.length_cons]
  omega
theorem leafOk.few {l : List Pr} (h : leafOk l) : l.length ≤ 95 := by
 have h1 := (mI l h.1.1).2
 have h2 := h.2
 omega
theorem brOk.few {ks : List Bs} {ids : List UInt32} (h : brOk ks ids) : ks.length ≤ 67 ∧ ids.length ≤ 68 := by
 obtain ⟨_, h2, ⟨h3, _⟩, h4⟩ := h
 have h5 := (pX ks h3).2
 unfold brZ at h4
 omega
theorem y1 {n : Nat} (hn : n < 65536) (z : Bs) : cI ((be 2 n ++ z).take 2) = n := by
 rw [List.take_left' (aH _ _), iV]; omega
theorem A6 {s : Bs} (hs : s.length < 65536) (z : Bs) : cI ((txt s ++ z).take 2) = s.length := by
 unfold txt; rw [List.append_assoc]; exact y1 hs _
theorem A4 (s z : Bs) : ((txt s ++ z).drop 2).take s.length = s := by
 unfold txt; rw [List.append_assoc, List.drop_left' (aH _ _), List.take_left' rfl]
theorem A5 (s z : Bs) : (txt s ++ z).drop (2 + s.length) = z := by
 rw [List.drop_left' (by rw [fU]; omega)]
theorem yB (x : UInt32) : et x = be 4 x.toNat := by
 have hx := x.toNat_lt
 have h : ∀ s, s < 32 → (gh x s).toUInt8 = UInt8.ofNat (x.toNat >>> s) := fun s hs => by
  apply UInt8.toNat_inj.1
  unfold gh
  have h1 : x.toNat >>> s ≤ x.toNat := Nat.shiftRight_le _ _
  rw [UInt32.toNat_toUInt8, UInt32.toNat_ofNat', UInt8.toNat_ofNat', Nat.mod_eq_of_lt (a := x.toNat >>> s) (by omega)]
 have h0 : x.toUInt8 = UInt8.ofNat (x.toNat >>> 0) := by
  apply UInt8.toNat_inj.1
  rw [UInt32.toNat_toUInt8, UInt8.toNat_ofNat']; rfl
 unfold et
 rw [h 24 (by decide), h 16 (by decide), h 8 (by decide), h0]
 rfl
theorem id_head (i : UInt32) (z : Bs) : UInt32.ofNat (cI ((be 4 i.toNat ++ z).take 4)) = i := by
 have hi := i.toNat_lt
 rw [List.take_left' (aH _ _), iV]
 apply UInt32.toNat_inj.1
 rw [UInt32.toNat_ofNat']; omega
theorem id_rest (i : UInt32) (z : Bs) : (be 4 i.toNat ++ z).drop 4 = z := List.drop_left' (aH _ _)
theorem nB {α : Type} (f : α → Bs) {l : List α} {i : Nat} (h : i < l.length) : (l.drop i).flatMap f = f l[i] ++ (l.drop (i + 1)).flatMap f := by
 rw [List.drop_eq_getElem_cons h, List.flatMap_cons]
end Go.Sac

end
section
namespace Go.Sac
open Go
abbrev Kd := UInt32 × List UInt32 × List Pr
def aS (ts : List Kd) : List UInt32 := ts.map (·.1)
def msT (ts : List Kd) : List (List Pr) := ts.map (·.2.2)
def pgT (ts : List Kd) : List UInt32 := ts.flatMap (·.2.1)
def prT (ts : List Kd) : List Pr := ts.flatMap (·.2.2)
theorem fw (a b : List Kd) : aS (a ++ b) = aS a ++ aS b := List.map_append
theorem eU (a b : List Kd) : msT (a ++ b) = msT a ++ msT b := List.map_append
theorem dw (a b : List Kd) : pgT (a ++ b) = pgT a ++ pgT b := List.flatMap_append
theorem eC (a b : List Kd) : prT (a ++ b) = prT a ++ prT b := List.flatMap_append
theorem ey (a : Kd) (b : List Kd) : pgT (a :: b) = a.2.1 ++ pgT b := List.flatMap_cons
theorem eY (a : Kd) (b : List Kd) : prT (a :: b) = a.2.2 ++ prT b := List.flatMap_cons
theorem gN (ts : List Kd) : (msT ts).flatten = prT ts := (List.flatMap_def ..).symm
def Below (m : List Pr) (k : Bs) : Prop := ∀ p ∈ m, ltB p.1 k = true
def Above (m : List Pr) (k : Bs) : Prop := ∀ p ∈ m, ltB p.1 k = false
theorem Below.app {a b : List Pr} {k : Bs} : Below (a ++ b) k ↔ Below a k ∧ Below b k := by unfold Below; simp only [List.mem_append, or_imp, forall_and]
theorem Above.app {a b : List Pr} {k : Bs} : Above (a ++ b) k ↔ Above a k ∧ Above b k := by unfold Above; simp only [List.mem_append, or_imp, forall_and]
def Seps : List Bs → List (List Pr) → Prop
 | [], [_] => True
 | k :: ks, m :: ms => Below m k ∧ Above ms.flatten k ∧ Seps ks ms
 | _, _ => False
theorem Seps.len : ∀ {ks : List Bs} {ms : List (List Pr)}, Seps ks ms → ms.length = ks.length + 1
 | [], [], h => h.elim
 | [], [_], _ => rfl
 | [], _ :: _ :: _, h => h.elim
 | _ :: _, [], h => h.elim
 | k :: ks, m :: ms, h => by rw [List.length_cons, List.length_cons, Seps.len h.2.2]
theorem Seps.one (m : List Pr) : Seps [] [m] := trivial
theorem Seps.sort : ∀ {ks : List Bs} {ms : List (List Pr)}, Seps ks ms → (∀ m ∈ ms, dK m) → dK ms.flatten
 | [], [m], _, h => by rw [List.flatten_cons, List.flatten_nil, List.append_nil]; exact h m List.mem_cons_self
 | k :: ks, m :: ms, hs, h => by
  rw [List.flatten_cons]
  unfold dK
  rw [List.pairwise_append]
  exact ⟨h m List.mem_cons_self, Seps.sort hs.2.2 (fun x hx => h x (List.mem_cons_of_mem _ hx)), fun a ha b hb => wA (hs.1 a ha) (hs.2.1 b hb)⟩
theorem Seps.join {k : Bs} {K2 : List Bs} {B : List (List Pr)} (hB : Seps K2 B) (h2 : Above B.flatten k) : ∀ {K1 : List Bs} {A : List (List Pr)}, Seps K1 A → Below A.flatten k → (∀ x ∈ K1, ltB x k = true) → Seps (K1 ++ k :: K2) (A ++ B)
 | [], [m], _, h1, _ => ⟨by rw [List.flatten_cons, List.flatten_nil, List.append_nil] at h1; exact h1, h2, hB⟩
 | c :: K1, m :: A, hs, h1, h3 => by
  rw [List.flatten_cons, Below.app] at h1
  refine ⟨hs.1, ?_, Seps.join hB h2 hs.2.2 h1.2 (fun x hx => h3 x (List.mem_cons_of_mem _ hx))⟩
  show Above (A ++ B).flatten c
  rw [List.flatten_append, Above.app]
  refine ⟨hs.2.1, fun p hp => ?_⟩
  have q1 := h3 c List.mem_cons_self
  have q2 := h2 p hp
  cases h : ltB p.1 c with
  | false => rfl
  | true => rw [dy h q1] at q2; cases q2
theorem Seps.cut {k : Bs} {K2 : List Bs} {B : List (List Pr)} : ∀ {K1 : List Bs} {A : List (List Pr)}, A.length = K1.length + 1 → gW (K1 ++ k :: K2) → Seps (K1 ++ k :: K2) (A ++ B) → Seps K1 A ∧ Seps K2 B ∧ Below A.flatten k ∧ Above B.flatten k
 | [], [m], _, _, h => ⟨trivial, h.2.2, by rw [List.flatten_cons, List.flatten_nil, List.append_nil]; exact h.1, h.2.1⟩
 | [], [], h, _, _ => by simp at h
 | [], _ :: _ :: _, h, _, _ => by simp at h
 | _ :: _, [], h, _, _ => by simp at h
 | c :: K1, m :: A, hl, hs, h => by
  have hs' : gW (K1 ++ k :: K2) := (List.pairwise_cons.1 hs).2
  have hck : ltB c k = true := (List.pairwise_cons.1 hs).1 k (by simp)
  obtain ⟨h1, h2, h3⟩ := h
  obtain ⟨q1, q2, q3, q4⟩ := Seps.cut (by simpa using hl) hs' h3
  have h2' : Above (A ++ B).flatten c := h2
  rw [List.flatten_append, Above.app] at h2'
  exact ⟨⟨h1, h2'.1, q1⟩, q2, by rw [List.flatten_cons, Below.app]; exact ⟨fun p hp => dy (h1 p hp) hck, q3⟩, q4⟩
theorem Seps.set {m m' : List Pr} {K2 : List Bs} {B : List (List Pr)} : ∀ {K1 : List Bs} {A : List (List Pr)}, A.length = K1.length → Seps (K1 ++ K2) (A ++ m :: B) → (∀ k ∈ K1, Above m' k) → (∀ k, K2.head? = some k → Below m' k) → Seps (K1 ++ K2) (A ++ m' :: B)
 | [], [], _, h, _, h2 => by
  cases K2 with
  | nil => cases B with
   | nil => trivial
   | cons => exact h.elim
  | cons k K2 => exact ⟨h2 k rfl, h.2⟩
 | [], _ :: _, h, _, _, _ => by simp at h
 | _ :: _, [], h, _, _, _ => by simp at h
 | c :: K1, a :: A, hl, h, h1, h2 => by
  obtain ⟨q1, q2, q3⟩ := h
  refine ⟨q1, ?_, Seps.set (by simpa using hl) q3 (fun k hk => h1 k (List.mem_cons_of_mem _ hk)) h2⟩
  have q2' : Above (A ++ m :: B).flatten c := q2
  show Above (A ++ m' :: B).flatten c
  rw [List.flatten_append, List.flatten_cons, Above.app, Above.app] at q2' ⊢
  exact ⟨q2'.1, h1 c List.mem_cons_self, q2'.2.2⟩
theorem Seps.split {m1 m2 : List Pr} {k : Bs} (hb : Below m1 k) (ha : Above m2 k) {K2 : List Bs} {B : List (List Pr)} (h3 : Above B.flatten k) : ∀ {K1 : List Bs} {A : List (List Pr)}, A.length = K1.length → Seps (K1 ++ K2) (A ++ (m1 ++ m2) :: B) → Seps (K1 ++ k :: K2) (A ++ m1 :: m2 :: B)
 | [], [], _, h => by
  refine ⟨hb, by show Above (m2 :: B).flatten k; rw [List.flatten_cons, Above.app]; exact ⟨ha, h3⟩, ?_⟩
  cases K2 with
  | nil => cases B with
   | nil => trivial
   | cons => exact h.elim
  | cons c K2 => exact ⟨(Below.app.1 h.1).2, h.2⟩
 | [], _ :: _, h, _ => by simp at h
 | _ :: _, [], h, _ => by simp at h
 | c :: K1, a :: A, hl, h => by
  obtain ⟨q1, q2, q3⟩ := h
  refine ⟨q1, ?_, Seps.split hb ha h3 (by simpa using hl) q3⟩
  have q2' : Above (A ++ (m1 ++ m2) :: B).flatten c := q2
  show Above (A ++ m1 :: m2 :: B).flatten c
  simp only [List.flatten_append, List.flatten_cons, Above.app] at q2' ⊢
  exact ⟨q2'.1, q2'.2.1.1, q2'.2.1.2, q2'.2.2⟩
theorem Seps.merge {m1 m2 : List Pr} {k : Bs} {K2 : List Bs} {B : List (List Pr)} : ∀ {K1 : List Bs} {A : List (List Pr)}, A.length = K1.length → gW (K1 ++ k :: K2) → Seps (K1 ++ k :: K2) (A ++ m1 :: m2 :: B) → Seps (K1 ++ K2) (A ++ (m1 ++ m2) :: B)
 | [], [], _, hs, h => by
  obtain ⟨q1, q2, q3⟩ := h
  cases K2 with
  | nil => cases B with
   | nil => trivial
   | cons => exact q3.elim
  | cons c K2 =>
   have hkc : ltB k c = true := (List.pairwise_cons.1 hs).1 c List.mem_cons_self
   exact ⟨Below.app.2 ⟨fun p hp => dy (q1 p hp) hkc, q3.1⟩, q3.2⟩
 | [], _ :: _, h, _, _ => by simp at h
 | _ :: _, [], h, _, _ => by simp at h
 | c :: K1, a :: A, hl, hs, h => by
  obtain ⟨q1, q2, q3⟩ := h
  refine ⟨q1, ?_, Seps.merge (by simpa using hl) (List.pairwise_cons.1 hs).2 q3⟩
  have q2' : Above (A ++ m1 :: m2 :: B).flatten c := q2
  show Above (A ++ (m1 ++ m2) :: B).flatten c
  simp only [List.flatten_append, List.flatten_cons, Above.app] at q2' ⊢
  exact ⟨q2'.1, ⟨q2'.2.1, q2'.2.2.1⟩, q2'.2.2.2⟩
def isT (V : UInt32 → Bs) : Nat → UInt32 → List UInt32 → List Pr → Prop
 | 0, id, pg, m => pg = [id] ∧ leafOk m ∧ V id = mJ m
 | d + 1, id, pg, m => ∃ (ks : List Bs) (ts : List Kd), brOk ks (aS ts) ∧ V id = brB ks (aS ts) ∧ pg = id :: pgT ts ∧ m = prT ts ∧ Seps ks (msT ts) ∧ ∀ t ∈ ts, isT V d t.1 t.2.1 t.2.2 ∧ t.2.2 ≠ []
theorem pY {V V' : UInt32 → Bs} : ∀ {d : Nat} {id : UInt32} {pg : List UInt32} {m : List Pr}, isT V d id pg m → (∀ x ∈ pg, V' x = V x) → isT V' d id pg m
 | 0, id, pg, m, ⟨h1, h2, h3⟩, h => ⟨h1, h2, by rw [h id (by rw [h1]; exact List.mem_cons_self)]; exact h3⟩
 | d + 1, id, pg, m, ⟨ks, ts, h1, h2, h3, h4, h5, h6⟩, h => by
  subst h3
  refine ⟨ks, ts, h1, by rw [h id List.mem_cons_self]; exact h2, rfl, h4, h5, fun t ht => ⟨pY (h6 t ht).1 (fun x hx => h x (List.mem_cons_of_mem _ (List.mem_flatMap.2 ⟨t, ht, hx⟩))), (h6 t ht).2⟩⟩
theorem hZ {V : UInt32 → Bs} : ∀ {d : Nat} {id : UInt32} {pg : List UInt32} {m : List Pr}, isT V d id pg m → eI m
 | 0, _, _, _, ⟨_, h, _⟩ => h.1
 | d + 1, _, _, _, ⟨ks, ts, _, _, _, h4, h5, h6⟩ => by
  subst h4
  refine ⟨fun p hp => ?_, ?_⟩
  ·obtain ⟨t, ht, hpt⟩ := List.mem_flatMap.1 hp
   exact (hZ (h6 t ht).1).1 p hpt
  ·rw [← gN]
   refine h5.sort (fun m hm => ?_)
   obtain ⟨t, ht, rfl⟩ := List.mem_map.1 hm
   exact (hZ (h6 t ht).1).2
end Go.Sac

end
section
namespace Go.Sac
open Go
inductive Cn where
 | leaf (ps : List Pr)
 | br (ks : List Bs) (ids : List UInt32)
def cnB : Cn → Bs
 | .leaf ps => mJ ps
 | .br ks ids => brB ks ids
def cnZ : Cn → Nat
 | .leaf ps => bK ps
 | .br ks ids => brZ ks ids
def gz : Cn → Prop
 | .leaf _ => True
 | .br ks _ => ks ≠ []
theorem jD (c : Cn) : (cnB c).length = cnZ c := by cases c with
 | leaf => exact jz _
 | br => exact qm _ _
def KidsT (V : UInt32 → Bs) (d : Nat) (ts : List Kd) : Prop := ∀ t ∈ ts, isT V d t.1 t.2.1 t.2.2 ∧ t.2.2 ≠ []
theorem KidsT.app {V : UInt32 → Bs} {d : Nat} {a b : List Kd} : KidsT V d (a ++ b) ↔ KidsT V d a ∧ KidsT V d b :=
 ⟨fun h => ⟨fun t ht => h t (List.mem_append_left _ ht), fun t ht => h t (List.mem_append_right _ ht)⟩, fun h t ht => (List.mem_append.1 ht).elim (h.1 t) (h.2 t)⟩
theorem tf {α : Type} {c k : α} {a b : List α} (h : c ∈ a ++ b) : c ∈ a ++ k :: b := (List.mem_append.1 h).elim (fun h => List.mem_append_left _ h) (fun h => List.mem_append_right _ (List.mem_cons_of_mem _ h))
theorem KidsT.cons {V : UInt32 → Bs} {d : Nat} {a : Kd} {b : List Kd} : KidsT V d (a :: b) ↔ (isT V d a.1 a.2.1 a.2.2 ∧ a.2.2 ≠ []) ∧ KidsT V d b := by unfold KidsT; simp only [List.mem_cons, forall_eq_or_imp]
theorem KidsT.mono {V V' : UInt32 → Bs} {d : Nat} {ts : List Kd} (h : KidsT V d ts) (hv : ∀ x ∈ pgT ts, V' x = V x) : KidsT V' d ts := fun t ht =>
 ⟨pY (h t ht).1 (fun x hx => hv x (List.mem_flatMap.2 ⟨t, ht, hx⟩)), (h t ht).2⟩
def CT (V : UInt32 → Bs) : Nat → Cn → List UInt32 → List Pr → Prop
 | 0, .leaf ps, pg, m => ps = m ∧ pg = [] ∧ eI m
 | d + 1, .br ks ids, pg, m => ∃ ts, ids = aS ts ∧ tg ks ∧ pg = pgT ts ∧ m = prT ts ∧ Seps ks (msT ts) ∧ KidsT V d ts
 | _, _, _, _ => False
theorem CT.mono {V V' : UInt32 → Bs} : ∀ {d : Nat} {c : Cn} {pg : List UInt32} {m : List Pr}, CT V d c pg m → (∀ x ∈ pg, V' x = V x) → CT V' d c pg m
 | 0, .leaf _, _, _, h, _ => h
 | 0, .br _ _, _, _, h, _ => h.elim
 | _ + 1, .leaf _, _, _, h, _ => h.elim
 | _ + 1, .br _ _, _, _, ⟨ts, h1, h2, h3, h4, h5, h6⟩, hv => ⟨ts, h1, h2, h3, h4, h5, h6.mono (by subst h3; exact hv)⟩
theorem CT.saved {V : UInt32 → Bs} : ∀ {d : Nat} {c : Cn} {pg : List UInt32} {m : List Pr} {id : UInt32}, CT V d c pg m → cnZ c ≤ 480 → gz c → V id = cnB c → isT V d id (id :: pg) m
 | 0, .leaf _, _, _, _, ⟨h1, h2, h3⟩, hz, _, hv => by subst h1; subst h2; exact ⟨rfl, ⟨h3, hz⟩, hv⟩
 | 0, .br _ _, _, _, _, h, _, _, _ => h.elim
 | _ + 1, .leaf _, _, _, _, h, _, _, _ => h.elim
 | _ + 1, .br ks _, _, _, _, ⟨ts, h1, h2, h3, h4, h5, h6⟩, hz, hf, hv => by
  subst h1; subst h3
  have := h5.len
  rw [msT, List.length_map] at this
  exact ⟨ks, ts, ⟨hf, by rw [aS, List.length_map]; exact this, h2, hz⟩, hv, rfl, h4, h5, h6⟩
theorem jj {V : UInt32 → Bs} : ∀ {d : Nat} {id : UInt32} {pg : List UInt32} {m : List Pr}, isT V d id pg m → ∃ c pg0, pg = id :: pg0 ∧ CT V d c pg0 m ∧ V id = cnB c ∧ cnZ c ≤ 480 ∧ gz c
 | 0, _, _, _, ⟨h1, h2, h3⟩ => ⟨.leaf _, [], h1, ⟨rfl, rfl, h2.1⟩, h3, h2.2, trivial⟩
 | _ + 1, _, _, _, ⟨ks, ts, h1, h2, h3, h4, h5, h6⟩ => ⟨.br ks (aS ts), pgT ts, h3, ⟨ts, rfl, h1.2.2.1, rfl, h4, h5, h6⟩, h2, h1.2.2.2, h1.1⟩
theorem CT.pairs {V : UInt32 → Bs} : ∀ {d : Nat} {c : Cn} {pg : List UInt32} {m : List Pr}, CT V d c pg m → eI m
 | 0, .leaf _, _, _, h => h.2.2
 | 0, .br _ _, _, _, h => h.elim
 | _ + 1, .leaf _, _, _, h => h.elim
 | _ + 1, .br _ _, _, _, ⟨ts, _, _, _, h4, h5, h6⟩ => by
  subst h4
  refine ⟨fun p hp => ?_, ?_⟩
  ·obtain ⟨t, ht, hpt⟩ := List.mem_flatMap.1 hp
   exact (hZ (h6 t ht).1).1 p hpt
  ·rw [← gN]
   refine h5.sort (fun m hm => ?_)
   obtain ⟨t, ht, rfl⟩ := List.mem_map.1 hm
   exact (hZ (h6 t ht).1).2
def plc (ks : List Bs) (x : Bs) : Nat := if ks[eP ks x]? = some x then eP ks x + 1 else eP ks x
theorem vW (ks : List Bs) (x : Bs) : plc ks x ≤ ks.length := by
 unfold plc
 split
 ·rename_i h; exact (List.getElem?_eq_some_iff.1 h).1
 ·exact mY _ _
theorem plc_lo {ks : List Bs} {x : Bs} {i : Nat} (hi : i < plc ks x) : ltB x (ks[i]'(Nat.lt_of_lt_of_le hi (vW ks x))) = false := by
 have hl := Nat.lt_of_lt_of_le hi (vW ks x)
 unfold plc at hi
 by_cases hc : i < eP ks x
 ·exact fZ (tp hc)
 ·split at hi
  ·rename_i h
   have : i = eP ks x := by omega
   subst this
   have := (List.getElem?_eq_some_iff.1 h).2
   rw [this]; exact fv x
  ·omega
theorem plc_hi {ks : List Bs} {x : Bs} (hs : gW ks) {i : Nat} (hi : plc ks x ≤ i) (hl : i < ks.length) : ltB x ks[i] = true := by
 have hcl : eP ks x < ks.length := by unfold plc at hi; split at hi <;> omega
 unfold plc at hi
 split at hi
 ·rename_i h
  have e := (List.getElem?_eq_some_iff.1 h).2
  have := List.pairwise_iff_getElem.1 hs (eP ks x) i hcl hl (by omega)
  rw [e] at this; exact this
 ·rename_i h
  rw [List.getElem?_eq_getElem hcl] at h
  have h1 : ltB ks[i] x = false := xY hs hl hi
  cases h2 : ltB x ks[i] with
  | true => rfl
  | false =>
   have e := mF h1 h2
   by_cases he : eP ks x = i
   ·subst he; exact absurd (congrArg some e) h
   ·have := List.pairwise_iff_getElem.1 hs (eP ks x) i hcl hl (by omega)
    rw [e] at this
    have h0 := nC hcl
    rw [this] at h0; cases h0
theorem yC {ks : List Bs} {x : Bs} (hs : gW ks) : ∃ K1 K2, ks = K1 ++ K2 ∧ K1.length = plc ks x ∧ (∀ k ∈ K1, ltB x k = false) ∧ ∀ k ∈ K2, ltB x k = true := by
 refine ⟨ks.take (plc ks x), ks.drop (plc ks x), (List.take_append_drop _ _).symm, by rw [List.length_take]; have := vW ks x; omega, fun k hk => ?_, fun k hk => ?_⟩
 ·obtain ⟨i, hi, rfl⟩ := List.getElem_of_mem hk
  rw [List.length_take] at hi
  rw [List.getElem_take]
  exact plc_lo (by omega)
 ·obtain ⟨i, hi, rfl⟩ := List.getElem_of_mem hk
  rw [List.length_drop] at hi
  rw [List.getElem_drop]
  exact plc_hi hs (by omega) (by omega)
theorem Seps.before {x : Bs} {K2 : List Bs} {M : List (List Pr)} : ∀ {K1 : List Bs} {A : List (List Pr)}, A.length = K1.length → Seps (K1 ++ K2) (A ++ M) → (∀ k ∈ K1, ltB x k = false) → Below A.flatten x
 | [], [], _, _, _ => fun p hp => by simp at hp
 | [], _ :: _, h, _, _ => by simp at h
 | _ :: _, [], h, _, _ => by simp at h
 | c :: K1, a :: A, hl, h, h1 => by
  rw [List.flatten_cons, Below.app]
  exact ⟨fun p hp => wA (h.1 p hp) (h1 c List.mem_cons_self), Seps.before (by simpa using hl) h.2.2 (fun k hk => h1 k (List.mem_cons_of_mem _ hk))⟩
theorem Seps.behind {x : Bs} {m : List Pr} : ∀ {K2 : List Bs} {B : List (List Pr)}, Seps K2 (m :: B) → (∀ k ∈ K2, ltB x k = true) → ∀ p ∈ B.flatten, ltB x p.1 = true
 | [], [], _, _ => fun p hp => by simp at hp
 | [], _ :: _, h, _ => h.elim
 | c :: K2, B, h, h1 => fun p hp => by
  have q1 := h1 c List.mem_cons_self
  have q2 := h.2.1 p hp
  exact wA q1 q2
theorem Seps.drop {K2 : List Bs} {M : List (List Pr)} : ∀ {K1 : List Bs} {A : List (List Pr)}, A.length = K1.length → Seps (K1 ++ K2) (A ++ M) → Seps K2 M
 | [], [], _, h => h
 | [], _ :: _, h, _ => by simp at h
 | _ :: _, [], h, _ => by simp at h
 | _ :: K1, _ :: A, hl, h => Seps.drop (K1 := K1) (A := A) (by simpa using hl) h.2.2
theorem Seps.above {m : List Pr} {K2 : List Bs} {B : List (List Pr)} : ∀ {K1 : List Bs} {A : List (List Pr)}, A.length = K1.length → Seps (K1 ++ K2) (A ++ m :: B) → ∀ k ∈ K1, Above m k
 | [], _, _, _ => fun k hk => by simp at hk
 | _ :: _, [], h, _ => by simp at h
 | c :: K1, a :: A, hl, h => fun k hk => by
  rcases List.mem_cons.1 hk with rfl | hk
  ·have : Above (A ++ m :: B).flatten k := h.2.1
   rw [List.flatten_append, List.flatten_cons, Above.app, Above.app] at this
   exact this.2.1
  ·exact Seps.above (by simpa using hl) h.2.2 k hk
theorem Seps.below {m : List Pr} {K1 K2 : List Bs} {A B : List (List Pr)} (hl : A.length = K1.length) (h : Seps (K1 ++ K2) (A ++ m :: B)) : ∀ k, K2.head? = some k → Below m k := fun k hk => by
 cases K2 with
 | nil => cases hk
 | cons c K2 => cases hk; exact (Seps.drop hl h).1
structure Hole (V : UInt32 → Bs) (d : Nat) (K1 K2 : List Bs) (A B : List Kd) (m : List Pr) : Prop where
 keys : tg (K1 ++ K2)
 la : A.length = K1.length
 seps : Seps (K1 ++ K2) (msT A ++ m :: msT B)
 ka : KidsT V d A
 kb : KidsT V d B
section
variable {V V' : UInt32 → Bs} {d : Nat} {K1 K2 : List Bs} {A B : List Kd} {m m' m1 m2 : List Pr} {x : Bs}
theorem Hole.lm (h : Hole V d K1 K2 A B m) : (msT A).length = K1.length := by rw [msT, List.length_map]; exact h.la
theorem Hole.lb (h : Hole V d K1 K2 A B m) : B.length = K2.length := by
 have h1 := h.seps.len
 have h2 := h.la
 rw [List.length_append, List.length_append, List.length_cons, msT, msT, List.length_map, List.length_map] at h1; omega
theorem Hole.mono (h : Hole V d K1 K2 A B m) (hv : ∀ y ∈ pgT A ++ pgT B, V' y = V y) : Hole V' d K1 K2 A B m :=
 ⟨h.keys, h.la, h.seps, h.ka.mono (fun y hy => hv y (List.mem_append_left _ hy)), h.kb.mono (fun y hy => hv y (List.mem_append_right _ hy))⟩
theorem Hole.set (h : Hole V d K1 K2 A B m) (h1 : ∀ k ∈ K1, Above m' k) (h2 : ∀ k, K2.head? = some k → Below m' k) : Hole V d K1 K2 A B m' :=
 ⟨h.keys, h.la, h.seps.set h.lm h1 h2, h.ka, h.kb⟩
theorem Hole.sub (h : Hole V d K1 K2 A B m) (hs : ∀ p ∈ m', p ∈ m) : Hole V d K1 K2 A B m' :=
 h.set (fun k hk p hp => h.seps.above h.lm k hk p (hs p hp)) (fun k hk p hp => h.seps.below h.lm k hk p (hs p hp))
theorem Hole.fill {id : UInt32} {pg : List UInt32} (h : Hole V d K1 K2 A B m) (ht : isT V d id pg m) (hne : m ≠ []) : CT V (d + 1) (.br (K1 ++ K2) (aS A ++ id :: aS B)) (pgT A ++ (pg ++ pgT B)) (prT A ++ (m ++ prT B)) :=
 ⟨A ++ (id, pg, m) :: B, by rw [fw]; rfl, h.keys, by rw [dw, ey], by rw [eC, eY], by rw [eU]; exact h.seps, KidsT.app.2 ⟨h.ka, KidsT.cons.2 ⟨⟨ht, hne⟩, h.kb⟩⟩⟩
theorem Hole.fill2 {id1 id2 : UInt32} {pg1 pg2 : List UInt32} {k : Bs} (h : Hole V d K1 K2 A B (m1 ++ m2)) (ht1 : isT V d id1 pg1 m1) (ht2 : isT V d id2 pg2 m2) (hn1 : m1 ≠ []) (hn2 : m2 ≠ []) (hk : ji k) (hb : Below m1 k) (ha : Above m2 k) :
  CT V (d + 1) (.br (K1 ++ k :: K2) (aS A ++ id1 :: id2 :: aS B)) (pgT A ++ (pg1 ++ (pg2 ++ pgT B))) (prT A ++ (m1 ++ m2 ++ prT B)) := by
 obtain ⟨p1, hp1⟩ := List.exists_mem_of_ne_nil _ hn1
 obtain ⟨p2, hp2⟩ := List.exists_mem_of_ne_nil _ hn2
 have hlo : ∀ c ∈ K1, ltB c k = true := fun c hc => kj (h.seps.above h.lm c hc p1 (List.mem_append_left _ hp1)) (hb p1 hp1)
 have hhi : ∀ c, K2.head? = some c → ltB k c = true := fun c hc => kj (ha p2 hp2) (h.seps.below h.lm c hc p2 (List.mem_append_right _ hp2))
 have hs := h.keys.2
 unfold gW at hs
 rw [List.pairwise_append] at hs
 have hall : ∀ c ∈ K2, ltB k c = true := fun c hc => by
  cases K2 with
  | nil => simp at hc
  | cons e K2 =>
   rcases List.mem_cons.1 hc with rfl | hc
   ·exact hhi c rfl
   ·exact dy (hhi e rfl) ((List.pairwise_cons.1 hs.2.1).1 c hc)
 have h3 : Above (msT B).flatten k := fun p hp => fZ (Seps.behind (Seps.drop h.lm h.seps) hall p hp)
 refine ⟨A ++ (id1, pg1, m1) :: (id2, pg2, m2) :: B, by rw [fw]; rfl, ⟨fun c hc => ?_, ?_⟩, by rw [dw, ey, ey], by rw [eC, eY, eY, List.append_assoc], by rw [eU]; exact Seps.split hb ha h3 h.lm h.seps, KidsT.app.2 ⟨h.ka, KidsT.cons.2 ⟨⟨ht1, hn1⟩, KidsT.cons.2 ⟨⟨ht2, hn2⟩, h.kb⟩⟩⟩⟩
 ·rcases List.mem_append.1 hc with hc | hc
  ·exact h.keys.1 c (List.mem_append_left _ hc)
  ·rcases List.mem_cons.1 hc with rfl | hc
   ·exact hk
   ·exact h.keys.1 c (List.mem_append_right _ hc)
 ·unfold gW
  rw [List.pairwise_append]
  refine ⟨hs.1, List.pairwise_cons.2 ⟨hall, hs.2.1⟩, fun a hA b hB => ?_⟩
  rcases List.mem_cons.1 hB with rfl | hB
  ·exact hlo a hA
  ·exact hs.2.2 a hA b hB
theorem Hole.gone {k : Bs} (h : Hole V d (K1 ++ [k]) K2 A B []) : CT V (d + 1) (.br (K1 ++ K2) (aS A ++ aS B)) (pgT A ++ pgT B) (prT A ++ prT B) := by
 have hl := h.la
 rw [List.length_append, List.length_singleton] at hl
 have hne : A ≠ [] := fun e => by rw [e] at hl; simp at hl
 obtain ⟨A', t, rfl⟩ : ∃ A' t, A = A' ++ [t] := ⟨A.dropLast, A.getLast hne, (List.dropLast_concat_getLast hne).symm⟩
 rw [List.length_append, List.length_singleton] at hl
 have hs := h.seps
 rw [eU, List.append_assoc, List.append_assoc, List.singleton_append] at hs
 have hkeys := h.keys
 rw [List.append_assoc, List.singleton_append] at hkeys
 have h2 := Seps.merge (by rw [msT, List.length_map]; omega) hkeys.2 (show Seps (K1 ++ k :: K2) (msT A' ++ t.2.2 :: [] :: msT B) from hs)
 rw [List.append_nil] at h2
 refine ⟨A' ++ t :: B, by rw [fw, fw, List.append_assoc]; rfl, ⟨fun c hc => hkeys.1 c (tf hc), hkeys.2.sublist (List.Sublist.append_left (List.sublist_cons_self _ _) _)⟩, by rw [dw, dw, ey, List.append_assoc]; simp [pgT], by rw [eC, eC, eY, List.append_assoc]; simp [prT], by rw [eU]; exact h2, ?_⟩
 have := KidsT.app.2 ⟨h.ka, h.kb⟩
 rwa [List.append_assoc] at this
theorem Hole.gone0 {k : Bs} (h : Hole V d [] (k :: K2) [] B []) : CT V (d + 1) (.br K2 (aS B)) (pgT B) (prT B) :=
 ⟨B, rfl, ⟨fun c hc => h.keys.1 c (List.mem_cons_of_mem _ hc), (List.pairwise_cons.1 h.keys.2).2⟩, rfl, rfl, h.seps.2.2, h.kb⟩
theorem Hole.mergeR {k : Bs} {t : Kd} (h : Hole V d K1 (k :: K2) A (t :: B) m) : Hole V d K1 K2 A B (m ++ t.2.2) :=
 ⟨⟨fun c hc => h.keys.1 c (tf hc), h.keys.2.sublist (List.Sublist.append_left (List.sublist_cons_self _ _) _)⟩, h.la, Seps.merge h.lm h.keys.2 h.seps, h.ka, (KidsT.cons.1 h.kb).2⟩
theorem Hole.mergeL {k : Bs} {t : Kd} (h : Hole V d (K1 ++ [k]) K2 (A ++ [t]) B m) : Hole V d K1 K2 A B (t.2.2 ++ m) := by
 have hl := h.la
 rw [List.length_append, List.length_append, List.length_singleton, List.length_singleton] at hl
 have hs := h.seps
 rw [eU, List.append_assoc, List.append_assoc, List.singleton_append] at hs
 have hkeys := h.keys
 rw [List.append_assoc, List.singleton_append] at hkeys
 exact ⟨⟨fun c hc => hkeys.1 c (tf hc), hkeys.2.sublist (List.Sublist.append_left (List.sublist_cons_self _ _) _)⟩, by omega, Seps.merge (by rw [msT, List.length_map]; omega) hkeys.2 (show Seps (K1 ++ k :: K2) (msT A ++ t.2.2 :: m :: msT B) from hs), (KidsT.app.1 h.ka).1, h.kb⟩
end
theorem CT.hole {V : UInt32 → Bs} {d : Nat} {ks : List Bs} {ids : List UInt32} {pg : List UInt32} {m : List Pr} (h : CT V (d + 1) (.br ks ids) pg m) (x : Bs) :
  ∃ (K1 K2 : List Bs) (A : List Kd) (t : Kd) (B : List Kd), ks = K1 ++ K2 ∧ K1.length = plc ks x ∧ ids = aS A ++ t.1 :: aS B ∧ pg = pgT A ++ (t.2.1 ++ pgT B) ∧ m = prT A ++ (t.2.2 ++ prT B) ∧ Hole V d K1 K2 A B t.2.2 ∧ isT V d t.1 t.2.1 t.2.2 ∧ t.2.2 ≠ [] ∧ Below (prT A) x ∧ (∀ p ∈ prT B, ltB x p.1 = true) ∧ (∀ k ∈ K1, ltB x k = false) ∧ ∀ k ∈ K2, ltB x k = true := by
 obtain ⟨ts, rfl, h2, rfl, rfl, h5, h6⟩ := h
 obtain ⟨K1, K2, rfl, hl, h7, h8⟩ := yC (x := x) h2.2
 have hlen := h5.len
 rw [msT, List.length_map, List.length_append] at hlen
 have hlt : K1.length < ts.length := by omega
 have hts : ts = ts.take K1.length ++ ts[K1.length] :: ts.drop (K1.length + 1) := by
  rw [← List.drop_eq_getElem_cons hlt, List.take_append_drop]
 obtain ⟨A, hA⟩ : ∃ A, A = ts.take K1.length := ⟨_, rfl⟩
 obtain ⟨B, hB⟩ : ∃ B, B = ts.drop (K1.length + 1) := ⟨_, rfl⟩
 obtain ⟨t, ht⟩ : ∃ t, t = ts[K1.length] := ⟨_, rfl⟩
 rw [← hA, ← hB, ← ht] at hts
 have hla : A.length = K1.length := by rw [hA, List.length_take]; omega
 clear hA hB ht
 subst hts
 rw [KidsT.app, KidsT.cons] at h6
 rw [eU] at h5
 have hlm : (msT A).length = K1.length := by rw [msT, List.length_map]; exact hla
 have h5' : Seps (K1 ++ K2) (msT A ++ t.2.2 :: msT B) := h5
 refine ⟨K1, K2, A, t, B, rfl, hl, by rw [fw]; rfl, by rw [dw, ey], by rw [eC, eY], ⟨h2, hla, h5', h6.1, h6.2.2⟩, h6.2.1.1, h6.2.1.2, ?_, ?_, h7, h8⟩
 ·rw [← gN]; exact Seps.before hlm h5' h7
 ·rw [← gN]; exact Seps.behind (Seps.drop hlm h5') h8
end Go.Sac

end
section
namespace Go.Sac
open Go
theorem mn {l : List Pr} {p q : Pr} (h : q ∈ eL l p) : q = p ∨ q ∈ l := by
 unfold eL at h
 rcases List.mem_append.1 h with h | h
 ·exact .inr (List.mem_filter.1 h).1
 ·rcases List.mem_cons.1 h with h | h
  ·exact .inl h
  ·exact .inr (List.mem_filter.1 h).1
theorem yz (l : List Pr) (p : Pr) : p ∈ eL l p := by unfold eL; simp
theorem putP_ne (l : List Pr) (p : Pr) : eL l p ≠ [] := List.ne_nil_of_mem (yz l p)
theorem yw {l : List Pr} (p : Pr) (h : dK l) : dK (eL l p) := by
 unfold dK eL
 rw [List.pairwise_append]
 refine ⟨h.filter _, List.pairwise_cons.2 ⟨fun q hq => (List.mem_filter.1 hq).2, h.filter _⟩, fun a ha b hb => ?_⟩
 have h1 := (List.mem_filter.1 ha).2
 rcases List.mem_cons.1 hb with rfl | hb
 ·exact h1
 ·exact dy h1 (List.mem_filter.1 hb).2
theorem putP_ok {l : List Pr} {p : Pr} (h : eI l) (hp : ni p) : eI (eL l p) :=
 ⟨fun q hq => (mn hq).elim (fun e => by rw [e]; exact hp) (h.1 q), yw p h.2⟩
theorem qg {l : List Pr} {k : Bs} {q : Pr} (h : q ∈ gm l k) : q ∈ l := (List.mem_filter.1 h).1
theorem xX {l : List Pr} {k : Bs} (h : eI l) : eI (gm l k) := ⟨fun q hq => h.1 q (qg hq), yZ k h.2⟩
theorem ec {l : List Pr} {f : Pr → Bool} (h : ∀ p ∈ l, f p = true) : l.filter f = l := List.filter_eq_self.2 h
theorem gP {l : List Pr} {f : Pr → Bool} (h : ∀ p ∈ l, f p = false) : l.filter f = [] := List.filter_eq_nil_iff.2 (fun p hp => by rw [h p hp]; exact Bool.false_ne_true)
theorem Aq {a m b : List Pr} {p : Pr} (ha : Below a p.1) (hb : ∀ q ∈ b, ltB p.1 q.1 = true) : eL (a ++ (m ++ b)) p = a ++ (eL m p ++ b) := by
 unfold eL
 simp only [List.filter_append, List.append_assoc, List.cons_append]
 rw [ec (l := a) ha, gP (l := b) (fun q hq => fZ (hb q hq)), gP (l := a) (fun q hq => fZ (ha q hq)), ec (l := b) hb]
 simp
theorem B8 {a m b : List Pr} {k : Bs} (ha : Below a k) (hb : ∀ q ∈ b, ltB k q.1 = true) : gm (a ++ (m ++ b)) k = a ++ (gm m k ++ b) := by
 unfold gm
 simp only [List.filter_append]
 rw [ec (l := a) (fun q hq => by have := lC (ha q hq); simpa using this), ec (l := b) (fun q hq => by have := lC (hb q hq); simpa using Ne.symm this)]
theorem kl (a b : List Pr) (k : Bs) : km (a ++ b) k = (km a k).or (km b k) := by
 unfold km
 rw [List.find?_append]
 cases List.find? (fun p => p.1 == k) a <;> rfl
theorem kQ {l : List Pr} {k : Bs} (h : ∀ p ∈ l, p.1 ≠ k) : km l k = none := by
 unfold km
 rw [List.find?_eq_none.2 (fun p hp => by simpa using h p hp)]; rfl
theorem uJ {a m b : List Pr} {k : Bs} (ha : Below a k) (hb : ∀ q ∈ b, ltB k q.1 = true) : km (a ++ (m ++ b)) k = km m k := by
 rw [kl, kl, kQ (l := a) (fun p hp => lC (ha p hp)), kQ (l := b) (fun p hp => Ne.symm (lC (hb p hp)))]
 simp
def cU (l : List Pr) (k : Bs) : Nat := eP (rT l) k
def dN (l : List Pr) (k : Bs) : Bool := decide (∃ h : cU l k < l.length, (l[cU l k]'h).1 = k)
theorem hY (l : List Pr) : (rT l).length = l.length := List.length_map ..
theorem kO {l : List Pr} {i : Nat} (h : i < l.length) : (rT l)[i]'(by rw [hY]; exact h) = l[i].1 := List.getElem_map ..
theorem oC (l : List Pr) (k : Bs) : cU l k ≤ l.length := by have := mY (rT l) k; rw [hY] at this; exact this
theorem wC {l : List Pr} (h : dK l) : gW (rT l) := sortP_keys.1 h
theorem pO {l : List Pr} {k : Bs} {i : Nat} (hi : i < cU l k) : ltB (l[i]'(Nat.lt_of_lt_of_le hi (oC l k))).1 k = true := by
 have := tp (l := rT l) (x := k) hi
 rw [kO (Nat.lt_of_lt_of_le hi (oC l k))] at this; exact this
theorem sZ {l : List Pr} {k : Bs} (hs : dK l) {i : Nat} (hi : cU l k ≤ i) (hl : i < l.length) : ltB l[i].1 k = false := by
 have := xY (wC hs) (i := i) (by rw [hY]; exact hl) hi
 rw [kO hl] at this; exact this
theorem vV {l : List Pr} {k : Bs} (hs : dK l) {i : Nat} (hi : cU l k ≤ i) (hl : i < l.length) (hn : dN l k = false ∨ cU l k < i) : ltB k l[i].1 = true := by
 have h1 := sZ hs hi hl
 cases h2 : ltB k l[i].1 with
 | true => rfl
 | false =>
  have e := mF h1 h2
  rcases hn with hn | hn
  ·unfold dN at hn
   by_cases hp : cU l k = i
   ·subst hp; exact absurd ⟨hl, e⟩ (of_decide_eq_false hn)
   ·have h3 := List.pairwise_iff_getElem.1 hs (cU l k) i (by omega) hl (by omega)
    rw [e] at h3
    rw [sZ hs (Nat.le_refl _) (by omega)] at h3; cases h3
  ·have h3 := List.pairwise_iff_getElem.1 hs (cU l k) i (by omega) hl hn
   rw [e] at h3
   rw [sZ hs (Nat.le_refl _) (by omega)] at h3; cases h3
theorem nz {l : List Pr} (k : Bs) (hs : dK l) : l.filter (fun q => ltB q.1 k) = l.take (cU l k) := by
 have h := List.filter_append (p := fun q : Pr => ltB q.1 k) (l.take (cU l k)) (l.drop (cU l k))
 rw [List.take_append_drop] at h
 rw [h, ec, gP, List.append_nil]
 ·intro p hp
  obtain ⟨i, hi, rfl⟩ := List.getElem_of_mem hp
  rw [List.length_drop] at hi
  rw [List.getElem_drop]
  exact sZ hs (by omega) (by omega)
 ·intro p hp
  obtain ⟨i, hi, rfl⟩ := List.getElem_of_mem hp
  rw [List.length_take] at hi
  rw [List.getElem_take]
  exact pO (by omega)
theorem fF {l : List Pr} {k : Bs} (h : dN l k = true) : cU l k < l.length := (of_decide_eq_true h).1
theorem mL {l : List Pr} {k : Bs} (h : dN l k = true) : (l[cU l k]'(fF h)).1 = k := (of_decide_eq_true h).2
theorem nA {l : List Pr} (k : Bs) (hs : dK l) : l.filter (fun q => ltB k q.1) = l.drop (cU l k + (dN l k).toNat) := by
 have h := List.filter_append (p := fun q : Pr => ltB k q.1) (l.take (cU l k + (dN l k).toNat)) (l.drop (cU l k + (dN l k).toNat))
 rw [List.take_append_drop] at h
 rw [h, gP, ec, List.nil_append]
 ·intro p hp
  obtain ⟨i, hi, rfl⟩ := List.getElem_of_mem hp
  rw [List.length_drop] at hi
  rw [List.getElem_drop]
  refine vV hs (by omega) (by omega) ?_
  cases hh : dN l k with
  | false => exact .inl rfl
  | true => right; simp only [Bool.toNat_true]; omega
 ·intro p hp
  obtain ⟨i, hi, rfl⟩ := List.getElem_of_mem hp
  rw [List.length_take] at hi
  rw [List.getElem_take]
  by_cases hi2 : i < cU l k
  ·exact fZ (pO hi2)
  ·by_cases hh : dN l k = true
   ·have hb : (dN l k).toNat = 1 := by rw [hh]; rfl
    have hi3 : i = cU l k := by omega
    have hk : (l[i]'(by omega)).1 = k := by simp only [hi3]; exact mL hh
    rw [hk]; exact fv k
   ·have hb : (dN l k).toNat = 0 := by rw [Bool.eq_false_iff.2 hh]; rfl
    omega
theorem pJ {l : List Pr} {p : Pr} (hs : dK l) (h : dN l p.1 = true) : eL l p = l.set (cU l p.1) p := by
 unfold eL
 rw [nz _ hs, nA _ hs, h, List.set_eq_take_append_cons_drop, if_pos (fF h)]; rfl
theorem jX {l : List Pr} {p : Pr} (hs : dK l) (h : dN l p.1 = false) : eL l p = l.take (cU l p.1) ++ p :: l.drop (cU l p.1) := by
 unfold eL
 rw [nz _ hs, nA _ hs, h]; rfl
theorem B7 {l : List Pr} {k : Bs} (hs : dK l) (h : dN l k = true) : gm l k = l.take (cU l k) ++ l.drop (cU l k + 1) := by
 have hl := fF h
 unfold gm
 have e : l = l.take (cU l k) ++ l[cU l k] :: l.drop (cU l k + 1) := by rw [← List.drop_eq_getElem_cons hl, List.take_append_drop]
 have h1 : (l.take (cU l k)).filter (fun q => !(q.1 == k)) = l.take (cU l k) := ec (fun p hp => by
  obtain ⟨i, hi, rfl⟩ := List.getElem_of_mem hp
  rw [List.length_take] at hi
  rw [List.getElem_take]
  have := lC (pO (l := l) (k := k) (i := i) (by omega))
  simpa using this)
 have h2 : (l.drop (cU l k + 1)).filter (fun q => !(q.1 == k)) = l.drop (cU l k + 1) := ec (fun p hp => by
  obtain ⟨i, hi, rfl⟩ := List.getElem_of_mem hp
  rw [List.length_drop] at hi
  rw [List.getElem_drop]
  have := lC (vV (k := k) hs (i := cU l k + 1 + i) (by omega) (by omega) (.inr (by omega)))
  simpa using Ne.symm this)
 calc l.filter (fun q => !(q.1 == k)) = (l.take (cU l k) ++ l[cU l k] :: l.drop (cU l k + 1)).filter (fun q => !(q.1 == k)) := by rw [← e]
  _ = _ := by rw [List.filter_append, h1, List.filter_cons, h2, mL h]; simp
theorem uI {l : List Pr} {k : Bs} (hs : dK l) : dN l k = true ↔ ∃ p ∈ l, p.1 = k := by
 constructor
 ·intro h; exact ⟨_, List.getElem_mem (fF h), mL h⟩
 ·rintro ⟨p, hp, rfl⟩
  obtain ⟨i, hi, rfl⟩ := List.getElem_of_mem hp
  cases h : dN l l[i].1 with
  | true => rfl
  | false =>
   by_cases hc : i < cU l l[i].1
   ·have := pO hc; rw [fv] at this; cases this
   ·have := vV hs (by omega) hi (.inl h); rw [fv] at this; cases this
theorem z7 {l : List Pr} {k : Bs} (hs : dK l) (h : dN l k = false) : gm l k = l := by
 refine ec (fun p hp => ?_)
 by_cases hk : p.1 = k
 ·rw [(uI hs).2 ⟨p, hp, hk⟩] at h; cases h
 ·simpa using hk
theorem xL {l : List Pr} {k : Bs} (hs : dK l) (h : dN l k = true) : km l k = some (l[cU l k]'(fF h)).2 := by
 have e : l = l.take (cU l k) ++ (l[cU l k]'(fF h) :: (l.drop (cU l k + 1) ++ [])) := by rw [List.append_nil, ← List.drop_eq_getElem_cons (fF h), List.take_append_drop]
 have hb : Below (l.take (cU l k)) k := fun p hp => by
  obtain ⟨i, hi, rfl⟩ := List.getElem_of_mem hp
  rw [List.length_take] at hi
  rw [List.getElem_take]
  exact pO (by omega)
 have : km (l.take (cU l k) ++ (l[cU l k]'(fF h) :: (l.drop (cU l k + 1) ++ []))) k = some (l[cU l k]'(fF h)).2 := by
  rw [kl, kQ (l := l.take _) (fun p hp => lC (hb p hp)), Option.none_or]
  unfold km
  rw [List.find?_cons_of_pos (by rw [mL h]; exact beq_self_eq_true k)]; rfl
 rw [← e] at this; exact this
theorem xK {l : List Pr} {k : Bs} (hs : dK l) (h : dN l k = false) : km l k = none :=
 kQ (fun p hp hk => by rw [(uI hs).2 ⟨p, hp, hk⟩] at h; cases h)
theorem rW {l : List Pr} {k : Bs} (hs : dK l) : (km l k).isSome = dN l k := by
 cases h : dN l k with
 | true => rw [xL hs h]; rfl
 | false => rw [xK hs h]; rfl
theorem uH {a m b : List Pr} {k : Bs} (hs : dK (a ++ (m ++ b))) (ha : Below a k) (hb : ∀ q ∈ b, ltB k q.1 = true) : dN (a ++ (m ++ b)) k = dN m k := by
 have hm : dK m := hs.sublist ((List.sublist_append_left m b).trans (List.sublist_append_right a _))
 rw [← rW hs, ← rW hm, uJ ha hb]
end Go.Sac

end
section
namespace Go.Sac
open Go
def qh (c : Cn) (n : Nat) : Cn := match c with
 | .leaf ps => .leaf (ps.take n)
 | .br ks ids => .br (ks.take (n - 1)) (ids.take n)
def qL (c : Cn) (n : Nat) : Bs := match c with
 | .leaf ps => (ps.getD n ([], [])).1
 | .br ks _ => ks.getD (n - 1) []
def ot (c : Cn) (n : Nat) : Cn := match c with
 | .leaf ps => .leaf (ps.drop n)
 | .br ks ids => .br (ks.drop n) (ids.drop n)
def jg : Cn → Nat
 | .leaf ps => ps.length
 | .br _ ids => ids.length
def eD : Cn → Nat
 | .leaf _ => 1
 | .br _ _ => 2
def zb (c : Cn) (n : Nat) : Nat := max (cnZ (qh c n)) (cnZ (ot c n))
def qj : Cn → Prop
 | .leaf ps => eI ps ∧ bK ps ≤ 694
 | .br ks ids => tg ks ∧ ids.length = ks.length + 1 ∧ brZ ks ids ≤ 546
theorem sM (P : Nat → Prop) [DecidablePred P] : ∀ (k a : Nat), P a → ¬ P (a + k) → ∃ n, a ≤ n ∧ n < a + k ∧ P n ∧ ¬ P (n + 1)
 | 0, _, h, h' => absurd h h'
 | k + 1, a, h, h' => by
  by_cases h1 : P (a + 1)
  ·obtain ⟨n, q1, q2, q3, q4⟩ := sM P k (a + 1) h1 (by rw [Nat.add_assoc, Nat.add_comm 1 k]; exact h')
   exact ⟨n, by omega, by omega, q3, q4⟩
  ·exact ⟨a, Nat.le_refl _, by omega, h, h1⟩
theorem g8 (ps : List Pr) (n : Nat) : bK (ps.take n) + bK (ps.drop n) = bK ps + 3 := by
 have := dk (ps.take n) (ps.drop n)
 rw [List.take_append_drop] at this; omega
theorem lD {ps : List Pr} {n : Nat} (h : n < ps.length) : bK (ps.take (n + 1)) = bK (ps.take n) + (ps[n].1.length + ps[n].2.length + 4) := by
 have h1 := dk (ps.take n) [ps[n]]
 rw [g0, List.take_append_getElem h] at h1
 omega
theorem iE {ks : List Bs} {n : Nat} (h : n < ks.length) : cq (ks.take (n + 1)) = cq (ks.take n) + (ks[n].length + 2) := by
 have h1 := fE (ks.take n) [ks[n]]
 rw [List.take_append_getElem h, gx] at h1
 simpa [cq] using h1
theorem gw (ks : List Bs) (n : Nat) : cq (ks.take n) + cq (ks.drop n) = cq ks := by
 have := fE (ks.take n) (ks.drop n)
 rw [List.take_append_drop] at this; omega
theorem nu : ∀ ks : List Bs, 2 * ks.length ≤ cq ks
 | [] => Nat.zero_le _
 | a :: l => by rw [gx, List.length_cons]; have := nu l; omega
theorem z8 {c : Cn} (h : qj c) (hz : 480 < cnZ c) : ∃ n, eD c ≤ n ∧ n + eD c ≤ jg c ∧ zb c n ≤ 480 := by
 cases c with
 | leaf ps =>
  obtain ⟨⟨h1, _⟩, h2⟩ := h
  have hz : 480 < bK ps := hz
  have hl := (mI ps h1).1
  have hlen : 3 ≤ ps.length := by omega
  have hp : ∀ n (h : n < ps.length), (ps[n].1.length + ps[n].2.length + 4) ≤ 214 := fun n h => by
   have := h1 _ (List.getElem_mem h); omega
  obtain ⟨n, q1, q2, q3, q4⟩ := sM (fun n => bK (ps.take n) ≤ 480) (ps.length - 1) 1 (by
   have := lD (ps := ps) (n := 0) (by omega)
   have := hp 0 (by omega)
   have : bK (ps.take 0) = 3 := rfl
   show bK (ps.take (0 + 1)) ≤ 480
   omega) (by rw [show 1 + (ps.length - 1) = ps.length by omega, List.take_length]; omega)
  refine ⟨n, q1, by show n + 1 ≤ ps.length; omega, Nat.max_le.2 ⟨q3, ?_⟩⟩
  show bK (ps.drop n) ≤ 480
  have e1 := g8 ps n
  have e2 := lD (ps := ps) (n := n) (by omega)
  have e3 := hp n (by omega)
  omega
 | br ks ids =>
  obtain ⟨⟨h1, _⟩, h2, h3⟩ := h
  have hz : 480 < 3 + 4 * ids.length + cq ks := hz
  have h3 : 3 + 4 * ids.length + cq ks ≤ 546 := h3
  have hl := (pX ks h1).1
  have hlen : 9 ≤ ids.length := by omega
  have hp : ∀ n (h : n < ks.length), ks[n].length ≤ 60 := fun n h => (h1 _ (List.getElem_mem h)).2
  have ha : ∀ n, 2 ≤ n → n + 2 ≤ ids.length → cnZ (qh (.br ks ids) n) = 3 + 4 * n + cq (ks.take (n - 1)) := fun n q1 q2 => by
   show 3 + 4 * (ids.take n).length + _ = _
   rw [List.length_take, Nat.min_eq_left (by omega)]
  have hb : ∀ n, 2 ≤ n → n + 2 ≤ ids.length → cnZ (ot (.br ks ids) n) = 3 + 4 * (ids.length - n) + cq (ks.drop n) := fun n q1 q2 => by
   show 3 + 4 * (ids.drop n).length + _ = _
   rw [List.length_drop]
  have hc : ∀ n (h : n - 1 < ks.length), 1 ≤ n → cq (ks.take (n - 1)) + (ks[n - 1].length + 2) + cq (ks.drop n) = cq ks := fun n h h1 => by
   have e1 := iE h
   have e2 := gw ks n
   rw [show n - 1 + 1 = n by omega] at e1
   omega
  by_cases hend : 3 + 4 * (ids.length - 2) + cq (ks.take (ids.length - 2 - 1)) ≤ 480
  ·refine ⟨ids.length - 2, by show 2 ≤ _; omega, by show _ + 2 ≤ ids.length; omega, Nat.max_le.2 ⟨by rw [ha _ (by omega) (by omega)]; exact hend, ?_⟩⟩
   rw [hb _ (by omega) (by omega)]
   have e1 : ks.drop (ids.length - 2) = [ks[ids.length - 2]] := by
    rw [List.drop_eq_getElem_cons (by omega), List.drop_of_length_le (by omega)]
   rw [e1, gx]
   have := hp (ids.length - 2) (by omega)
   have : cq [] = 0 := rfl
   omega
  ·obtain ⟨n, q1, q2, q3, q4⟩ := sM (fun n => 3 + 4 * n + cq (ks.take (n - 1)) ≤ 480) (ids.length - 4) 2 (by
    have e1 := iE (ks := ks) (n := 0) (by omega)
    have := hp 0 (by omega)
    have : cq (ks.take 0) = 0 := rfl
    show 3 + 4 * 2 + cq (ks.take (0 + 1)) ≤ 480
    omega) (by rw [show 2 + (ids.length - 4) = ids.length - 2 by omega]; exact hend)
   refine ⟨n, q1, by show n + 2 ≤ ids.length; omega, Nat.max_le.2 ⟨by rw [ha n q1 (by omega)]; exact q3, ?_⟩⟩
   rw [hb n q1 (by omega)]
   have e1 := iE (ks := ks) (n := n - 1) (by omega)
   have e2 := hc n (by omega) (by omega)
   have e3 := hp (n - 1) (by omega)
   rw [show n - 1 + 1 = n by omega] at e1
   have q4' : ¬ (3 + 4 * (n + 1) + cq (ks.take n) ≤ 480) := q4
   omega
theorem CT.cuts {V : UInt32 → Bs} : ∀ {d : Nat} {c : Cn} {pg : List UInt32} {m : List Pr} {n : Nat}, CT V d c pg m → eD c ≤ n → n + eD c ≤ jg c →
  ∃ pg1 pg2 m1 m2, pg = pg1 ++ pg2 ∧ m = m1 ++ m2 ∧ CT V d (qh c n) pg1 m1 ∧ CT V d (ot c n) pg2 m2 ∧ m1 ≠ [] ∧ m2 ≠ [] ∧ Below m1 (qL c n) ∧ Above m2 (qL c n) ∧ ji (qL c n) ∧ gz (qh c n) ∧ gz (ot c n)
 | 0, .br _ _, _, _, _, h, _, _ => h.elim
 | _ + 1, .leaf _, _, _, _, h, _, _ => h.elim
 | 0, .leaf ps, pg, m, n, ⟨h1, h2, h3⟩, hn, hm => by
  subst h1; subst h2
  have hn : 1 ≤ n := hn
  have hm : n + 1 ≤ ps.length := hm
  have hk : qL (.leaf ps) n = ps[n].1 := by
   show (ps.getD n ([], [])).1 = _
   rw [List.getD_eq_getElem?_getD, List.getElem?_eq_getElem (by omega)]; rfl
  have hpl : ∀ p ∈ ps.take n, ∃ i, ∃ h : i < n, p = ps[i] := fun p hp => by
   obtain ⟨i, hi, rfl⟩ := List.getElem_of_mem hp
   rw [List.length_take] at hi
   exact ⟨i, by omega, by rw [List.getElem_take]⟩
  refine ⟨[], [], ps.take n, ps.drop n, rfl, (List.take_append_drop _ _).symm, ⟨rfl, rfl, fun p hp => h3.1 p (List.mem_of_mem_take hp), h3.2.sublist (List.take_sublist _ _)⟩, ⟨rfl, rfl, fun p hp => h3.1 p (List.mem_of_mem_drop hp), h3.2.sublist (List.drop_sublist _ _)⟩, ?_, ?_, ?_, ?_, ?_, trivial, trivial⟩
  ·intro e; have := congrArg List.length e; rw [List.length_take, List.length_nil] at this; omega
  ·intro e; have := congrArg List.length e; rw [List.length_drop, List.length_nil] at this; omega
  ·rw [hk]; intro p hp
   obtain ⟨i, hi, rfl⟩ := hpl p hp
   exact List.pairwise_iff_getElem.1 h3.2 i n (by omega) (by omega) hi
  ·rw [hk]; intro p hp
   obtain ⟨i, hi, rfl⟩ := List.getElem_of_mem hp
   rw [List.length_drop] at hi
   rw [List.getElem_drop]
   cases i with
   | zero => exact fv _
   | succ i => exact fZ (List.pairwise_iff_getElem.1 h3.2 n (n + (i + 1)) (by omega) (by omega) (by omega))
  ·rw [hk]; exact (h3.1 _ (List.getElem_mem (by omega))).1
 | d + 1, .br ks ids, pg, m, n, ⟨ts, h1, h2, h3, h4, h5, h6⟩, hn, hm => by
  subst h1; subst h3; subst h4
  have hn : 2 ≤ n := hn
  have hm : n + 2 ≤ (aS ts).length := hm
  rw [aS, List.length_map] at hm
  have hlen := h5.len
  rw [msT, List.length_map] at hlen
  have hk : qL (.br ks (aS ts)) n = ks[n - 1] := by
   show ks.getD (n - 1) [] = _
   rw [List.getD_eq_getElem?_getD, List.getElem?_eq_getElem (by omega)]; rfl
  have hks : ks = ks.take (n - 1) ++ ks[n - 1] :: ks.drop n := by
   have := List.drop_eq_getElem_cons (l := ks) (i := n - 1) (by omega)
   rw [show n - 1 + 1 = n by omega] at this
   rw [← this, List.take_append_drop]
  have hts : ts.take n ++ ts.drop n = ts := List.take_append_drop _ _
  have hkey := h2.1 _ (List.getElem_mem (l := ks) (n := n - 1) (by omega))
  obtain ⟨k0, hk0⟩ : ∃ k0, k0 = ks[n - 1] := ⟨_, rfl⟩
  rw [← hk0] at hk hks hkey
  have hsc : gW (ks.take (n - 1) ++ k0 :: ks.drop n) := by rw [← hks]; exact h2.2
  have h5' : Seps (ks.take (n - 1) ++ k0 :: ks.drop n) (msT (ts.take n) ++ msT (ts.drop n)) := by rw [← hks, ← eU, hts]; exact h5
  obtain ⟨q1, q2, q3, q4⟩ := Seps.cut (by rw [msT, List.length_map, List.length_take, List.length_take]; omega) hsc h5'
  have h6' : KidsT V d (ts.take n) ∧ KidsT V d (ts.drop n) := KidsT.app.1 (by rw [hts]; exact h6)
  rw [gN] at q3 q4
  have hne : ∀ l : List Kd, KidsT V d l → l ≠ [] → prT l ≠ [] := fun l hl hn e => by
   cases l with
   | nil => exact hn rfl
   | cons t l =>
    rw [eY] at e
    exact (hl t List.mem_cons_self).2 (List.append_eq_nil_iff.1 e).1
  refine ⟨pgT (ts.take n), pgT (ts.drop n), prT (ts.take n), prT (ts.drop n), by rw [← dw, List.take_append_drop], by rw [← eC, List.take_append_drop],
   ⟨ts.take n, by unfold aS; rw [List.map_take], ⟨fun k hk => h2.1 k (List.mem_of_mem_take hk), h2.2.sublist (List.take_sublist _ _)⟩, rfl, rfl, q1, h6'.1⟩,
   ⟨ts.drop n, by unfold aS; rw [List.map_drop], ⟨fun k hk => h2.1 k (List.mem_of_mem_drop hk), h2.2.sublist (List.drop_sublist _ _)⟩, rfl, rfl, q2, h6'.2⟩,
   hne _ h6'.1 (fun e => by have := congrArg List.length e; rw [List.length_take, List.length_nil] at this; omega), hne _ h6'.2 (fun e => by have := congrArg List.length e; rw [List.length_drop, List.length_nil] at this; omega),
   by rw [hk]; exact q3, by rw [hk]; exact q4, by rw [hk]; exact hkey, ?_, ?_⟩
  ·intro e; have := congrArg List.length e; rw [List.length_take, List.length_nil] at this; omega
  ·intro e; have := congrArg List.length e; rw [List.length_drop, List.length_nil] at this; omega
theorem CT.ok {V : UInt32 → Bs} : ∀ {d : Nat} {c : Cn} {pg : List UInt32} {m : List Pr}, CT V d c pg m → (cnZ c ≤ 546 ∨ (∃ ps, c = .leaf ps) ∧ cnZ c ≤ 694) → qj c
 | 0, .leaf _, _, _, ⟨h1, _, h3⟩, hz => by
  subst h1
  refine ⟨h3, ?_⟩
  rcases hz with hz | ⟨_, hz⟩
  ·exact Nat.le_trans hz (by decide)
  ·exact hz
 | 0, .br _ _, _, _, h, _ => h.elim
 | _ + 1, .leaf _, _, _, h, _ => h.elim
 | _ + 1, .br ks _, _, _, ⟨ts, h1, h2, _, _, h5, _⟩, hz => by
  subst h1
  have := h5.len
  rw [msT, List.length_map] at this
  refine ⟨h2, by rw [aS, List.length_map]; exact this, ?_⟩
  rcases hz with hz | ⟨⟨_, h⟩, _⟩
  ·exact hz
  ·cases h
theorem yy {l : List Pr} {p : Pr} (hs : dK l) : bK (eL l p) ≤ bK l + (p.1.length + p.2.length + 4) := by
 have hone := g0 p
 cases h : dN l p.1 with
 | true =>
  unfold eL
  rw [nz _ hs, nA _ hs, h]
  have h1 := dk (l.take (cU l p.1)) ([p] ++ l.drop (cU l p.1 + true.toNat))
  have h2 := dk [p] (l.drop (cU l p.1 + true.toNat))
  have h3 := g8 l (cU l p.1)
  have h4 := g8 (l.drop (cU l p.1)) 1
  have h5 : bK ((l.drop (cU l p.1)).take 1) ≥ 3 := by unfold bK; omega
  rw [List.drop_drop] at h4
  rw [List.singleton_append] at h1 h2
  simp only [Bool.toNat_true] at h1 h2 ⊢
  omega
 | false =>
  rw [jX hs h]
  have h1 := dk (l.take (cU l p.1)) ([p] ++ l.drop (cU l p.1))
  have h2 := dk [p] (l.drop (cU l p.1))
  have h3 := g8 l (cU l p.1)
  rw [List.singleton_append] at h1 h2
  omega
theorem z6 (l : List Pr) (k : Bs) : bK (gm l k) ≤ bK l := by
 unfold gm
 induction l with
 | nil => exact Nat.le_refl _
 | cons a l ih =>
  have h1 := dk [a] l
  rw [List.singleton_append, g0] at h1
  rw [List.filter_cons]
  split
  ·have h2 := dk [a] (l.filter fun q => !(q.1 == k))
   rw [List.singleton_append, g0] at h2
   omega
  ·omega
theorem Bf (K1 K2 : List Bs) (a b : List UInt32) (i j : UInt32) : brZ (K1 ++ K2) (a ++ i :: b) = brZ (K1 ++ K2) (a ++ j :: b) := by
 unfold brZ; simp
theorem sq (K1 K2 : List Bs) (a b : List UInt32) (i j l : UInt32) (k : Bs) : brZ (K1 ++ k :: K2) (a ++ i :: l :: b) = brZ (K1 ++ K2) (a ++ j :: b) + 6 + k.length := by
 unfold brZ
 rw [fE, fE, gx]
 simp only [List.length_append, List.length_cons]; omega
theorem CT.lone {V : UInt32 → Bs} {d : Nat} {ids : List UInt32} {pg : List UInt32} {m : List Pr} (h : CT V d (.br [] ids) pg m) : ∃ d' id, d = d' + 1 ∧ ids = [id] ∧ isT V d' id pg m := by
 cases d with
 | zero => exact h.elim
 | succ d =>
  obtain ⟨ts, rfl, h2, rfl, rfl, h5, h6⟩ := h
  have := h5.len
  rw [msT, List.length_map] at this
  match ts, this with
  | [t], _ => exact ⟨d, t.1, rfl, rfl, by rw [ey, eY]; simp only [pgT, prT, List.flatMap_nil, List.append_nil]; exact (h6 t List.mem_cons_self).1⟩
theorem Hole.top (V : UInt32 → Bs) (d : Nat) (m : List Pr) : Hole V d [] [] [] [] m :=
 ⟨⟨fun _ h => by simp at h, List.Pairwise.nil⟩, rfl, trivial, fun _ h => by simp at h, fun _ h => by simp at h⟩
end Go.Sac

end
section
namespace Go.Sac
open Go
instance : Flat Bs := ⟨1, fun s => [str s], fun _ => rfl, fun s v h => by simp at h; subst h; rfl⟩
instance : Flat Pr := ⟨2, fun p => [str p.1, str p.2], fun _ => rfl, fun s v h => by
 simp only [List.mem_cons, List.not_mem_nil, or_false] at h
 rcases h with rfl | rfl <;> rfl⟩
section
variable {P : Program} {E : Env} {w : World} {ty t u : TypeId} {x y : Operand} {a b : Bs}
theorem nt (a b : Bs) : Op.bytesLess (⟨a.toArray⟩ : ByteArray).toList (⟨b.toArray⟩ : ByteArray).toList = ltB a b := by
 simp only [ByteArray.toList_eq]
theorem sg (a b : Bs) : ((⟨a.toArray⟩ : ByteArray).toList == (⟨b.toArray⟩ : ByteArray).toList) = decide (a = b) := by
 simp only [ByteArray.toList_eq]
 rw [Bool.eq_iff_iff]; simp
theorem vA (hx : ev E x = str a) (hy : ev E y = str b) : exec P E (.binOp .lss t x y u) ty w = .ok (.value (.bool (ltB a b))) w := by
 rw [kq, hx, hy]; refine aT ?_; simp [eqGuard, binOp, Op.stringOp, nt]
theorem oM (hx : ev E x = str a) (hy : ev E y = str b) : exec P E (.binOp .geq t x y u) ty w = .ok (.value (.bool (!ltB a b))) w := by
 rw [kq, hx, hy]; refine aT ?_; simp [eqGuard, binOp, Op.stringOp, nt]
def uC (a b : Bs) : Bs := if ltB a b = true then b else a
theorem x_maxS {d d' : TypeId} (hx : ev E x = str a) (hy : ev E y = str b) : exec P E (.call { callee := .builtin .max, args := #[x, y], argTypes := #[d, d'] }) ty w = .ok (.value (str (uC a b))) w := by
 rw [qf]; refine aT ?_
 cases h : ltB a b <;> simp [Builtin.max_, Builtin.max2, hx, hy, Op.stringOp, asBool, nt, uC, h]
end
end Go.Sac

end
