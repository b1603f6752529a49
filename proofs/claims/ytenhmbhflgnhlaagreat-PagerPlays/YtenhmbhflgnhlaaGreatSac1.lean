/- every row of calls, crashes, the power going within a commit: what each tells -/
import Derived.Test.YtenhmbhflgnhlaaGreatSac0
import Derived.Shelf.SlIterI.Nil
import Derived.Shelf.SortM.Plain
import Derived.Shelf.SortM.SortNone
import Derived.Shelf.SlMaps.Clone
import Derived.Lib.SlKeysI
import Derived.RangeFuncGives
import Derived.Maps.RangeWalk
import Derived.Maps.Keyed
namespace Go.Sac
def bigL (l : List UInt8) : UInt32 := shl32 (l.getD 0 0).toUInt32 24 ||| shl32 (l.getD 1 0).toUInt32 16 ||| shl32 (l.getD 2 0).toUInt32 8 ||| (l.getD 3 0).toUInt32
def littleL (l : List UInt8) : UInt32 := shl32 (l.getD 3 0).toUInt32 24 ||| shl32 (l.getD 2 0).toUInt32 16 ||| shl32 (l.getD 1 0).toUInt32 8 ||| (l.getD 0 0).toUInt32
def putBigL (x : UInt32) : List UInt8 := [(shr32 x 24).toUInt8, (shr32 x 16).toUInt8, (shr32 x 8).toUInt8, x.toUInt8]
def putLittleL (x : UInt32) : List UInt8 := [x.toUInt8, (shr32 x 8).toUInt8, (shr32 x 16).toUInt8, (shr32 x 24).toUInt8]
def rot32 (x : UInt32) (s : Nat) : UInt32 := shl32 x s ||| shr32 x (32 - s)
def rotr (x : UInt32) (n : Nat) : UInt32 := rot32 x ((32 - n % 32) % 32)
def rotl (x : UInt32) (n : Nat) : UInt32 := rot32 x (n % 32)
def shaFirst : List UInt32 := [0x6a09e667, 0xbb67ae85, 0x3c6ef372, 0xa54ff53a, 0x510e527f, 0x9b05688c, 0x1f83d9ab, 0x5be0cd19]
def shaK : List UInt32 := [0x428a2f98, 0x71374491, 0xb5c0fbcf, 0xe9b5dba5, 0x3956c25b, 0x59f111f1, 0x923f82a4, 0xab1c5ed5,
  0xd807aa98, 0x12835b01, 0x243185be, 0x550c7dc3, 0x72be5d74, 0x80deb1fe, 0x9bdc06a7, 0xc19bf174,
  0xe49b69c1, 0xefbe4786, 0x0fc19dc6, 0x240ca1cc, 0x2de92c6f, 0x4a7484aa, 0x5cb0a9dc, 0x76f988da,
  0x983e5152, 0xa831c66d, 0xb00327c8, 0xbf597fc7, 0xc6e00bf3, 0xd5a79147, 0x06ca6351, 0x14292967,
  0x27b70a85, 0x2e1b2138, 0x4d2c6dfc, 0x53380d13, 0x650a7354, 0x766a0abb, 0x81c2c92e, 0x92722c85,
  0xa2bfe8a1, 0xa81a664b, 0xc24b8b70, 0xc76c51a3, 0xd192e819, 0xd6990624, 0xf40e3585, 0x106aa070,
  0x19a4c116, 0x1e376c08, 0x2748774c, 0x34b0bcb5, 0x391c0cb3, 0x4ed8aa4a, 0x5b9cca4f, 0x682e6ff3,
  0x748f82ee, 0x78a5636f, 0x84c87814, 0x8cc70208, 0x90befffa, 0xa4506ceb, 0xbef9a3f7, 0xc67178f2]
def schedAt (b : List UInt8) (w : List UInt32) (i : Nat) : List UInt32 :=
  if i < 16 then w.set i (bigL (b.drop (4 * i)))
  else
    let x := w.getD (i - 15) 0
    let y := w.getD (i - 2) 0
    w.set i ((rotr y 17 ^^^ rotr y 19 ^^^ shr32 y 10) + w.getD (i - 7) 0 + (rotr x 7 ^^^ rotr x 18 ^^^ shr32 x 3) + w.getD (i - 16) 0)
def schedN (b : List UInt8) (n : Nat) : List UInt32 := (List.range n).foldl (schedAt b) (List.replicate 64 0)
def shaRound (w : List UInt32) (v : List UInt32) (i : Nat) : List UInt32 :=
  let a := v.getD 0 0
  let e := v.getD 4 0
  let t1 := v.getD 7 0 + (rotr e 6 ^^^ rotr e 11 ^^^ rotr e 25) + ((e &&& v.getD 5 0) ^^^ ((~~~ e) &&& v.getD 6 0)) + shaK.getD i 0 + w.getD i 0
  let t2 := (rotr a 2 ^^^ rotr a 13 ^^^ rotr a 22) + ((a &&& v.getD 1 0) ^^^ (a &&& v.getD 2 0) ^^^ (v.getD 1 0 &&& v.getD 2 0))
  [t1 + t2, a, v.getD 1 0, v.getD 2 0, v.getD 3 0 + t1, e, v.getD 5 0, v.getD 6 0]
def shaRounds (w : List UInt32) (s : List UInt32) (n : Nat) : List UInt32 := (List.range n).foldl (shaRound w) s
def shaAdds (s v : List UInt32) (n : Nat) : List UInt32 := (List.range n).foldl (fun v i => v.set i (v.getD i 0 + s.getD i 0)) v
def shaNext (s : List UInt32) (b : List UInt8) : List UInt32 := shaAdds s (shaRounds (schedN b 64) s 64) 8
theorem schedAt_length (b : List UInt8) (w : List UInt32) (i : Nat) : (schedAt b w i).length = w.length := by
  unfold schedAt; split <;> simp
theorem schedN_length (b : List UInt8) (n : Nat) : (schedN b n).length = 64 := by
  unfold schedN
  induction n with
  | zero => simp
  | succ n ih => rw [List.range_succ, List.foldl_append]; simp only [List.foldl_cons, List.foldl_nil]; rw [schedAt_length, ih]
theorem schedN_succ (b : List UInt8) (n : Nat) : schedN b (n + 1) = schedAt b (schedN b n) n := by
  unfold schedN; rw [List.range_succ, List.foldl_append]; rfl
theorem shaRounds_succ (w s : List UInt32) (n : Nat) : shaRounds w s (n + 1) = shaRound w (shaRounds w s n) n := by
  unfold shaRounds; rw [List.range_succ, List.foldl_append]; rfl
theorem shaRounds_length (w s : List UInt32) (h : s.length = 8) (n : Nat) : (shaRounds w s n).length = 8 := by
  cases n with
  | zero => exact h
  | succ n => rw [shaRounds_succ]; rfl
theorem shaAdds_succ (s v : List UInt32) (n : Nat) : shaAdds s v (n + 1) = (shaAdds s v n).set n ((shaAdds s v n).getD n 0 + s.getD n 0) := by
  unfold shaAdds; rw [List.range_succ, List.foldl_append]; rfl
theorem shaAdds_length (s v : List UInt32) (n : Nat) : (shaAdds s v n).length = v.length := by
  induction n with
  | zero => rfl
  | succ n ih => rw [shaAdds_succ, List.length_set, ih]
theorem shaNext_length (s : List UInt32) (b : List UInt8) (h : s.length = 8) : (shaNext s b).length = 8 := by
  unfold shaNext; rw [shaAdds_length, shaRounds_length _ _ h]
def absorb : Nat → List UInt32 → List UInt8 → List UInt32
  | 0, s, _ => s
  | k + 1, s, l => absorb k (shaNext s (l.take 64)) (l.drop 64)
theorem absorb_length (k : Nat) (s : List UInt32) (l : List UInt8) (h : s.length = 8) : (absorb k s l).length = 8 := by
  induction k generalizing s l with
  | zero => exact h
  | succ k ih => exact ih _ _ (shaNext_length _ _ h)
theorem absorb_append (k : Nat) (s : List UInt32) (l m : List UInt8) (h : 64 * k ≤ l.length) : absorb k s (l ++ m) = absorb k s l := by
  induction k generalizing s l with
  | zero => rfl
  | succ k ih =>
    unfold absorb
    rw [List.take_append_of_le_length (by omega), List.drop_append_of_le_length (by omega), ih _ _ (by rw [List.length_drop]; omega)]
theorem absorb_add (j k : Nat) (s : List UInt32) (l : List UInt8) : absorb (j + k) s l = absorb k (absorb j s l) (l.drop (64 * j)) := by
  induction j generalizing s l with
  | zero => simp [absorb]
  | succ j ih =>
    rw [show j + 1 + k = (j + k) + 1 from by omega]
    show absorb (j + k) _ _ = absorb k (absorb j _ _) _
    rw [ih, List.drop_drop, show 64 + 64 * j = 64 * (j + 1) from by omega]
def restOf (l : List UInt8) : List UInt8 := l.drop (64 * (l.length / 64))
def stateOf (l : List UInt8) : List UInt32 := absorb (l.length / 64) shaFirst l
def zeros (n : Nat) : Nat := (119 - n % 64) % 64
def padOf (n : Nat) : List UInt8 := 0x80 :: (List.replicate (zeros n) 0 ++ be 8 (n * 8))
def shaSum (l : List UInt8) : List UInt8 := (absorb ((l ++ padOf l.length).length / 64) shaFirst (l ++ padOf l.length)).flatMap putBigL
theorem restOf_length (l : List UInt8) : (restOf l).length = l.length % 64 := by
  unfold restOf; rw [List.length_drop]; omega
theorem pad_length (n : Nat) : (n + (padOf n).length) % 64 = 0 := by
  unfold padOf zeros; simp [be_length]; omega
theorem flatMap_put_length (l : List UInt32) : (l.flatMap putBigL).length = 4 * l.length := by
  induction l with
  | nil => rfl
  | cons a l ih => simp only [List.flatMap_cons, List.length_append, ih, List.length_cons]; simp [putBigL]; omega
theorem shaSum_length (l : List UInt8) : (shaSum l).length = 32 := by
  unfold shaSum; rw [flatMap_put_length, absorb_length _ _ _ rfl]
theorem state_app (l m : List UInt8) : stateOf (l ++ m) = absorb (((restOf l) ++ m).length / 64) (stateOf l) (restOf l ++ m) := by
  have h1 : (l ++ m).length / 64 = l.length / 64 + (restOf l ++ m).length / 64 := by
    rw [List.length_append, List.length_append, restOf_length]; omega
  unfold stateOf
  rw [h1, absorb_add, absorb_append _ _ _ _ (by omega), List.drop_append_of_le_length (by omega)]; rfl
theorem rest_app (l m : List UInt8) : restOf (l ++ m) = (restOf l ++ m).drop (64 * ((restOf l ++ m).length / 64)) := by
  unfold restOf
  rw [← List.drop_append_of_le_length (by omega), List.drop_drop]
  congr 1
  simp only [List.length_append, List.length_drop]; omega
theorem sum_rest (l : List UInt8) : absorb ((restOf l ++ padOf l.length).length / 64) (stateOf l) (restOf l ++ padOf l.length) = absorb ((l ++ padOf l.length).length / 64) shaFirst (l ++ padOf l.length) :=
  (state_app l (padOf l.length)).symm
theorem schedN_zero (b : List UInt8) : schedN b 0 = List.replicate 64 0 := rfl
theorem shaRounds_zero (w s : List UInt32) : shaRounds w s 0 = s := rfl
theorem shaAdds_zero (s v : List UInt32) : shaAdds s v 0 = v := rfl
theorem shaNext_def (s : List UInt32) (b : List UInt8) : shaNext s b = shaAdds s (shaRounds (schedN b 64) s 64) 8 := rfl
theorem absorb_zero (s : List UInt32) (l : List UInt8) : absorb 0 s l = s := rfl
theorem absorb_snoc (k : Nat) (s : List UInt32) (l : List UInt8) : absorb (k + 1) s l = shaNext (absorb k s l) ((l.drop (64 * k)).take 64) := by
  rw [absorb_add]; rfl
theorem shaSum_def (l : List UInt8) : shaSum l = (absorb ((l ++ padOf l.length).length / 64) shaFirst (l ++ padOf l.length)).flatMap putBigL := rfl
theorem stateOf_nil : stateOf [] = shaFirst := rfl
theorem restOf_nil : restOf [] = [] := rfl
theorem stateOf_length (l : List UInt8) : (stateOf l).length = 8 := absorb_length _ _ _ rfl
attribute [irreducible] schedN shaRounds shaAdds shaNext absorb shaSum stateOf restOf
def macPad (k : List UInt8) (c : UInt8) : List UInt8 := (k ++ List.replicate (64 - k.length) 0).map (· ^^^ c)
def macL (k m : List UInt8) : List UInt8 := shaSum (macPad k 0x5c ++ shaSum (macPad k 0x36 ++ m))
def deriveL (k label : List UInt8) (n : Nat) : List UInt8 := macL k (label ++ be 4 n ++ [1])
theorem macPad_length (k : List UInt8) (c : UInt8) (h : k.length ≤ 64) : (macPad k c).length = 64 := by
  unfold macPad; simp; omega
theorem macL_length (k m : List UInt8) : (macL k m).length = 32 := shaSum_length _
theorem deriveL_length (k l : List UInt8) (n : Nat) : (deriveL k l n).length = 32 := macL_length _ _
theorem macL_def (k m : List UInt8) : macL k m = shaSum (macPad k 0x5c ++ shaSum (macPad k 0x36 ++ m)) := rfl
theorem deriveL_def (k label : List UInt8) (n : Nat) : deriveL k label n = macL k (label ++ be 4 n ++ [1]) := rfl
attribute [irreducible] macL deriveL
def quarterL (a b c d : UInt32) : UInt32 × UInt32 × UInt32 × UInt32 :=
  let a := a + b
  let d := rotl (d ^^^ a) 16
  let c := c + d
  let b := rotl (b ^^^ c) 12
  let a := a + b
  let d := rotl (d ^^^ a) 8
  let c := c + d
  let b := rotl (b ^^^ c) 7
  (a, b, c, d)
def quarterAt (w : List UInt32) (a b c d : Nat) : List UInt32 :=
  let q := quarterL (w.getD a 0) (w.getD b 0) (w.getD c 0) (w.getD d 0)
  (((w.set a q.1).set b q.2.1).set c q.2.2.1).set d q.2.2.2
def colsL (w : List UInt32) (n : Nat) : List UInt32 := (List.range n).foldl (fun w i => quarterAt w i (i + 4) (i + 8) (i + 12)) w
def diagsL (w : List UInt32) (n : Nat) : List UInt32 := (List.range n).foldl (fun w i => quarterAt w i (4 + (i + 1) % 4) (8 + (i + 2) % 4) (12 + (i + 3) % 4)) w
def roundL (w : List UInt32) : List UInt32 := diagsL (colsL w 4) 4
def roundsL (w : List UInt32) (n : Nat) : List UInt32 := (List.range n).foldl (fun w _ => roundL w) w
def streamC : List UInt32 := [0x61707865, 0x3320646e, 0x79622d32, 0x6b206574, 0, 0, 0, 0, 0, 0, 0, 0, 0, 0, 0, 0]
def firstK (k : List UInt8) (n : Nat) : List UInt32 := (List.range n).foldl (fun w i => w.set (4 + i) (littleL (k.drop (4 * i)))) streamC
def firstN (w : List UInt32) (nonce : List UInt8) (n : Nat) : List UInt32 := (List.range n).foldl (fun w i => w.set (13 + i) (littleL (nonce.drop (4 * i)))) w
def firstL (k nonce : List UInt8) (counter : UInt32) : List UInt32 := firstN ((firstK k 8).set 12 counter) nonce 3
def outL (was w : List UInt32) (n : Nat) : List UInt8 := (List.range n).flatMap fun i => putLittleL (w.getD i 0 + was.getD i 0)
def blockL (k nonce : List UInt8) (counter : UInt32) : List UInt8 := outL (firstL k nonce counter) (roundsL (firstL k nonce counter) 10) 16
def crossN (k nonce : List UInt8) : Nat → UInt32 → List UInt8 → List UInt8
  | 0, _, _ => []
  | n + 1, c, b => xorL (b.take 64) (blockL k nonce c) ++ crossN k nonce n (c + 1) (b.drop 64)
def crossL (k nonce : List UInt8) (c : UInt32) (b : List UInt8) : List UInt8 := crossN k nonce ((b.length + 63) / 64) c b
theorem quarterAt_length (w : List UInt32) (a b c d : Nat) : (quarterAt w a b c d).length = w.length := by simp [quarterAt]
theorem colsL_succ (w : List UInt32) (n : Nat) : colsL w (n + 1) = quarterAt (colsL w n) n (n + 4) (n + 8) (n + 12) := by
  unfold colsL; rw [List.range_succ, List.foldl_append]; rfl
theorem diagsL_succ (w : List UInt32) (n : Nat) : diagsL w (n + 1) = quarterAt (diagsL w n) n (4 + (n + 1) % 4) (8 + (n + 2) % 4) (12 + (n + 3) % 4) := by
  unfold diagsL; rw [List.range_succ, List.foldl_append]; rfl
theorem roundsL_succ (w : List UInt32) (n : Nat) : roundsL w (n + 1) = roundL (roundsL w n) := by
  unfold roundsL; rw [List.range_succ, List.foldl_append, List.foldl_cons, List.foldl_nil]
theorem firstK_succ (k : List UInt8) (n : Nat) : firstK k (n + 1) = (firstK k n).set (4 + n) (littleL (k.drop (4 * n))) := by
  unfold firstK; rw [List.range_succ, List.foldl_append]; rfl
theorem firstN_succ (w : List UInt32) (k : List UInt8) (n : Nat) : firstN w k (n + 1) = (firstN w k n).set (13 + n) (littleL (k.drop (4 * n))) := by
  unfold firstN; rw [List.range_succ, List.foldl_append]; rfl
theorem colsL_zero (w : List UInt32) : colsL w 0 = w := rfl
theorem diagsL_zero (w : List UInt32) : diagsL w 0 = w := rfl
theorem roundsL_zero (w : List UInt32) : roundsL w 0 = w := rfl
theorem firstK_zero (k : List UInt8) : firstK k 0 = streamC := rfl
theorem firstN_zero (w : List UInt32) (k : List UInt8) : firstN w k 0 = w := rfl
theorem colsL_length (w : List UInt32) (n : Nat) : (colsL w n).length = w.length := by
  induction n with
  | zero => rfl
  | succ n ih => rw [colsL_succ, quarterAt_length, ih]
theorem diagsL_length (w : List UInt32) (n : Nat) : (diagsL w n).length = w.length := by
  induction n with
  | zero => rfl
  | succ n ih => rw [diagsL_succ, quarterAt_length, ih]
theorem roundL_def (w : List UInt32) : roundL w = diagsL (colsL w 4) 4 := rfl
theorem roundL_length (w : List UInt32) : (roundL w).length = w.length := by rw [roundL, diagsL_length, colsL_length]
theorem roundsL_length (w : List UInt32) (n : Nat) : (roundsL w n).length = w.length := by
  induction n with
  | zero => rfl
  | succ n ih => rw [roundsL_succ, roundL_length, ih]
theorem firstK_length (k : List UInt8) (n : Nat) : (firstK k n).length = 16 := by
  induction n with
  | zero => rfl
  | succ n ih => rw [firstK_succ, List.length_set, ih]
theorem firstN_length (w : List UInt32) (k : List UInt8) (n : Nat) : (firstN w k n).length = w.length := by
  induction n with
  | zero => rfl
  | succ n ih => rw [firstN_succ, List.length_set, ih]
theorem firstL_def (k nonce : List UInt8) (counter : UInt32) : firstL k nonce counter = firstN ((firstK k 8).set 12 counter) nonce 3 := rfl
theorem firstL_length (k nonce : List UInt8) (c : UInt32) : (firstL k nonce c).length = 16 := by rw [firstL, firstN_length, List.length_set, firstK_length]
theorem outL_succ (was w : List UInt32) (n : Nat) : outL was w (n + 1) = outL was w n ++ putLittleL (w.getD n 0 + was.getD n 0) := by
  unfold outL; rw [List.range_succ, List.flatMap_append]; simp
theorem outL_zero (was w : List UInt32) : outL was w 0 = [] := rfl
theorem outL_length (was w : List UInt32) (n : Nat) : (outL was w n).length = 4 * n := by
  induction n with
  | zero => rfl
  | succ n ih => rw [outL_succ, List.length_append, ih]; simp [putLittleL]; omega
theorem blockL_def (k nonce : List UInt8) (c : UInt32) : blockL k nonce c = outL (firstL k nonce c) (roundsL (firstL k nonce c) 10) 16 := rfl
theorem blockL_length (k nonce : List UInt8) (c : UInt32) : (blockL k nonce c).length = 64 := outL_length _ _ _
theorem crossN_length (k nonce : List UInt8) (n : Nat) (c : UInt32) (b : List UInt8) (h : b.length ≤ 64 * n) : (crossN k nonce n c b).length = b.length := by
  induction n generalizing c b with
  | zero => have : b = [] := List.eq_nil_of_length_eq_zero (by omega)
            subst this; rfl
  | succ n ih =>
    rw [crossN, List.length_append, ih _ _ (by rw [List.length_drop]; omega), xorL_length, blockL_length, List.length_take, List.length_drop]; omega
theorem crossL_length (k nonce : List UInt8) (c : UInt32) (b : List UInt8) : (crossL k nonce c b).length = b.length := crossN_length _ _ _ _ _ (by omega)
theorem crossN_succ (k nonce : List UInt8) (n : Nat) (c : UInt32) (b : List UInt8) : crossN k nonce (n + 1) c b = xorL (b.take 64) (blockL k nonce c) ++ crossN k nonce n (c + 1) (b.drop 64) := rfl
theorem crossN_zero (k nonce : List UInt8) (c : UInt32) (b : List UInt8) : crossN k nonce 0 c b = [] := rfl
theorem crossL_def (k nonce : List UInt8) (c : UInt32) (b : List UInt8) : crossL k nonce c b = crossN k nonce ((b.length + 63) / 64) c b := rfl
theorem crossN_crossN (k nonce : List UInt8) (n : Nat) (c : UInt32) (b : List UInt8) (h : b.length ≤ 64 * n) : crossN k nonce n c (crossN k nonce n c b) = b := by
  induction n generalizing c b with
  | zero => have : b = [] := List.eq_nil_of_length_eq_zero (by omega)
            subst this; rfl
  | succ n ih =>
    rw [crossN_succ k nonce n c b]
    have hx : (xorL (b.take 64) (blockL k nonce c)).length = min 64 b.length := by rw [xorL_length, blockL_length, List.length_take]; omega
    by_cases h64 : 64 ≤ b.length
    · rw [crossN_succ, List.take_left' (by omega), List.drop_left' (by omega), ih _ _ (by rw [List.length_drop]; omega), xorL_xorL _ _ (by rw [List.length_take, blockL_length]; omega), List.take_append_drop]
    · have hd : b.drop 64 = [] := List.drop_of_length_le (by omega)
      have hn : ∀ n c, crossN k nonce n c [] = [] := by
        intro n
        induction n with
        | zero => intro c; rfl
        | succ n ih => intro c; rw [crossN_succ]; simp [ih, xorL]
      rw [hd, hn, List.append_nil, crossN_succ, List.take_of_length_le (by omega), List.drop_of_length_le (by omega), hn, List.append_nil, List.take_of_length_le (by omega), xorL_xorL _ _ (by rw [blockL_length]; omega)]
theorem crossL_crossL (k nonce : List UInt8) (c : UInt32) (b : List UInt8) : crossL k nonce c (crossL k nonce c b) = b := by
  rw [crossL_def, crossL_length, crossL_def]
  exact crossN_crossN _ _ _ _ _ (by omega)
theorem quarterL_def (a b c d : UInt32) : quarterL a b c d =
  (let a := a + b
  let d := rotl (d ^^^ a) 16
  let c := c + d
  let b := rotl (b ^^^ c) 12
  let a := a + b
  let d := rotl (d ^^^ a) 8
  let c := c + d
  let b := rotl (b ^^^ c) 7
  (a, b, c, d)) := rfl
theorem quarterAt_def (w : List UInt32) (a b c d : Nat) : quarterAt w a b c d =
  (((w.set a (quarterL (w.getD a 0) (w.getD b 0) (w.getD c 0) (w.getD d 0)).1).set b (quarterL (w.getD a 0) (w.getD b 0) (w.getD c 0) (w.getD d 0)).2.1).set c (quarterL (w.getD a 0) (w.getD b 0) (w.getD c 0) (w.getD d 0)).2.2.1).set d (quarterL (w.getD a 0) (w.getD b 0) (w.getD c 0) (w.getD d 0)).2.2.2 := rfl
attribute [irreducible] quarterL quarterAt colsL diagsL roundL roundsL firstK firstN firstL outL blockL crossN crossL
def tMac : List UInt8 := [109, 97, 99]
def tEnc : List UInt8 := [101, 110, 99]
def tWrap : List UInt8 := [119, 114, 97, 112]
def nonceL (page gen : Nat) : List UInt8 := be 4 page ++ be 8 gen
def tagL (k nonce aad cipher : List UInt8) : List UInt8 := (macL (deriveL k tMac 0) (be 8 aad.length ++ aad ++ nonce ++ cipher)).take 16
def crossK (k nonce b : List UInt8) : List UInt8 := crossL (deriveL k tEnc 0) nonce 1 b
def sealL (k nonce aad plain : List UInt8) : List UInt8 := crossK k nonce plain ++ tagL k nonce aad (crossK k nonce plain)
def wrapL (kek : List UInt8) (slot gen : Nat) (key : List UInt8) : List UInt8 := sealL kek (nonceL slot gen) tWrap key
def fitsL (k nonce aad b : List UInt8) : Prop := b.drop (b.length - 16) = tagL k nonce aad (b.take (b.length - 16))
instance (k nonce aad b : List UInt8) : Decidable (fitsL k nonce aad b) := inferInstanceAs (Decidable (_ = _))
theorem nonceL_length (p g : Nat) : (nonceL p g).length = 12 := by simp [nonceL, be_length]
theorem tagL_length (k nonce aad c : List UInt8) : (tagL k nonce aad c).length = 16 := by simp [tagL, macL_length]
theorem crossK_length (k nonce b : List UInt8) : (crossK k nonce b).length = b.length := crossL_length _ _ _ _
theorem crossK_crossK (k nonce b : List UInt8) : crossK k nonce (crossK k nonce b) = b := crossL_crossL _ _ _ _
theorem sealL_length (k nonce aad b : List UInt8) : (sealL k nonce aad b).length = b.length + 16 := by simp [sealL, crossK_length, tagL_length]
theorem wrapL_length (k : List UInt8) (s g : Nat) (key : List UInt8) (h : key.length = 32) : (wrapL k s g key).length = 48 := by rw [wrapL, sealL_length, h]
theorem tagL_def (k nonce aad c : List UInt8) : tagL k nonce aad c = (macL (deriveL k tMac 0) (be 8 aad.length ++ aad ++ nonce ++ c)).take 16 := rfl
theorem crossK_def (k nonce b : List UInt8) : crossK k nonce b = crossL (deriveL k tEnc 0) nonce 1 b := rfl
theorem sealL_def (k nonce aad plain : List UInt8) : sealL k nonce aad plain = crossK k nonce plain ++ tagL k nonce aad (crossK k nonce plain) := rfl
theorem nonceL_def (page gen : Nat) : nonceL page gen = be 4 page ++ be 8 gen := rfl
theorem seal_fits (k nonce aad p : List UInt8) : fitsL k nonce aad (sealL k nonce aad p) := by
  have h : (sealL k nonce aad p).length - 16 = (crossK k nonce p).length := by rw [sealL_length, crossK_length]; omega
  unfold fitsL
  rw [h, sealL_def, List.drop_left', List.take_left'] <;> rfl
theorem seal_opens (k nonce aad p : List UInt8) : crossK k nonce ((sealL k nonce aad p).take ((sealL k nonce aad p).length - 16)) = p := by
  have h : (sealL k nonce aad p).length - 16 = (crossK k nonce p).length := by rw [sealL_length, crossK_length]; omega
  rw [h, sealL_def, List.take_left', crossK_crossK]; rfl
attribute [irreducible] nonceL tagL crossK sealL
theorem map_step {α : Type} (f : α → α) (l : List α) (i : Nat) (d : α) (h : i < l.length) : ((l.take i).map f ++ l.drop i).set i (f (l.getD i d)) = (l.take (i + 1)).map f ++ l.drop (i + 1) := by
  have h1 : ((l.take i).map f).length = i := by simp; omega
  rw [List.set_append_right _ _ (by omega), h1, Nat.sub_self, List.drop_eq_getElem_cons h, List.set_cons_zero, List.take_succ_eq_append_getElem h, List.map_append]
  have : l.getD i d = l[i] := by rw [List.getD_eq_getElem?_getD, List.getElem?_eq_getElem h]; rfl
  rw [this]; simp
theorem map_at {α : Type} (f : α → α) (l : List α) (i : Nat) (d : α) (h : i < l.length) : ((l.take i).map f ++ l.drop i)[i]? = some (l.getD i d) := by
  have h1 : ((l.take i).map f).length = i := by simp; omega
  rw [List.getElem?_append_right (by omega), h1, Nat.sub_self, List.getElem?_drop, Nat.add_zero, List.getElem?_eq_getElem h]
  rw [List.getD_eq_getElem?_getD, List.getElem?_eq_getElem h]; rfl
end Go.Sac

namespace Go.Sac
open Go
def Blk (w : World) (b : Nat) (cs : List Value) : Prop := ∃ e, w.heap[b]? = some (.cells cs.toArray e (0, 0))
section
variable {w w' : World} {b : Nat} {cs : List Value} {S : List Nat}
theorem Blk.chg (h : Blk w b cs) (hm : Chg S w w') (hn : b ∉ S) : Blk w' b cs := by
  obtain ⟨e, h⟩ := h; exact ⟨e, hm.blk h hn⟩
theorem Blk.chg0 (h : Blk w b cs) (hm : Chg [] w w') : Blk w' b cs := h.chg hm (by simp)
theorem Blk.nb {c : Nat} (h : Blk w b cs) (hm : Chg [c] w w') (hn : b ≠ c) : Blk w' b cs := h.chg hm (by simpa using hn)
theorem Blk.heap (h : Blk w b cs) (hh : Hp w' w) : Blk w' b cs := h.chg0 (Chg.heap hh)
theorem Blk.lt (h : Blk w b cs) : b < w.heap.size := by
  obtain ⟨e, h⟩ := h; exact lt_of_blk h
theorem Blk.c (h : Blk w b cs) {off : Nat} {v : Value} (hv : cs[off]? = some v) : w.cell? ⟨b, off, none⟩ = some v := by
  obtain ⟨e, h⟩ := h
  exact cell_of h (by simpa using hv)
theorem Blk.at (h : Blk w b cs) {off : Nat} {l : List Value} (hl : (cs.drop off).take l.length = l) : At w b off l := by
  obtain ⟨e, h⟩ := h
  exact At.of_blk' h (by simpa using hl)
theorem Arr.blk {α : Type} [Flat α] {l : List α} (h : Arr w b l) : Blk w b (encL l) := h
variable {P : Program} {E : Env} {ty t : TypeId} {x y : Operand}
theorem x_loadBA {d : TypeDesc} {i : TypeInfo} {off : Nat} (l : List Value) (ht : P.underlying t = some d) (hd : isAggD d = true) (hi : P.info? t = some i) (hx : ev E x = .pointer (some ⟨b, off, none⟩)) (h : Blk w b cs) (hl : (cs.drop off).take l.length = l) (hs : i.size = l.length) :
    exec P E (.load t x) ty w = .ok (.value (.agg l.toArray)) w := x_loadA ht hd hi hx (h.at hl) hs
theorem putL_list (c : List Value) (off : Nat) (vs : List Value) (h : off + vs.length ≤ c.length) : putL c.toArray off vs = (spl c off vs).toArray := by
  apply Array.ext_getElem?
  intro j
  rw [putL_get _ _ _ _ (by simpa using h)]
  simp only [spl, List.getElem?_toArray]
  by_cases h1 : j < off
  · rw [if_neg (by omega), List.append_assoc, List.getElem?_append_left (by rw [List.length_take]; omega), List.getElem?_take, if_pos h1]
  · by_cases h2 : j < off + vs.length
    · rw [if_pos (by omega), List.getElem?_append_left (by rw [List.length_append, List.length_take]; omega), List.getElem?_append_right (by rw [List.length_take]; omega), List.length_take, Nat.min_eq_left (by omega)]
    · rw [if_neg (by omega), List.getElem?_append_right (by rw [List.length_append, List.length_take]; omega), List.length_append, List.length_take, List.getElem?_drop, Nat.min_eq_left (by omega)]
      congr 1; omega
theorem x_storeB {i : TypeInfo} {off : Nat} {v : Value} {l cs' : List Value} (hi : P.info? t = some i) (hx : ev E x = .pointer (some ⟨b, off, none⟩)) (hy : ev E y = v) (hb : Blk w b cs) (hv : v.cells.toList = l) (hs : i.size = l.length) (ho : off + l.length ≤ cs.length) (hc : ∀ q ∈ l, isCell q = true) (hr : spl cs off l = cs') :
    ∃ w1, exec P E (.store t x y) ty w = .ok .skip w1 ∧ Blk w1 b cs' ∧ Chg [b] w w1 ∧ w1.heap.size = w.heap.size := by
  obtain ⟨e, hb⟩ := hb
  subst hv hr
  have hsz : v.cells.size = v.cells.toList.length := by simp
  have h1 := x_store (ty := ty) hi hx hy (by rw [hsz, hs]) hb (by rw [hsz, List.size_toArray]; exact ho) (soft_zero _) hc
  refine ⟨_, h1, ⟨e, ?_⟩, Chg.set _ _ _, setB_size _ _ _⟩
  rw [setB_at (lt_of_blk hb), putL_list _ _ _ ho]
theorem x_storeB1 {i : TypeInfo} {off : Nat} {v : Value} {cs' : List Value} (hi : P.info? t = some i) (hx : ev E x = .pointer (some ⟨b, off, none⟩)) (hy : ev E y = v) (hb : Blk w b cs) (hv : v.cells.toList = [v]) (hs : i.size = 1) (ho : off < cs.length) (hc : isCell v = true) (hr : spl cs off [v] = cs') :
    ∃ w1, exec P E (.store t x y) ty w = .ok .skip w1 ∧ Blk w1 b cs' ∧ Chg [b] w w1 ∧ w1.heap.size = w.heap.size :=
  x_storeB hi hx hy hb hv hs (by simp only [List.length_singleton]; omega) (by simpa using hc) hr
theorem x_allocB {i : TypeInfo} {z : Value} {l : List Value} (hi : P.info? t = some i) (hz : i.zero = some z) (hl : z.cells = l.toArray) :
    ∃ v w1, exec P E (.alloc t) ty w = .ok (.value v) w1 ∧ ∃ b, v = .pointer (some ⟨b, 0, none⟩) ∧ w.heap.size ≤ b ∧ Blk w1 b l ∧ Chg [] w w1 ∧ b < w1.heap.size :=
  ⟨_, _, x_alloc hi hz, _, rfl, Nat.le_refl _, ⟨t, by rw [← hl]; exact pushB_at _ _⟩, Chg.push _ _, by rw [pushB_size]; omega⟩
theorem x_boxB {v : Value} {l : List Value} (hx : ev E x = v) (hl : v.cells = l.toArray) :
    ∃ v w1, exec P E (.box t x) ty w = .ok (.value v) w1 ∧ ∃ b, v = .pointer (some ⟨b, 0, none⟩) ∧ w.heap.size ≤ b ∧ Blk w1 b l ∧ Chg [] w w1 ∧ b < w1.heap.size :=
  ⟨_, _, x_box hx, _, rfl, Nat.le_refl _, ⟨t, by rw [← hl]; exact pushB_at _ _⟩, Chg.push _ _, by rw [pushB_size]; omega⟩
theorem fill0 {place : Nat → Option (Nat × Nat)} {cs cs' : List Value} (h : cs = cs') : Instr.fill place cs.toArray [] = some cs'.toArray := by subst h; rfl
theorem fill1 {place : Nat → Option (Nat × Nat)} {cs l : List Value} {i off size : Nat} {v : Value} {rest : List (Nat × Value)} {r : Option (Array Value)} (hp : place i = some (off, size)) (hv : v.cells.toList = l) (hl : l.length = size) (ho : off + size ≤ cs.length)
    (h : Instr.fill place (spl cs off l).toArray rest = r) : Instr.fill place cs.toArray ((i, v) :: rest) = r := by
  subst hv
  have hsz : v.cells.size = size := by rw [← hl]; simp
  rw [fill_cons hp hsz (by simpa using ho), putL_list _ _ _ (by rw [hl]; exact ho), h]
theorem x_buildL {fs : List Field} {i : TypeInfo} {z : Value} {ps : List (Nat × Operand)} {cs zs : List Value} (ht : P.underlying t = some (.struct fs.toArray)) (hi : P.info? t = some i) (hz : i.zero = some z) (hzs : z.cells = zs.toArray) (hfs : fs.all (fun f => (P.info? f.type).isSome) = true)
    (hf : Instr.fill ((fs.map fun f => (f.offset, P.cellsOf f.type)).toArray[·]?) zs.toArray (ps.map fun p => (p.1, ev E p.2)) = some cs.toArray) : exec P E (.build t ps.toArray) ty w = .ok (.value (.agg cs.toArray)) w := by
  refine x_buildS ht hi hz hfs ?_
  rw [List.map_toArray, List.toList_toArray, hzs]
  exact hf
theorem In.nil {S : List Nat} {n l c : Nat} : In (.slice none l c) S n := fun b hb => by simp [blkOf] at hb
theorem x_bs {α : Type} [Flat α] (vs : List Value) (l : List α) {e : TypeId} {i : TypeInfo} {z : Value} {n : Nat} {ps : List (Nat × Operand)} (ht : P.underlying t = some (.slice e)) (hi : P.info? e = some i) (hz : i.zero = some z) (hsz : i.size = Flat.sz α) (hzs : z.cells.size = Flat.sz α)
    (hps : (ps.map fun p => (p.1, ev E p.2)) = vs.zipIdx.map fun x => (x.2, x.1)) (hv : vs.map (fun v => v.cells.toList) = l.map Flat.enc) (hn : l.length = n) (hb : n * Flat.sz α ≤ 16777216) :
    ∃ v' w', exec P E (.buildSlice t n ps.toArray) ty w = .ok (.value v') w' ∧ Own w' v' l ∧ Chg [] w w' ∧ In v' [] w.heap.size := by
  obtain ⟨v', h1, h2, h3⟩ := x_buildSlice (ty := ty) (w := w) (ps := ps.toArray) vs l ht hi hz hsz hzs (by rw [List.map_toArray, List.toList_toArray]; exact hps) hv hn hb
  exact ⟨v', _, h1, h2, Chg.push _ _, h3⟩
theorem Own.form {α : Type} [Flat α] {w : World} {v : Value} {l : List α} (h : Own w v l) {n : Nat} (hn : l.length = n) : ∃ p c, v = .slice p n c := by
  obtain ⟨p, c, rfl, _⟩ := h; exact ⟨p, c, by rw [hn]⟩
theorem Sl.form {α : Type} [Flat α] {w : World} {v : Value} {l : List α} (h : Sl w v l) {n : Nat} (hn : l.length = n) : ∃ p c, v = .slice p n c := by
  obtain ⟨p, c, rfl, _⟩ := h; exact ⟨p, c, by rw [hn]⟩
theorem Sl.srcH {α : Type} [Flat α] {P : Program} {w w' : World} {v : Value} {l : List α} (h : Sl w v l) (hh : Hp w' w) : Src α P w' v l := (h.heap hh).src
theorem nblk {b a off l c : Nat} {sp : Option Nat} (h : b ≠ a) : b ∉ blkOf (.slice (some ⟨a, off, sp⟩) l c) := by
  simpa [blkOf] using h
theorem In.of_ge {a off l c n : Nat} {sp : Option Nat} {S : List Nat} (h : n ≤ a) : In (.slice (some ⟨a, off, sp⟩) l c) S n := fun b hb => by
  simp only [blkOf, List.mem_singleton] at hb; subst hb; exact .inr h
theorem wpE_cond_dt {P : Program} {n : Nat} {Q : Post} {E : Env} {w : World} {c : Operand} {x y : Code} {p : Prop} [d : Decidable p] (hc : ev E c = .bool (decide p)) (hp : p) (h : wpE P n x Q E w) : wpE P n (.cond c x y) Q E w :=
  wpE_cond_d hc (fun _ => h) (fun h' => absurd hp h')
theorem wpE_cond_df {P : Program} {n : Nat} {Q : Post} {E : Env} {w : World} {c : Operand} {x y : Code} {p : Prop} [d : Decidable p] (hc : ev E c = .bool (decide p)) (hp : ¬ p) (h : wpE P n y Q E w) : wpE P n (.cond c x y) Q E w :=
  wpE_cond_d hc (fun h' => absurd h' hp) (fun _ => h)
theorem Appended.step {α : Type} [Flat α] {vx v' : Value} {l m : List α} {w w1 w2 : World} (h : Appended vx l m w1 v' w2) (hc : Chg [] w w1) (hi : In vx [] w.heap.size) : Own w2 v' (l ++ m) ∧ Chg [] w w2 ∧ In v' [] w.heap.size :=
  ⟨h.own, hc.t0 h.mod hi.ge, h.inn.mono (fun b hb => .inr (hi.ge b hb)) hc.1⟩
theorem Own.some {α : Type} [Flat α] {w : World} {v : Value} {l : List α} (h : Own w v l) {n : Nat} (hn : l.length = n) (hp : 0 < n) : ∃ b off c, v = .slice (.some ⟨b, off, none⟩) n c := by
  obtain ⟨p, c, rfl, _, h⟩ := h
  cases p with
  | none => obtain ⟨rfl, _⟩ := h; simp at hn; omega
  | some a =>
    obtain ⟨b, off, sp⟩ := a
    obtain ⟨h1, _⟩ := h
    simp only at h1; subst h1
    exact ⟨b, off, c, by rw [hn]⟩
theorem x_to {P : Program} {E : Env} {op : Op} {ty : TypeId} {w : World} {v v' : Value} (h : exec P E op ty w = .ok (.value v) w) (hv : v = v') : exec P E op ty w = .ok (.value v') w := by rw [h, hv]
theorem nb1 {l : List Nat} {b : Nat} (h : b ∉ l) : ∀ x ∈ l, x ∉ [b] := fun x hx he => by
  simp only [List.mem_singleton] at he; subst he; exact h hx
theorem spl_mid {a m m' r : List Value} {k : Nat} (h : m'.length = m.length) (hk : k = a.length) : spl (a ++ m ++ r) k m' = a ++ m' ++ r := by
  subst hk
  unfold spl
  rw [List.append_assoc a m r, List.take_left', h, ← List.append_assoc, ← List.length_append, List.drop_left']
  · rfl
  · rfl
end
theorem spl_front {m m' r : List Value} (h : m'.length = m.length) : spl (m ++ r) 0 m' = m' ++ r := by
  have := spl_mid (a := []) (r := r) h rfl
  simpa using this
theorem spl_at {a r : List Value} {x x' : Value} {k : Nat} (hk : k = a.length) : spl (a ++ x :: r) k [x'] = a ++ x' :: r := by
  have := spl_mid (a := a) (m := [x]) (m' := [x']) (r := r) rfl hk
  simpa using this
theorem spl_app {α : Type} {a r m : List α} {k j : Nat} (hk : k = a.length) (hj : j = m.length) : spl (a ++ r) k m = a ++ m ++ r.drop j := by
  subst hk hj
  unfold spl
  rw [List.take_left', List.drop_append]
  · congr 1; simp
  · rfl
theorem app_at {a r : List Value} {k i : Nat} {v : Value} (hk : k = a.length + i) (h : r[i]? = some v) : (a ++ r)[k]? = some v := by
  subst hk
  rw [List.getElem?_append_right (by omega), Nat.add_sub_cancel_left]; exact h
theorem front_at {a r : List Value} : ((a ++ r).drop 0).take a.length = a := by simp
theorem Own.clip {α : Type} [Flat α] {w : World} {p : Option Addr} {n c : Nat} {l : List α} (h : Own w (.slice p n c) l) : Own w (.slice p n n) l := by
  obtain ⟨p', cap, he, hlc, h⟩ := h
  simp only [Value.slice.injEq] at he
  obtain ⟨rfl, rfl, rfl⟩ := he
  refine ⟨p, l.length, rfl, Nat.le_refl _, ?_⟩
  cases p with
  | none => exact ⟨h.1, by rw [h.1]; rfl⟩
  | some a =>
    obtain ⟨h1, cs, e, fr, h2, h3, h4, h5⟩ := h
    refine ⟨h1, cs, e, fr, h2, h3, ?_, h5⟩
    have : l.length * Flat.sz α ≤ c * Flat.sz α := Nat.mul_le_mul_right _ hlc
    omega
section
variable {α : Type} [Flat α] {P : Program} {E : Env} {w : World} {ty t t' u : TypeId} {x lo hi mx : Operand}
theorem x_clip {e : TypeId} {i : TypeInfo} {p : Option Addr} {c : Nat} {l : List α} {k k' : IntKind} (ht : P.underlying t = some (.slice e)) (hi' : P.info? e = some i) (hx : ev E x = .slice p l.length c) (hs : Own w (.slice p l.length c) l) (hl : ev E hi = .int k l.length) (hm : ev E mx = .int k' l.length) (hc : l.length ≤ c) :
    ∃ v', (∀ w', exec P E (.slice t x none (some hi) (some mx)) ty w' = .ok (.value v') w') ∧ Own w v' l ∧ blkOf v' = blkOf (.slice p l.length c) := by
  refine ⟨_, fun w' => x_cut_max ht hi' hx hl hm (by omega) (by omega), ?_, ?_⟩
  · have := hs.clip
    cases p with
    | none => simpa using this
    | some a =>
      obtain ⟨ab, ao, asp⟩ := a
      have h1 : asp = none := by
        obtain ⟨p', cap, he, hlc, h⟩ := id this
        simp only [Value.slice.injEq] at he
        obtain ⟨rfl, -, -⟩ := he
        exact h.1
      subst h1
      have hadd : (⟨ab, ao, none⟩ : Addr).add 0 = ⟨ab, ao, none⟩ := by rw [addr_add, Nat.add_zero]
      simpa [hadd] using this
  · cases p with
    | none => simp [blkOf]
    | some a => rw [ite_blk (p := some a) (l := l.length) (c := c) add_blk.symm]
theorem x_fromO (n : Nat) {e : TypeId} {i : TypeInfo} {v : Value} {l : List α} {k : IntKind} {j : Int} (ht : P.underlying t = some (.slice e)) (hi : P.info? e = some i) (hsz : i.size = Flat.sz α) (hs : Own w v l) (hx : ev E x = v) (hl : ev E lo = .int k j) (hn : j = n) (hj : n ≤ l.length) :
    ∃ v', (∀ w', exec P E (.slice t x (some lo) none none) ty w' = .ok (.value v') w') ∧ (∃ p c, v' = .slice p (l.length - n) c) ∧ Own w v' (l.drop n) ∧ blkOf v' = blkOf v := by
  subst hn
  obtain ⟨p, cap, rfl, hlc, h⟩ := id hs
  refine ⟨_, fun w' => x_cut_lo ht hi hx hl (by omega), ⟨_, _, rfl⟩, ?_, ?_⟩
  · have := hs.cut_lo (lo := n) hj
    rw [hsz]; simpa using this
  · rw [ite_blk (p := p) (l := l.length) (c := cap) add_blk.symm]
theorem x_allocArr {i : TypeInfo} {z : Value} (l0 : List α) (hi : P.info? t = some i) (hz : i.zero = some z) (hl : z.cells = (encL l0).toArray) :
    ∃ v w1, exec P E (.alloc t) ty w = .ok (.value v) w1 ∧ ∃ b, v = .pointer (some ⟨b, 0, none⟩) ∧ w.heap.size ≤ b ∧ Arr w1 b l0 ∧ Chg [] w w1 ∧ b < w1.heap.size :=
  ⟨_, _, x_alloc hi hz, _, rfl, Nat.le_refl _, ⟨t, by rw [← hl]; exact pushB_at _ _⟩, Chg.push _ _, by rw [pushB_size]; omega⟩
theorem x_app {y : Operand} {e : TypeId} {i : TypeInfo} {z : Value} {d : TypeDesc} {vx vy : Value} {l m : List α} (ht : P.underlying t = some (.slice e)) (ht' : P.underlying t' = some d) (hi : P.info? e = some i) (hd : d = .string ∨ ∃ e', d = .slice e')
    (hz : i.zero = some z) (hsz : i.size = Flat.sz α) (hzs : z.cells.size = Flat.sz α) (hby : i.bytes ≤ 1024) (hl : Own w vx l) (hm : Src α P w vy m) (hx : ev E x = vx) (hy : ev E y = vy) (hb : l.length + m.length ≤ 1073741824) :
    ∃ v' w', exec P E (.call { callee := .builtin .append, args := #[x, y], argTypes := #[t, t'] }) ty w = .ok (.value v') w' ∧ Appended vx l m w v' w' := x_append ht ht' hd hi hz hsz hzs hby hx hy hl hm hb
theorem x_convB {a : Addr} {n c : Nat} {l : List UInt8} {e : TypeId} (ht : P.underlying t = some (.slice e)) (he : P.underlying e = some (.int .u8)) (hx : ev E x = .slice (some a) n c) (hs : Sl w (.slice (some a) n c) l) :
    ∃ w', exec P E (.convert t t x) ty w = .ok (.value (.slice (some a) n c)) w' ∧ Sl w' (.slice (some a) n c) l ∧ Chg [a.block] w w' ∧ w'.heap.size = w.heap.size := by
  obtain ⟨p, cap, heq, hlc, hp⟩ := hs
  simp only [Value.slice.injEq] at heq
  obtain ⟨rfl, rfl, rfl⟩ := heq
  obtain ⟨h1, cs, ee, fr, hb, hc⟩ := hp
  obtain ⟨ab, ao, asp⟩ := a
  simp only at h1 hb hc; subst h1
  have hsh : (shape ab).run P w = .ok (some (ee, cs.size)) w := by
    show Result.ok (w.shape? ab) _ = _
    unfold World.shape?; rw [hb]
  have hmk : (markStringish ⟨ab, ao, none⟩).run P w = .ok () (w.freeze ⟨ab, cs.size, none⟩ 1) := by
    unfold markStringish; rw [run_bind hsh]; rfl
  refine ⟨w.freeze ⟨ab, cs.size, none⟩ 1, ?_, ?_, ?_, ?_⟩
  · rw [e_conv, hx]
    refine run_valN ?_
    unfold convert
    rw [run_bind (run_underlying ht w), run_bind (run_underlying ht w)]
    simp only [beq_self_eq_true]
    rw [run_bind (run_underlying he w)]
    simp only []
    rw [run_bind hmk]; rfl
  · refine ⟨_, _, rfl, hlc, rfl, cs, ee, if fr.1 == fr.2 then (cs.size, cs.size + 1) else (min fr.1 cs.size, max fr.2 (cs.size + 1)), ?_, hc⟩
    unfold World.freeze
    simp only [Nat.one_ne_zero, if_false]
    rw [Array.getElem?_modify, if_pos rfl, hb]
    obtain ⟨lo, hi⟩ := fr
    rfl
  · refine ⟨?_, fun b' _ hn => ?_, rfl, rfl⟩
    · simp [World.freeze]
    · simp only [World.freeze, Nat.one_ne_zero, if_false]
      rw [Array.getElem?_modify, if_neg (by simpa [eq_comm] using hn)]
  · simp [World.freeze]
theorem x_mkM (κ : Type) [Key κ] : ∃ v w', exec P E (.makeMap t none) ty w = .ok (.value v) w' ∧ ∃ r, v = .map (some r) ∧ w.heap.size ≤ r ∧ MapAt w' r ([] : List (κ × Value)) ∧ Chg [] w w' ∧ r < w'.heap.size :=
  ⟨_, _, x_makeMap, _, rfl, Nat.le_refl _, MapAt.new w, Chg.push _ _, by rw [pushB_size]; omega⟩
theorem x_arr_from (k : Nat) {e : TypeId} {n b : Nat} {i : TypeInfo} {kd : IntKind} {j : Int} (ht : P.underlying t = some (.array n e)) (hi' : P.info? e = some i) (hx : ev E x = .pointer (some ⟨b, 0, none⟩)) (hl : ev E lo = .int kd j) (hj : j = k) (hk : k < n) :
    exec P E (.slice t x (some lo) none none) ty w = .ok (.value (.slice (some ⟨b, k * i.size, none⟩) (n - k) (n - k))) w := by
  subst hj
  have := x_arr_lo (ty := ty) (w := w) ht hi' hx hl (by omega)
  rw [Int.toNat_natCast, if_neg (by omega), Nat.zero_add] at this
  exact this
theorem x_copyO {y : Operand} {e : TypeId} {i : TypeInfo} {vx vy : Value} {l m : List α} (ht : P.underlying t = some (.slice e)) (hi : P.info? e = some i) (hsz : i.size = Flat.sz α) (ho : Own w vx l) (hm : Src α P w vy m) (hl : 0 < l.length) (hx : ev E x = vx) (hy : ev E y = vy) :
    ∃ w1, exec P E (.call { callee := .builtin .copy, args := #[x, y], argTypes := #[t, t'] }) ty w = .ok (.value (.int .i64 (min m.length l.length : Nat))) w1 ∧ Own w1 vx (spl l 0 (m.take (min m.length l.length))) ∧ Chg (blkOf vx) w w1 ∧ w1.heap.size = w.heap.size := by
  obtain ⟨p, cap, rfl, hlc, hp⟩ := ho
  cases p with
  | none => obtain ⟨rfl, _⟩ := hp; simp at hl
  | some a =>
    obtain ⟨b, off, sp⟩ := a
    obtain ⟨h1, c, ee, fr, h2, h3, h4, h5⟩ := hp
    simp only at h1 h2 h4 h5; subst h1
    have hroom : off + l.length * Flat.sz α ≤ c.size := by
      have : l.length * Flat.sz α ≤ cap * Flat.sz α := Nat.mul_le_mul_right _ hlc
      omega
    have hx' := x_copy (t' := t') (ty := ty) ht hi hsz hx hy hm h2 h3 hroom
    have hml : (m.take (min m.length l.length)).length = min m.length l.length := by rw [List.length_take]; omega
    have hsl : (spl l 0 (m.take (min m.length l.length))).length = l.length := spl_len (by rw [hml]; omega)
    have hel : (encL (m.take (min m.length l.length))).length ≤ l.length * Flat.sz α := by
      rw [encL_length, hml]; exact Nat.mul_le_mul_right _ (by omega)
    refine ⟨_, hx', ⟨some ⟨b, off, none⟩, cap, by rw [hsl], by rw [hsl]; exact hlc, rfl, _, ee, fr, setB_at (lt_of_blk h2), h3.size (putL_size _ _ _), by rw [putL_size]; exact h4, ?_⟩, (Chg.set _ _ _).mono (fun x hx _ => by simpa [blkOf] using hx), setB_size _ _ _⟩
    intro j z hj
    show (putL c off (encL (m.take (min m.length l.length))))[off + j]? = some z
    rw [putL_get _ _ _ _ (by omega)]
    have hsp : encL (spl l 0 (m.take (min m.length l.length))) = encL (m.take (min m.length l.length)) ++ (encL l).drop ((encL (m.take (min m.length l.length))).length) := by
      rw [spl, List.take_zero, List.nil_append, encL_append, ← encL_drop, encL_length, Nat.zero_add]
    rw [hsp] at hj
    by_cases hlt : j < (encL (m.take (min m.length l.length))).length
    · rw [List.getElem?_append_left hlt] at hj
      rw [if_pos (by omega), show off + j - off = j from by omega]; exact hj
    · rw [List.getElem?_append_right (by omega), List.getElem?_drop] at hj
      rw [if_neg (by omega)]
      exact h5 j z (by rw [← hj]; congr 1; omega)
theorem x_mkF {f : FuncId} {c : Operand} {v : Value} (hc : ev E c = v) : exec P E (.makeFunc (.func f) #[] #[c]) ty w = .ok (.value (.func (.func f) #[] #[v])) w := by
  subst hc
  have h : exec P E (.makeFunc (.func f) #[] #[c]) ty w = (valN (Instr.makeFunc (.func f) ((#[] : Array Operand).map (ev E)) (#[c].map (ev E)))).run P w := rfl
  rw [h]
  simp only [List.map_toArray, List.map_cons, List.map_nil]
  rfl
theorem x_arr_to (k : Nat) {e : TypeId} {n b : Nat} {i : TypeInfo} {kd : IntKind} {j : Int} (ht : P.underlying t = some (.array n e)) (hi' : P.info? e = some i) (hx : ev E x = .pointer (some ⟨b, 0, none⟩)) (hl : ev E hi = .int kd j) (hj : j = k) (hk : k ≤ n) :
    exec P E (.slice t x none (some hi) none) ty w = .ok (.value (.slice (some ⟨b, 0, none⟩) k n)) w := by
  subst hj
  have := x_arr_hi (ty := ty) (w := w) ht hi' hx hl (by omega)
  rw [Int.toNat_natCast] at this
  exact this
theorem x_loadAt {b off : Nat} {l : List α} (n : Nat) {dd : TypeDesc} {i : TypeInfo} (ht : P.underlying t = some dd) (hd : isAggD dd = true) (hi : P.info? t = some i) (hs : i.size = n * Flat.sz α) (h : At w b off (encL l)) (hn : l.length = n) (hx : ev E x = .pointer (some ⟨b, off, none⟩)) :
    exec P E (.load t x) ty w = .ok (.value (arrV l)) w := x_loadA ht hd hi hx h (by rw [hs, encL_length, hn])
end
section
variable {κ : Type} [Key κ] {P : Program} {n : Nat} {ops : Array Oper} {Q : Post} {E : Env} {w : World} {rest : List Oper} {d : Option Nat} {ty : TypeId} {x : Operand} {pos : String} {af : Array Edge}
theorem wpL_next {q r : Nat} {m left : List (κ × Value)} (hd : fits d n = true) (h : IterAt w q r m left) (hx : ev E x = .pointer (some ⟨q, 0, none⟩))
    (h0 : left = [] → wpL P n ops Q rest (updO d (.tuple #[.bool false]) E) w)
    (h1 : ∀ a k v b w', left = a ++ (k, v) :: b → IterAt w' q r m (a ++ b) → CurAt w' q r k v → Chg [q] w w' → w'.heap.size = w.heap.size → wpL P n ops Q rest (updO d (.tuple #[.bool true, Key.enc k, v]) E) w') :
    wpL P n ops Q (⟨d, .next x false, ty, pos, af, none⟩ :: rest) E w := by
  rcases x_next (P := P) (ty := ty) hx h with ⟨k1, k2⟩ | ⟨a, k, v, b, w', k1, k2, k3, k4, k5, k6⟩
  · exact wpL_value hd k2 (h0 k1)
  · exact wpL_value hd k2 (h1 a k v b w' k1 k3 k4 k5 k6)
end
section
variable {α : Type} [Flat α] {P : Program} {n : Nat} {ops : Array Oper} {Q : Post} {E : Env} {w : World} {T : Holds} {i : Nat} {p : Plan} {d : Option Nat} {ty t : TypeId} {x : Operand} {pos : String} {af : Array Edge} {g : Option (Nat × Bool)}
theorem wpP_rdAt {dd : TypeDesc} {nf : TypeInfo} {b off : Nat} {l : List α} (k : Nat) (ho : ops[i]? = some ⟨d, .load t x, ty, pos, af, g⟩) (hd : fits d n = true) (hw : wantedE ops E ⟨d, .load t x, ty, pos, af, g⟩ = true) (ht : P.underlying t = some dd) (ha : isAggD dd = true) (hi : P.info? t = some nf)
    (hs : nf.size = k * Flat.sz α) (hc : At w b off (encL l)) (hn : l.length = k) (hx : ev E x = .pointer (some ⟨b, off, none⟩)) (h : wpP P n ops Q p ((i, fun w' => At w' b off (encL l)) :: T) (updO d (arrV l) E) w) : wpP P n ops Q (.read i p) T E w :=
  wpP_read ho hd hw (fun w' => At w' b off (encL l)) hc (fun _ h1 => x_loadAt k ht ha hi hs h1 hn hx) h
end
end Go.Sac

namespace Go.Sac
open Go
abbrev Sec := { l : List UInt8 // l.length = 64 }
instance : Flat Sec := ⟨64, fun s => encL s.1, fun s => by rw [encL_length, s.2]; rfl, fun s => encL_cell s.1⟩
def sec0 : Sec := ⟨List.replicate 64 0, rfl⟩
instance : Inhabited Sec := ⟨sec0⟩
structure DSt where
  steps : Nat
  offAt : Nat
  kept : List Sec
  pend : List (Int × Sec)
def vPend (m : List (Int × Sec)) : List (Int × Value) := m.map fun p => (p.1, arrV p.2.1)
def DiskAt (w : World) (b : Nat) (kv : Value) (r : Nat) (s : DSt) : Prop :=
  Blk w b [.int .i64 s.steps, .int .i64 s.offAt, kv, .map (some r)] ∧ Own w kv s.kept ∧ MapAt w r (vPend s.pend) ∧ b ≠ r ∧ b ∉ blkOf kv ∧ r ∉ blkOf kv
def DF (b : Nat) (kv : Value) (r : Nat) : List Nat := b :: r :: blkOf kv
theorem DiskAt.chg {w w' : World} {b r : Nat} {kv : Value} {s : DSt} {S : List Nat} (h : DiskAt w b kv r s) (hm : Chg S w w') (hn : ∀ x ∈ DF b kv r, x ∉ S) : DiskAt w' b kv r s := by
  obtain ⟨h1, h2, h3, h4⟩ := h
  exact ⟨h1.chg hm (hn b (by simp [DF])), h2.mod hm (fun x hx => hn x (by simp [DF, hx])), h3.mod hm (hn r (by simp [DF])), h4⟩
theorem DiskAt.chg0 {w w' : World} {b r : Nat} {kv : Value} {s : DSt} (h : DiskAt w b kv r s) (hm : Chg [] w w') : DiskAt w' b kv r s := h.chg hm (by simp)
theorem DiskAt.lt {w : World} {b r : Nat} {kv : Value} {s : DSt} (h : DiskAt w b kv r s) : ∀ x ∈ DF b kv r, x < w.heap.size := by
  obtain ⟨h1, h2, h3, h4⟩ := h
  intro x hx
  simp only [DF, List.mem_cons] at hx
  rcases hx with rfl | rfl | hx
  · exact h1.lt
  · exact h3.lt
  · exact h2.sl.lt x hx
namespace DSt
def off (s : DSt) : Bool := decide (0 < s.offAt) && decide (s.offAt ≤ s.steps)
def step (s : DSt) : DSt := { s with steps := s.steps + 1 }
def is (s : DSt) (i : Int) : Bool := decide (0 ≤ i) && decide (i < s.kept.length)
def now (s : DSt) (i : Int) : Sec := (mget i s.pend).getD (s.kept.getD i.toNat sec0)
def putS (c : Sec) (b : List UInt8) : Sec := ⟨(b ++ c.1.drop b.length).take 64, by
  have := c.2
  rw [List.length_take, List.length_append, List.length_drop]; omega⟩
def write (s : DSt) (i : Int) (b : List UInt8) : DSt × Int :=
  if s.step.off then (s.step, 61)
  else if !s.is i || decide (64 < b.length) then (s.step, 60)
  else ({ s.step with pend := msetL i (putS (s.now i) b) s.pend }, 0)
def apply (k : List Sec) (m : List (Int × Sec)) : List Sec := k.mapIdx fun i c => (mget (i : Int) m).getD c
def flush (s : DSt) : DSt × Int :=
  if s.step.off then (s.step, 61) else ({ s.step with kept := apply s.kept s.pend, pend := [] }, 0)
def power (s : DSt) (n : Int) : DSt :=
  if s.off then s else if n ≤ 0 then { s with offAt := 0 } else { s with offAt := s.steps + (min n 1099511627776).toNat }
structure Fine (s : DSt) : Prop where
  steps : s.steps ≤ 1000000000000
  offAt : s.offAt ≤ 4000000000000
  keys : ∀ p ∈ s.pend, 0 ≤ p.1 ∧ p.1 < s.kept.length
  size : s.kept.length ≤ 4000
end DSt
theorem mget_vPend (i : Int) (m : List (Int × Sec)) : mget i (vPend m) = (mget i m).map fun c => arrV c.1 := by
  induction m with
  | nil => rfl
  | cons p m ih =>
    obtain ⟨k, c⟩ := p
    simp only [vPend, List.map_cons, mget]
    by_cases h : i = k
    · simp [h]
    · simp only [h, if_false]; exact ih
theorem msetL_vPend (i : Int) (c : Sec) (m : List (Int × Sec)) : msetL i (arrV c.1) (vPend m) = vPend (msetL i c m) := by
  induction m with
  | nil => rfl
  | cons p m ih =>
    obtain ⟨k, c'⟩ := p
    simp only [vPend, List.map_cons, msetL]
    by_cases h : i = k
    · simp [h]
    · simp only [h, if_false, List.map_cons]; exact congrArg _ ih
theorem lookP (i : Int) (m : List (Int × Sec)) : (Value.tuple #[(mget i (vPend m)).getD (arrV sec0.1), .bool (mget i (vPend m)).isSome]) = .tuple #[arrV ((mget i m).getD sec0).1, .bool (mget i m).isSome] := by
  rw [mget_vPend]
  cases mget i m <;> rfl
theorem lookP1 (i : Int) (m : List (Int × Sec)) : (mget i (vPend m)).getD (arrV sec0.1) = arrV ((mget i m).getD sec0).1 := by
  rw [mget_vPend]
  cases mget i m <;> rfl
theorem spl0 {α : Type} (l m : List α) : spl l 0 m = m ++ l.drop m.length := by simp [spl]
theorem putS_eq (c : Sec) (b : List UInt8) (h : b.length ≤ 64) : (DSt.putS c b).1 = b ++ c.1.drop b.length := by
  have := c.2
  exact List.take_of_length_le (by rw [List.length_append, List.length_drop]; omega)
theorem vPend_split (m : List (Int × Sec)) (a b : List (Int × Value)) (k : Int) (v : Value) (h : vPend m = a ++ (k, v) :: b) : ∃ a' c b', m = a' ++ (k, c) :: b' ∧ v = arrV c.1 ∧ a = vPend a' ∧ b = vPend b' := by
  unfold vPend at h
  obtain ⟨a', m', rfl, ha, hm⟩ := List.map_eq_append_iff.1 h
  obtain ⟨p, b', rfl, hp, hb⟩ := List.map_eq_cons_iff.1 hm
  obtain ⟨k', c⟩ := p
  simp only [Prod.mk.injEq] at hp
  obtain ⟨rfl, rfl⟩ := hp
  exact ⟨a', c, b', rfl, rfl, ha.symm, hb.symm⟩
theorem vPend_append (a b : List (Int × Sec)) : vPend (a ++ b) = vPend a ++ vPend b := by simp [vPend]
theorem vPend_keys (m : List (Int × Sec)) : (vPend m).map (·.1) = m.map (·.1) := by simp [vPend]
theorem mget_none {κ ν : Type} [DecidableEq κ] {k : κ} {m : List (κ × ν)} (h : k ∉ m.map (·.1)) : mget k m = none := by
  induction m with
  | nil => rfl
  | cons p m ih =>
    obtain ⟨x, u⟩ := p
    simp only [List.map_cons, List.mem_cons, not_or] at h
    simp only [mget, h.1, if_false]; exact ih h.2
theorem mget_mem {κ ν : Type} [DecidableEq κ] {k : κ} {v : ν} {m : List (κ × ν)} (hn : (m.map (·.1)).Nodup) : mget k m = some v ↔ (k, v) ∈ m := by
  induction m with
  | nil => simp [mget]
  | cons p m ih =>
    obtain ⟨x, u⟩ := p
    simp only [List.map_cons, List.nodup_cons] at hn
    simp only [mget, List.mem_cons, Prod.mk.injEq]
    by_cases h : k = x
    · subst h
      simp only [if_true, Option.some.injEq, true_and]
      constructor
      · intro h; exact .inl h.symm
      · rintro (h | h)
        · exact h.symm
        · exact absurd (List.mem_map.2 ⟨_, h, rfl⟩) hn.1
    · simp only [h, if_false, false_and, false_or]; exact ih hn.2
theorem mget_perm {κ ν : Type} [DecidableEq κ] {m m' : List (κ × ν)} (hp : m.Perm m') (hn : (m.map (·.1)).Nodup) (k : κ) : mget k m = mget k m' := by
  have hn' : (m'.map (·.1)).Nodup := (hp.map _).nodup_iff.1 hn
  cases h : mget k m with
  | none =>
    cases h' : mget k m' with
    | none => rfl
    | some v =>
      have := (mget_mem hn').1 h'
      rw [(mget_mem hn).2 (hp.mem_iff.2 this)] at h; cases h
  | some v =>
    have := (mget_mem hn).1 h
    rw [(mget_mem hn').2 (hp.mem_iff.1 this)]
theorem mget_append {κ ν : Type} [DecidableEq κ] (k : κ) (a b : List (κ × ν)) : mget k (a ++ b) = (mget k a).or (mget k b) := by
  induction a with
  | nil => rfl
  | cons p a ih =>
    obtain ⟨x, u⟩ := p
    simp only [List.cons_append, mget]
    by_cases h : k = x
    · simp [h]
    · simp only [h, if_false]; exact ih
theorem apply_perm {m m' : List (Int × Sec)} (hp : m.Perm m') (hn : (m.map (·.1)).Nodup) (k : List Sec) : DSt.apply k m = DSt.apply k m' := by
  unfold DSt.apply; congr 1; funext i c; rw [mget_perm hp hn]
theorem apply_nil (k : List Sec) : DSt.apply k [] = k := by
  unfold DSt.apply
  apply List.ext_getElem?
  intro i
  rw [List.getElem?_mapIdx]
  cases k[i]? <;> rfl
theorem apply_length (k : List Sec) (m : List (Int × Sec)) : (DSt.apply k m).length = k.length := by simp [DSt.apply]
theorem apply_snoc (k : List Sec) (m : List (Int × Sec)) (i : Int) (c : Sec) (hi : 0 ≤ i) (hn : i ∉ m.map (·.1)) : DSt.apply k (m ++ [(i, c)]) = (DSt.apply k m).set i.toNat c := by
  apply List.ext_getElem?
  intro j
  unfold DSt.apply
  rw [List.getElem?_mapIdx, List.getElem?_set]
  by_cases hj : i.toNat = j
  · subst hj
    rw [if_pos rfl, show ((i.toNat : Nat) : Int) = i from by omega]
    rw [mget_append, mget_none hn, List.length_mapIdx]
    by_cases hl : i.toNat < k.length
    · rw [if_pos hl, List.getElem?_eq_getElem hl]; simp [mget]
    · rw [if_neg hl, List.getElem?_eq_none (by omega)]; rfl
  · rw [if_neg hj, List.getElem?_mapIdx]
    have : mget (j : Int) (m ++ [(i, c)]) = mget (j : Int) m := by
      rw [mget_append]
      have h2 : ¬ ((j : Int) = i) := by omega
      simp [mget, h2]
    rw [this]
def tornN (c : UInt8) : Nat := if c = 255 then 64 else c.toNat % 64
theorem tornN_le (c : UInt8) : tornN c ≤ 64 := by unfold tornN; split <;> omega
def tornS (was now : Sec) (c : UInt8) : Sec := ⟨now.1.take (tornN c) ++ was.1.drop (tornN c), by
  have h1 := was.2
  have h2 := now.2
  have := tornN_le c
  rw [List.length_append, List.length_take, List.length_drop]; omega⟩
def imageOf (k : List Sec) : List UInt8 := k.flatMap (·.1)
theorem msetL_keys {ν : Type} (k : Int) (v : ν) (m : List (Int × ν)) : ∀ p ∈ msetL k v m, p.1 = k ∨ ∃ q ∈ m, q.1 = p.1 := by
  induction m with
  | nil => intro p hp; simp [msetL] at hp; subst hp; exact .inl rfl
  | cons q m ih =>
    obtain ⟨x, u⟩ := q
    intro p hp
    simp only [msetL] at hp
    by_cases h : k = x
    · rw [if_pos h] at hp
      rcases List.mem_cons.1 hp with rfl | hp
      · exact .inl h.symm
      · exact .inr ⟨p, by simp [hp], rfl⟩
    · rw [if_neg h] at hp
      rcases List.mem_cons.1 hp with rfl | hp
      · exact .inr ⟨_, by simp, rfl⟩
      · rcases ih p hp with h1 | ⟨q, hq, h1⟩
        · exact .inl h1
        · exact .inr ⟨q, by simp [hq], h1⟩
theorem DSt.Fine.write {s : DSt} (h : s.Fine) (hs : s.steps + 1 ≤ 1000000000000) (i : Int) (l : List UInt8) : (s.write i l).1.Fine := by
  obtain ⟨h1, h2, h3, h4⟩ := h
  have h0 : s.step.Fine := ⟨hs, h2, h3, h4⟩
  unfold DSt.write
  split
  · exact h0
  · split
    · exact h0
    · rename_i hi
      have his : s.is i = true := by simp at hi; exact hi.1
      have : 0 ≤ i ∧ i < s.kept.length := by simpa [DSt.is] using his
      refine ⟨hs, h2, fun p hp => ?_, h4⟩
      rcases msetL_keys _ _ _ p hp with h | ⟨q, hq, h⟩
      · rw [h]; exact this
      · rw [← h]; exact h3 q hq
theorem DSt.Fine.flush {s : DSt} (h : s.Fine) (hs : s.steps + 1 ≤ 1000000000000) : s.flush.1.Fine := by
  obtain ⟨h1, h2, h3, h4⟩ := h
  unfold DSt.flush
  split
  · exact ⟨hs, h2, h3, h4⟩
  · exact ⟨hs, h2, fun p hp => by simp at hp, by show (DSt.apply _ _).length ≤ 4000; rw [apply_length]; exact h4⟩
theorem DSt.write_steps (s : DSt) (i : Int) (l : List UInt8) : (s.write i l).1.steps = s.steps + 1 := by
  unfold DSt.write; split
  · rfl
  · split <;> rfl
theorem DSt.flush_steps (s : DSt) : s.flush.1.steps = s.steps + 1 := by unfold DSt.flush; split <;> rfl
theorem DSt.write_kept (s : DSt) (i : Int) (l : List UInt8) : (s.write i l).1.kept = s.kept := by
  unfold DSt.write; split
  · rfl
  · split <;> rfl
theorem DSt.flush_len (s : DSt) : s.flush.1.kept.length = s.kept.length := by
  unfold DSt.flush; split
  · rfl
  · exact apply_length _ _
theorem DSt.is_iff {s : DSt} {i : Int} : s.is i = true ↔ 0 ≤ i ∧ i < s.kept.length := by simp [DSt.is]
theorem DiskAt.turn {w w' : World} {b r : Nat} {kv : Value} {s s' : DSt} (h : DiskAt w b kv r s) (hb : Blk w' b [.int .i64 s'.steps, .int .i64 s'.offAt, kv, .map (some r)]) (hm : Chg [b] w w') (hk : s'.kept = s.kept) (hp : s'.pend = s.pend) : DiskAt w' b kv r s' := by
  obtain ⟨h1, h2, h3, h4, h5, h6⟩ := h
  exact ⟨hb, by rw [hk]; exact h2.mod hm (nb1 h5), by rw [hp]; exact h3.mod hm (by simpa using Ne.symm h4), h4, h5, h6⟩
theorem DF_sub {b r : Nat} {kv : Value} {w w' : World} (h : Chg [b] w w') : Chg (DF b kv r) w w' := h.mono (fun x hx _ => by simp at hx; subst hx; simp [DF])
def sortI (l : List Int) : List Int := l.mergeSort (fun x y => decide (x ≤ y))
def crashL (m : List (Int × Sec)) : List Int → List UInt8 → List Sec → List Sec
  | [], _, k => k
  | i :: is, ch, k => crashL m is (ch.drop 1) (k.set i.toNat (tornS (k.getD i.toNat sec0) ((mget i m).getD sec0) (ch.headD 0)))
def DSt.crash (s : DSt) (ch : List UInt8) : DSt := ⟨s.steps, 0, crashL s.pend (sortI (s.pend.map (·.1))) ch s.kept, []⟩
theorem crashL_length (m : List (Int × Sec)) (is : List Int) (ch : List UInt8) (k : List Sec) : (crashL m is ch k).length = k.length := by
  induction is generalizing ch k with
  | nil => rfl
  | cons i is ih => rw [crashL, ih, List.length_set]
end Go.Sac

namespace Go.Sac
open Go Go.Maps Go.Proofs Go.Shelf
theorem owns_of_map {P : Program} {kt : TypeId} {w : World} {r : Nat} {m : List (Int × Value)} (hk : P.underlying kt = some (.int .i64)) (hm : MapAt w r m)
    (hr : ∀ p ∈ m, -9223372036854775808 ≤ p.1 ∧ p.1 < 9223372036854775808) (hl : m.length ≤ maxLen) :
    ∃ D0 : DataW Unit, w.ownsMap P kt (fun _ => some (.lit (.bool true), [])) r m.length D0 ∧ (intKeys D0).Perm (m.map (·.1)) ∧ Maps.size D0 = m.length := by
  obtain ⟨es, cl, hb, he, hn, hbn, hlt⟩ := hm
  have hlen : es.size = m.length := by have := congrArg List.length he; simpa using this
  have hkey : ∀ a : Int, -9223372036854775808 ≤ a ∧ a < 9223372036854775808 → keyOf P kt (.int .i64 a) = some (.int .i64 a) := fun a ha => by
    unfold keyOf
    rw [hk]
    simp only [mapKey, hk]
    have h1 : IntKind.i64.min = -9223372036854775808 := by decide
    have h2 : IntKind.i64.max = 9223372036854775807 := by decide
    have hw : (Lit.int .i64 a).wf = true := by
      simp only [Lit.wf, Bool.and_eq_true, decide_eq_true_eq, h1, h2]; omega
    simp [hw]
  have hes : ∀ x ∈ es.toList, ∃ a : Int, x.key = .int .i64 a ∧ -9223372036854775808 ≤ a ∧ a < 9223372036854775808 := fun x hx => by
    have h1 : (x.key, x.val) ∈ es.toList.map (fun e => (e.key, e.val)) := List.mem_map.2 ⟨x, hx, rfl⟩
    rw [he] at h1
    obtain ⟨p, hp, h2⟩ := List.mem_map.1 h1
    simp only [Prod.mk.injEq] at h2
    exact ⟨p.1, h2.1.symm, hr p hp⟩
  have hF : WideElems.Fit P kt (fun _ => some ((.lit (.bool true) : DataW Unit), [])) es cl := by
    refine ⟨by omega, ⟨hlt, hbn, ?_⟩, fun x hx => ?_⟩
    · rw [keys_of he]
      unfold List.Nodup at hn ⊢
      rw [List.pairwise_map]
      exact hn.imp (fun h e => h (Key.inj _ _ e))
    · obtain ⟨a, ha, har⟩ := hes x hx
      exact ⟨(.int .i64 a, .lit (.bool true)), by simp [WideElems.rd, ha, hkey a har]⟩
  refine ⟨_, ⟨es, cl, hb, hF, by omega, rfl⟩, ?_, ?_⟩
  · have hp := (Go.WideShapes.sorted_perm (es.toList.map (WideElems.rg P kt (fun _ => some ((.lit (.bool true) : DataW Unit), []))))).map (fun p => intOf p.1)
    refine hp.trans (List.Perm.of_eq ?_)
    rw [List.map_map]
    have h3 : es.toList.map ((fun p : Lit × DataW Unit => intOf p.1) ∘ WideElems.rg P kt (fun _ => some ((.lit (.bool true) : DataW Unit), []))) = es.toList.map (fun e => match e.key with | .int _ a => a | _ => 0) := by
      apply List.map_congr_left
      intro x hx
      obtain ⟨a, ha, har⟩ := hes x hx
      simp [WideElems.rg, WideElems.rd, ha, hkey a har, intOf]
    rw [h3]
    have h4 : es.toList.map (fun e => match e.key with | .int _ a => a | _ => 0) = (es.toList.map (fun e => (e.key, e.val))).map (fun p => match p.1 with | .int _ a => a | _ => 0) := by
      rw [List.map_map]; rfl
    rw [h4, he, List.map_map]
    apply List.map_congr_left
    intro p _
    rfl
  · simp [Maps.size, length_sorted, hlen]
theorem own_of_row {w : World} {base : Nat} {e : TypeId} {v : Value} {l : List Int} (h : w.ownsRow base e 1 v l.length (l.map encZ)) : Own w v l ∧ In v [] base := by
  obtain ⟨_, h⟩ := h
  have he : encL l = l.map encZ := encL_map encZ (fun _ => rfl) l
  rcases h with ⟨rfl, h0⟩ | ⟨g, cap, cur, rfl, hb, hblk, hn, hcap, hcs, hx⟩
  · have : l = [] := List.eq_nil_of_length_eq_zero h0
    subst this
    exact ⟨Own.nil w, In.nil⟩
  · refine ⟨⟨some ⟨g, 0, none⟩, cap, rfl, hn, rfl, cur, e, (0, 0), hblk, soft_zero _, ?_, fun i x hi => ?_⟩, In.of_ge hb⟩
    · show 0 + cap * 1 ≤ cur.size
      omega
    · rw [he, ← hx] at hi
      have h1 := List.getElem?_take (l := cur.toList) (i := l.length * 1) (j := i)
      rw [h1] at hi
      split at hi
      · simp only [Nat.zero_add]
        simpa using hi
      · cases hi
theorem sorted_keys {P : Program} {ρk ρs : Ren} (Lk : SlLaysZI.n7 P ρk) (Ls : SlLaysZI.n6 P ρs) (sorts : ∀ m, AnyZI.SortsIn P ρs Fence.wide m)
    (e9 : ∀ args w, (callFunc (ρs.f 9) args).run P w = .ok (.enter (ρs.f 9) args) w) (eg : ∀ args w, (callFunc (ρk.f 10) args).run P w = .ok (.enter (ρk.f 10) args) w)
    (hk : P.underlying (ρk.t 26) = some (.int .i64)) (w : World) (q r : Nat) (m : List (Int × Value)) (hB : Blk w q [.map (some r)]) (hm : MapAt w r m)
    (hr : ∀ p ∈ m, -9223372036854775808 ≤ p.1 ∧ p.1 < 9223372036854775808) (hl : m.length ≤ 1000000) :
    Ret P (ρs.f 6) #[.func (.func (ρk.f 10)) #[] #[.pointer (some ⟨q, 0, none⟩)]] w fun v w' => Own w' v (sortI (m.map (·.1))) ∧ Chg [] w w' ∧ In v [] w.heap.size := by
  obtain ⟨D0, hown, hperm, hsz⟩ := owns_of_map hk hm hr (by unfold maxLen; omega)
  have hseq : SeqGives Fence.wide 2 P (ρk.f 10) #[.pointer (some ⟨q, 0, none⟩)] encZ (fun ss => ss.Perm (intKeys D0)) (Maps.size D0) w :=
    AnyZI.keys_gives (ρ := ρk) { Lk with } Fence.wide _ trivial rfl (by omega) q r m.length D0 _ hB.lt (hB.c rfl) hown
  have cS := AnyZI.sorted_in Ls Fence.wide 5 trivial trivial trivial trivial rfl (by omega) (sorts _) e9 (ρk.f 10) #[.pointer (some ⟨q, 0, none⟩)] trivial eg _ _ (by rw [hsz]; unfold maxLen; omega) (by omega) _ hseq
  refine Calls.mono (callsIn_wide.1 cS) ?_
  rintro e w' ⟨v, ss, rfl, hS, hrow, hnil, hb⟩
  refine ⟨v, rfl, ?_⟩
  have hss : ss.mergeSort (fun x y => decide (x ≤ y)) = sortI (m.map (·.1)) := mergeSort_of_perm_i (hS.trans hperm)
  have hlen : ss.length = (sortI (m.map (·.1))).length := by rw [← hss, (List.mergeSort_perm ss _).length_eq]
  rw [hss, hlen] at hrow
  obtain ⟨h1, h2⟩ := own_of_row hrow
  exact ⟨h1, ⟨hb.size, fun b hb' _ => hb.block b hb', hb.os, hb.output⟩, h2⟩
end Go.Sac

namespace Go.Sac
open Go
theorem drw (w : World) : Chg [] w { w with drawn := w.drawn + 1 } := Chg.heap rfl
theorem zeroCells_one (z : Value) (n : Nat) : Builtin.zeroCells #[z] n = (List.replicate n z).toArray := by
  unfold Builtin.zeroCells
  apply Array.ext
  · simp
  · intro i h1 h2
    simp [Nat.mod_one]
section
variable {P : Program} {E : Env} {w : World} {ty t t' : TypeId} {x y : Operand}
theorem x_bsF {α : Type} [Flat α] (vs : List Value) (l : List α) {e : TypeId} {i : TypeInfo} {z : Value} {n : Nat} {ps : List (Nat × Operand)} (ht : P.underlying t = some (.slice e)) (hi : P.info? e = some i) (hz : i.zero = some z) (hsz : i.size = Flat.sz α) (hzs : z.cells.size = Flat.sz α)
    (hps : (ps.map fun p => (p.1, ev E p.2)) = vs.zipIdx.map fun x => (x.2, x.1)) (hv : vs.map (fun v => v.cells.toList) = l.map Flat.enc) (hn : l.length = n) (hb : n * Flat.sz α ≤ 16777216) :
    ∃ v' w', exec P E (.buildSlice t n ps.toArray) ty w = .ok (.value v') w' ∧ (∃ p c, v' = .slice p n c) ∧ Own w' v' l ∧ Chg [] w w' ∧ In v' [] w.heap.size := by
  obtain ⟨v', w', h1, h2, h3, h4⟩ := x_bs (ty := ty) (w := w) vs l ht hi hz hsz hzs hps hv hn hb
  exact ⟨v', w', h1, h2.form hn, h2, h3, h4⟩
def SubOf (α : Type) [Flat α] (v v' : Value) (k n : Nat) : Prop := ∃ b off c, v = .slice (some ⟨b, off, none⟩) n c ∧ v' = .slice (some ⟨b, off + k * Flat.sz α, none⟩) (n - k) (c - k)
theorem x_fromS {α : Type} [Flat α] (k : Nat) {lo : Operand} {e : TypeId} {i : TypeInfo} {v : Value} {l : List α} {kd : IntKind} {j : Int} (ht : P.underlying t = some (.slice e)) (hi : P.info? e = some i) (hsz : i.size = Flat.sz α) (ho : Own w v l) (hx : ev E x = v) (hl : ev E lo = .int kd j) (hj : j = k) (hk : k < l.length) :
    ∃ v', (∀ w', exec P E (.slice t x (some lo) none none) ty w' = .ok (.value v') w') ∧ SubOf α v v' k l.length := by
  subst hj
  obtain ⟨p, c, rfl, hlc, hp⟩ := ho
  cases p with
  | none => obtain ⟨rfl, _⟩ := hp; simp at hk
  | some a =>
    obtain ⟨b, off, sp⟩ := a
    obtain ⟨h1, _⟩ := hp
    simp only at h1; subst h1
    refine ⟨_, fun w' => x_cut_lo ht hi hx hl (by omega), b, off, c, rfl, ?_⟩
    rw [Int.toNat_natCast, if_neg (by omega), hsz]
    simp only [Option.map_some, addr_add]
theorem x_copySub {α : Type} [Flat α] {e : TypeId} {i : TypeInfo} {v v' vy : Value} {l m : List α} {k : Nat} (ht : P.underlying t = some (.slice e)) (hi : P.info? e = some i) (hsz : i.size = Flat.sz α) (ho : Own w v l) (hs : SubOf α v v' k l.length) (hk : k < l.length) (hm : Src α P w vy m) (hx : ev E x = v') (hy : ev E y = vy) :
    ∃ w1, exec P E (.call { callee := .builtin .copy, args := #[x, y], argTypes := #[t, t'] }) ty w = .ok (.value (.int .i64 (min m.length (l.length - k) : Nat))) w1 ∧ Own w1 v (spl l k (m.take (min m.length (l.length - k)))) ∧ Chg (blkOf v) w w1 ∧ w1.heap.size = w.heap.size := by
  obtain ⟨b, off, c, rfl, rfl⟩ := hs
  obtain ⟨p, cap, hpe, hlc, hp⟩ := ho
  simp only [Value.slice.injEq] at hpe
  obtain ⟨rfl, _, rfl⟩ := hpe
  obtain ⟨h1, cc, ee, fr, h2, h3, h4, h5⟩ := hp
  simp only at h1 h2 h4 h5
  have hlm : l.length * Flat.sz α ≤ c * Flat.sz α := Nat.mul_le_mul_right _ hlc
  have hkm : k * Flat.sz α + (l.length - k) * Flat.sz α = l.length * Flat.sz α := by rw [← Nat.add_mul]; congr 1; omega
  have hroom : off + k * Flat.sz α + (l.length - k) * Flat.sz α ≤ cc.size := by omega
  have hx' := x_copy (t' := t') (ty := ty) ht hi hsz hx hy hm h2 h3 hroom
  have hml : (m.take (min m.length (l.length - k))).length = min m.length (l.length - k) := by rw [List.length_take]; omega
  have hsl : (spl l k (m.take (min m.length (l.length - k)))).length = l.length := by
    unfold spl; simp only [List.length_append, List.length_take, List.length_drop]; omega
  have hel : (encL (m.take (min m.length (l.length - k)))).length ≤ (l.length - k) * Flat.sz α := by
    rw [encL_length, hml]; exact Nat.mul_le_mul_right _ (by omega)
  refine ⟨_, hx', ⟨some ⟨b, off, none⟩, c, by rw [hsl], by rw [hsl]; exact hlc, rfl, _, ee, fr, setB_at (lt_of_blk h2), h3.size (putL_size _ _ _), by rw [putL_size]; exact h4, ?_⟩, (Chg.set _ _ _).mono (fun x hx _ => by simpa [blkOf] using hx), setB_size _ _ _⟩
  intro j z hj
  show (putL cc (off + k * Flat.sz α) (encL (m.take (min m.length (l.length - k)))))[off + j]? = some z
  rw [putL_get _ _ _ _ (by omega)]
  have hsp : encL (spl l k (m.take (min m.length (l.length - k)))) = (encL l).take (k * Flat.sz α) ++ (encL (m.take (min m.length (l.length - k))) ++ (encL l).drop ((k + (m.take (min m.length (l.length - k))).length) * Flat.sz α)) := by
    rw [spl, encL_append, encL_append, ← encL_take, ← encL_drop, List.append_assoc]
  have hkl : ((encL l).take (k * Flat.sz α)).length = k * Flat.sz α := by rw [List.length_take, encL_length]; exact Nat.min_eq_left (Nat.mul_le_mul_right _ (by omega))
  rw [hsp] at hj
  by_cases hlt : j < k * Flat.sz α
  · rw [List.getElem?_append_left (by omega), List.getElem?_take, if_pos hlt] at hj
    rw [if_neg (by omega)]; exact h5 j z hj
  · rw [List.getElem?_append_right (by omega), hkl] at hj
    by_cases hlt2 : j - k * Flat.sz α < (encL (m.take (min m.length (l.length - k)))).length
    · rw [List.getElem?_append_left hlt2] at hj
      rw [if_pos (by omega), show off + j - (off + k * Flat.sz α) = j - k * Flat.sz α by omega]; exact hj
    · rw [List.getElem?_append_right (by omega), List.getElem?_drop, encL_length] at hj
      rw [encL_length] at hlt2
      rw [if_neg (by rw [encL_length]; omega)]
      refine h5 j z ?_
      rw [← hj, Nat.add_mul]
      congr 1; omega
theorem x_bsS {α : Type} [Flat α] (vs : List Value) (l : List α) {e : TypeId} {i : TypeInfo} {z : Value} {n : Nat} {ps : List (Nat × Operand)} (ht : P.underlying t = some (.slice e)) (hi : P.info? e = some i) (hz : i.zero = some z) (hsz : i.size = Flat.sz α) (hzs : z.cells.size = Flat.sz α)
    (hps : (ps.map fun p => (p.1, ev E p.2)) = vs.zipIdx.map fun x => (x.2, x.1)) (hv : vs.map (fun v => v.cells.toList) = l.map Flat.enc) (hn : l.length = n) (hb : n * Flat.sz α ≤ 16777216) (h0 : 0 < n) :
    ∃ v' w', exec P E (.buildSlice t n ps.toArray) ty w = .ok (.value v') w' ∧ (∃ b o c, v' = .slice (some ⟨b, o, none⟩) n c) ∧ Own w' v' l ∧ Chg [] w w' ∧ In v' [] w.heap.size := by
  obtain ⟨v', w', h1, h2, h3, h4⟩ := x_bs (ty := ty) (w := w) vs l ht hi hz hsz hzs hps hv hn hb
  exact ⟨v', w', h1, h2.some hn h0, h2, h3, h4⟩
theorem x_lenS {d : TypeId} {a : List UInt8} (hx : ev E x = str a) (ht : P.underlying d = some .string) : exec P E (.call { callee := .builtin .len, args := #[x], argTypes := #[d] }) ty w = .ok (.value (.int .i64 a.length)) w := by
  rw [x_len_str hx ht]; simp [ByteArray.size]
theorem x_eqS {u : TypeId} {a b : List UInt8} (hx : ev E x = str a) (hy : ev E y = str b) : exec P E (.binOp .eql t x y u) ty w = .ok (.value (.bool (decide (a = b)))) w := by
  rw [x_streq hx hy]
  congr 3
  simp only [ByteArray.toList_eq]
  rw [Bool.eq_iff_iff]; simp
theorem x_neS {u : TypeId} {a b : List UInt8} (hx : ev E x = str a) (hy : ev E y = str b) : exec P E (.binOp .neq t x y u) ty w = .ok (.value (.bool (decide (a ≠ b)))) w := by
  rw [x_strne hx hy]
  congr 3
  simp only [ByteArray.toList_eq]
  rw [Bool.eq_iff_iff]; simp
theorem x_appz {e : TypeId} {i : TypeInfo} {k : IntKind} {vx : Value} {l : List UInt8} {j : Int} (m : Nat) (ht : P.underlying t = some (.slice e)) (ht' : P.underlying t' = some (.int k)) (hi : P.info? e = some i) (hz : i.zero = some (.int .u8 0)) (hsz : i.size = 1)
    (hby : i.bytes ≤ 1024) (hl : Own w vx l) (hx : ev E x = vx) (hy : ev E y = .int .i64 j) (hj : j = m) (hb : l.length + m ≤ 1073741824) :
    ∃ v' w', exec P E (.call { callee := .builtin .append, args := #[x, y], argTypes := #[t, t'] }) ty w = .ok (.value v') w' ∧ Appended vx l (List.replicate m (0 : UInt8)) w v' w' := by
  subst hj
  obtain ⟨p, cap, rfl, hlc, hp⟩ := hl
  have hown : Own w (.slice p l.length cap) l := ⟨p, cap, rfl, hlc, hp⟩
  have hzc : (Value.int .u8 0).cells = #[Value.int .u8 0] := rfl
  have henc : ∀ n, encL (List.replicate n (0 : UInt8)) = List.replicate n (.int .u8 0) := fun n => by
    rw [encL_u8, List.map_replicate]; rfl
  have key : ∃ v' w', (Builtin.append_ #[t, t'] ty #[.slice p l.length cap, .int .i64 m]).run P w = .ok v' w' ∧ Appended (.slice p l.length cap) l (List.replicate m (0 : UInt8)) w v' w' := by
    unfold Builtin.append_
    simp only [List.getElem?_toArray, List.getElem?_cons_zero, List.getElem?_cons_succ]
    rw [run_bind (run_underlying ht w)]
    simp only []
    rw [run_bind (run_sizeOf hi w)]
    rw [run_bind (run_underlying ht' w)]
    have happ : ∀ w' : World, (if m * i.size = 0 then (pure #[] : Sem (Array Value)) else do pure (Builtin.zeroCells (← zeroValue e).cells m)).run P w' = .ok (encL (List.replicate m (0 : UInt8))).toArray w' := fun w' => by
      rw [hsz, Nat.mul_one]
      by_cases h0 : m = 0
      · rw [if_pos h0, h0]; rfl
      · rw [if_neg h0, run_bind (run_zeroValue hi hz w'), hzc, zeroCells_one, henc]; rfl
    simp only [pure_bind, bind_assoc, if_true, Bool.not_true, Bool.false_eq_true, if_false]
    have ha : (asInt (.int .i64 (m : Int))).run P w = .ok (m : Int) w := rfl
    rw [run_bind ha, wrap_i64 (by omega)]
    rw [if_neg (by omega)]
    rw [run_bind (run_typeInfo hi w)]
    have hnb0 : ¬ ((m : Int) * (i.bytes : Int) > 2 ^ 48) := by
      have : m * i.bytes ≤ 1073741824 * 1024 := Nat.mul_le_mul (by omega) hby
      have h2 : ((m * i.bytes : Nat) : Int) ≤ 1073741824 * 1024 := by omega
      rw [Int.natCast_mul] at h2
      omega
    rw [if_neg hnb0]
    simp only [pure_bind, Int.toNat_natCast]
    by_cases hc : l.length + m ≤ cap
    · rw [if_pos hc]
      rw [run_bind (happ w)]
      cases p with
      | none =>
        obtain ⟨rfl, rfl⟩ := hp
        have hm0 : m = 0 := by simpa using hc
        subst hm0
        exact ⟨_, w, rfl, ⟨none, 0, rfl, Nat.zero_le _, rfl, rfl⟩, Chg.refl' _ _, by intro b hb; simp [blkOf] at hb⟩
      | some a =>
        obtain ⟨b, off, sp⟩ := a
        obtain ⟨h1, c, ee, fr, h2, h3, h4, h5⟩ := hp
        simp only at h1 h2 h4 h5; subst h1
        have hz1 : Flat.sz UInt8 = 1 := rfl
        rw [hz1, Nat.mul_one] at h4
        have hlen : (encL (List.replicate m (0 : UInt8))).length = m := by rw [henc, List.length_replicate]
        have hll : (encL l).length = l.length := by rw [encL_length, hz1, Nat.mul_one]
        have hroom : off + l.length + (encL (List.replicate m (0 : UInt8))).length ≤ c.size := by omega
        simp only [addr_add, hsz, Nat.mul_one]
        rw [run_bind (run_storeCells0 _ h2 (by simpa using hroom) h3 (by simpa using encL_cell _))]
        refine ⟨_, _, rfl, ⟨some ⟨b, off, none⟩, cap, by rw [List.length_append, List.length_replicate], by simpa using hc, rfl, _, ee, fr, setB_at (lt_of_blk h2), h3.size (putL_size _ _ _), by rw [putL_size, hz1, Nat.mul_one]; exact h4, ?_⟩, ?_, ?_⟩
        · intro k q hk
          rw [encL_append] at hk
          simp only at hk ⊢
          by_cases hkl : k < (encL l).length
          · rw [List.getElem?_append_left hkl] at hk
            exact putL_old (by simpa using hroom) (h5 k q hk) (by omega)
          · rw [List.getElem?_append_right (by omega)] at hk
            have := putL_new (c := c) (off := off + l.length) (vs := (encL (List.replicate m (0 : UInt8))).toArray.toList) (by simpa using hroom) (by simpa using hk)
            rw [show off + l.length + (k - (encL l).length) = off + k from by omega] at this
            exact this
        · exact (Chg.set _ _ _).mono (fun b hb _ => by simpa [blkOf] using hb)
        · intro b hb; left; simpa [blkOf] using hb
    · rw [if_neg hc]
      have hov : ¬ ((l.length + m : Nat) : Int) > IntKind.i64.max := by
        have : IntKind.i64.max = 9223372036854775807 := by decide
        omega
      rw [run_bind (run_typeInfo hi w), if_neg (by intro h; exact absurd h.1 hov), run_bind (run_typeInfo hi w)]
      have hnc := nextcap_le (l.length + m) cap (by omega)
      have hnb : ¬ Builtin.nextslicecap (l.length + m) cap * i.bytes > 2 ^ 48 := by
        have : Builtin.nextslicecap (l.length + m) cap * i.bytes ≤ (4 * 1073741824 + 2000) * 1024 := Nat.mul_le_mul (by omega) hby
        omega
      rw [if_neg hnb]
      obtain ⟨nc, hnc1, hch⟩ := run_choose (P := P) (w := w) (need := l.length + m) (cap := cap) (e := e)
      rw [run_bind hch]
      rw [run_bind (run_typeInfo hi _), run_bind run_askRoom]
      have hf1 := ((hown.sl.heap (w' := { w with drawn := w.drawn + 1 }) rfl).first (P := P) l.length (Nat.le_refl _))
      rw [List.take_length] at hf1
      rw [hsz]
      have h1 : Flat.sz UInt8 = 1 := rfl
      rw [h1] at hf1
      rw [run_bind hf1]
      have happ' := happ { w with drawn := w.drawn + 1 }
      rw [hsz] at happ'
      rw [run_bind happ', run_bind (run_zeroValue hi hz _)]
      refine ⟨.slice (some ⟨w.heap.size, 0, none⟩) (l ++ List.replicate m (0 : UInt8)).length nc, _, ?_, own_new (w := { w with drawn := w.drawn + 1 }) (l := l ++ List.replicate m (0 : UInt8)) (e := e) (rest := Builtin.zeroCells (Value.int .u8 0).cells (nc - (l.length + m))) (cap := nc) (by simpa using hnc1) ?_, ?_, ?_⟩
      · rw [List.length_append, List.length_replicate, encL_append]
        simp only [← List.append_toArray]
        rfl
      · rw [zeroCells_size, List.length_append, List.length_replicate]; rfl
      · exact (Chg.push { w with drawn := w.drawn + 1 } _).mono (by simp)
      · intro b hb; right; simp only [blkOf, List.mem_singleton] at hb; omega
  obtain ⟨v', w', h1, h2⟩ := key
  refine ⟨v', w', ?_, h2⟩
  rw [e_append, hx, hy]
  exact run_valN h1
end
end Go.Sac

namespace Go.Sac
open Go
abbrev W48 := { l : List UInt8 // l.length = 48 }
def w48z : W48 := ⟨List.replicate 48 0, rfl⟩
structure Slt where
  w : W48
  gen : UInt64
def slt0 : Slt := ⟨w48z, 0⟩
def vSlt (x : Slt) : Value := .agg (encL x.w.1 ++ [Value.int .u64 x.gen.toNat]).toArray
structure SSt where
  full : List (Int × Slt)
  puts : UInt64
  dead : Bool
def vFull (m : List (Int × Slt)) : List (Int × Value) := m.map fun p => (p.1, vSlt p.2)
def SlotAt (w : World) (sb fr b : Nat) (s : SSt) : Prop :=
  Blk w sb [.pointer (some ⟨b, 0, none⟩), .map (some fr), .int .u64 s.puts.toNat, .bool s.dead] ∧ MapAt w fr (vFull s.full) ∧ sb ≠ fr
theorem SlotAt.chg {w w' : World} {sb fr b : Nat} {s : SSt} {S : List Nat} (h : SlotAt w sb fr b s) (hm : Chg S w w') (h1 : sb ∉ S) (h2 : fr ∉ S) : SlotAt w' sb fr b s :=
  ⟨h.1.chg hm h1, h.2.1.mod hm h2, h.2.2⟩
theorem SlotAt.chg0 {w w' : World} {sb fr b : Nat} {s : SSt} (h : SlotAt w sb fr b s) (hm : Chg [] w w') : SlotAt w' sb fr b s := h.chg hm (by simp) (by simp)
def framedL (n : Nat) (w : List UInt8) : List UInt8 := be 8 n ++ w ++ be 8 n
def unfN (l : List UInt8) : UInt64 := UInt64.ofNat (ofBe (l.take 8))
def unfM (l : List UInt8) : UInt64 := UInt64.ofNat (ofBe (((l.drop 8).drop 48).take 8))
def unfW (l : List UInt8) : W48 := ⟨((l.drop 8).take 48 ++ List.replicate 48 0).take 48, by simp⟩
def unframedL (l : List UInt8) : UInt64 × W48 := if unfM l = unfN l then (unfN l, unfW l) else (0, w48z)
def pad64 (l : List UInt8) : List UInt8 := l ++ List.replicate (64 - l.length) 0
theorem framedL_length (n : Nat) (w : List UInt8) : (framedL n w).length = 16 + w.length := by simp [framedL, be_length]; omega
theorem pad64_length (l : List UInt8) (h : l.length ≤ 64) : (pad64 l).length = 64 := by simp [pad64]; omega
theorem unfW_eq (l : List UInt8) (h : l.length = 64) : (unfW l).1 = (l.drop 8).take 48 := by
  unfold unfW
  exact List.take_left' (by rw [List.length_take, List.length_drop]; omega)
def wrD (ds : DSt) (i : Int) (l : List UInt8) : DSt × Int := if (ds.write i (pad64 l)).2 = 0 then (ds.write i (pad64 l)).1.flush else ds.write i (pad64 l)
def SSt.died (s : SSt) (e : Int) : SSt := { s with dead := s.dead || decide (e = 61) }
def cntD (ds : DSt) (n : UInt64) : DSt × Int := wrD ds (24 + ((n % 2).toNat : Int)) (framedL n.toNat w48z.1)
def isSlot (i : Int) : Bool := decide (0 ≤ i) && decide (i < 24)
def mkW : Nat → Nat → DSt → DSt × Int
  | 0, _, ds => (ds, 0)
  | k + 1, i, ds => if (ds.write i (List.replicate 64 0)).2 = 0 then mkW k (i + 1) (ds.write i (List.replicate 64 0)).1 else ds.write i (List.replicate 64 0)
def makeD (ds : DSt) : DSt × Int :=
  if ds.kept.length < 64 then (ds, 70)
  else if (mkW 26 0 ds).2 = 0 then (mkW 26 0 ds).1.flush else mkW 26 0 ds
def ss0 : SSt := ⟨[], 0, false⟩
def umax (a b : UInt64) : UInt64 := if a.toNat ≤ b.toNat then b else a
def SSt.reads (s : SSt) (i : Int) (l : List UInt8) : SSt :=
  { s with puts := umax s.puts (unframedL l).1, full := if i < 24 ∧ 0 < (unframedL l).1 then msetL i ⟨(unframedL l).2, (unframedL l).1⟩ s.full else s.full }
def openS (ds : DSt) (n : Nat) : SSt := (List.range n).foldl (fun (s : SSt) (i : Nat) => s.reads (i : Int) (ds.now (i : Int)).1) ss0
def putD (ds : DSt) (s : SSt) (i : Int) (kek key : List UInt8) (hk : key.length = 32) : DSt × SSt × Int :=
  if s.dead then (ds, s, 260)
  else if isSlot i then
    let c := cntD ds (s.puts + 1)
    if c.2 = 0 then
      let s1 : SSt := { s.died c.2 with puts := s.puts + 1 }
      let x : Slt := ⟨⟨wrapL kek i.toNat (s.puts + 1).toNat key, wrapL_length _ _ _ _ hk⟩, s.puts + 1⟩
      let d := wrD c.1 i (framedL x.gen.toNat x.w.1)
      if d.2 = 0 then (d.1, { s1.died d.2 with full := msetL i x s1.full }, 0) else (d.1, s1.died d.2, d.2)
    else (c.1, s.died c.2, c.2)
  else (ds, s, 70)
def eraseD (ds : DSt) (s : SSt) (i : Int) : DSt × SSt × Int :=
  if s.dead then (ds, s, 260)
  else if isSlot i then
    let d := wrD ds i []
    if d.2 = 0 then (d.1, { s.died d.2 with full := mdel i s.full }, 0) else (d.1, s.died d.2, d.2)
  else (ds, s, 70)
def getS (s : SSt) (i : Int) (kek : List UInt8) : List UInt8 × Int :=
  if isSlot i then
    match mget i s.full with
    | none => (List.replicate 32 0, 120)
    | some x => if fitsL kek (nonceL i.toNat x.gen.toNat) tWrap x.w.1 then (crossK kek (nonceL i.toNat x.gen.toNat) (x.w.1.take 32), 0) else (List.replicate 32 0, 50)
  else (List.replicate 32 0, 70)
def usedS (s : SSt) (n : Nat) : List Int := ((List.range n).map fun (i : Nat) => (i : Int)).filter fun i => (mget i s.full).isSome
def freeS (s : SSt) : Nat → Nat → Int
  | 0, _ => -1
  | k + 1, i => if (mget (i : Int) s.full).isSome then freeS s k (i + 1) else i
theorem max_u64 (a b : UInt64) : max (a.toNat : Int) (b.toNat : Int) = ((umax a b).toNat : Int) := by
  unfold umax; split <;> omega
def sltC (x : Slt) : List Value := encL x.w.1 ++ [Value.int .u64 x.gen.toNat]
theorem wrD_pos {ds : DSt} {i : Int} {l : List UInt8} (h : (ds.write i (pad64 l)).2 = 0) : wrD ds i l = (ds.write i (pad64 l)).1.flush := by unfold wrD; rw [if_pos h]
theorem openS_succ (ds : DSt) (n : Nat) : openS ds (n + 1) = (openS ds n).reads n (ds.now n).1 := by
  unfold openS; rw [List.range_succ, List.foldl_append]; rfl
theorem openS_zero (ds : DSt) : openS ds 0 = ss0 := rfl
def RunD (w0 w : World) (b : Nat) (kv : Value) (r : Nat) (ds : DSt) : Prop := DiskAt w b kv r ds ∧ Chg [] w0 w ∧ ∀ x ∈ DF b kv r, w0.heap.size ≤ x
def RunS (w0 w : World) (sb fr b : Nat) (kv : Value) (r : Nat) (s : SSt) : Prop := SlotAt w sb fr b s ∧ (sb ∉ DF b kv r ∧ fr ∉ DF b kv r) ∧ w0.heap.size ≤ sb ∧ w0.heap.size ≤ fr
theorem RunD.chg0 {w0 w w' : World} {b r : Nat} {kv : Value} {ds : DSt} (h : RunD w0 w b kv r ds) (hm : Chg [] w w') : RunD w0 w' b kv r ds := ⟨h.1.chg0 hm, h.2.1.tr hm, h.2.2⟩
theorem RunS.chg0 {w0 w w' : World} {sb fr b r : Nat} {kv : Value} {s : SSt} (h : RunS w0 w sb fr b kv r s) (hm : Chg [] w w') : RunS w0 w' sb fr b kv r s := ⟨h.1.chg0 hm, h.2⟩
attribute [irreducible] unframedL openS wrD mkW makeD
end Go.Sac

namespace Go.Sac
open Go
abbrev PgF := UInt32 → Bool
def noPg : PgF := fun _ => false
def byteOf (g : Nat → Bool) : UInt8 := UInt8.ofNat ((List.range 8).foldl (fun n k => n ||| (g k).toNat <<< k) 0)
theorem byteOf_bit (g : Nat → Bool) (k : Nat) (hk : k < 8) : (byteOf g).toNat.testBit k = g k := by
  have h : ∀ b0 b1 b2 b3 b4 b5 b6 b7 : Bool, ∀ k : Fin 8, (UInt8.ofNat (0 ||| b0.toNat <<< 0 ||| b1.toNat <<< 1 ||| b2.toNat <<< 2 ||| b3.toNat <<< 3 ||| b4.toNat <<< 4 ||| b5.toNat <<< 5 ||| b6.toNat <<< 6 ||| b7.toNat <<< 7)).toNat.testBit k = [b0, b1, b2, b3, b4, b5, b6, b7].getD k false := by decide +kernel
  have := h (g 0) (g 1) (g 2) (g 3) (g 4) (g 5) (g 6) (g 7) ⟨k, hk⟩
  unfold byteOf
  simp only [List.range, List.range.loop, List.foldl]
  rw [this]
  rcases k with _ | _ | _ | _ | _ | _ | _ | _ | k <;> first | rfl | omega
theorem byte_ext {a b : UInt8} (h : ∀ k, k < 8 → a.toNat.testBit k = b.toNat.testBit k) : a = b := by
  apply UInt8.toNat_inj.1
  apply Nat.eq_of_testBit_eq
  intro k
  by_cases hk : k < 8
  · exact h k hk
  · have ha := a.toNat_lt
    have hb := b.toNat_lt
    have h2 : 2 ^ 8 ≤ 2 ^ k := Nat.pow_le_pow_right (by omega) (by omega)
    rw [Nat.testBit_lt_two_pow (by omega), Nat.testBit_lt_two_pow (by omega)]
def marksL (f : PgF) : List UInt8 := (List.range 50).map fun i => byteOf fun k => f (UInt32.ofNat (8 * i + k))
def bitAt (l : List UInt8) (k : Nat) : Bool := (l.getD (k / 8) 0).toNat.testBit (k % 8)
def pagesF (l : List UInt8) : PgF := fun k => decide (k.toNat < 400) && bitAt l k.toNat
theorem marksL_length (f : PgF) : (marksL f).length = 50 := by simp [marksL]
theorem marksL_get (f : PgF) (i : Nat) (h : i < 50) : (marksL f).getD i 0 = byteOf fun k => f (UInt32.ofNat (8 * i + k)) := by
  unfold marksL
  rw [List.getD_eq_getElem?_getD, List.getElem?_map, List.getElem?_range h]; rfl
theorem marksL_bit (f : PgF) (k : Nat) (h : k < 400) : bitAt (marksL f) k = f (UInt32.ofNat k) := by
  unfold bitAt
  rw [marksL_get f _ (by omega), byteOf_bit _ _ (by omega)]
  congr 2
  omega
theorem bits_marks {f : PgF} {l : List UInt8} (hl : l.length = 50) (h : ∀ k, k < 400 → bitAt l k = f (UInt32.ofNat k)) : l = marksL f := by
  apply List.ext_getElem?
  intro i
  by_cases hi : i < 50
  · have h1 : l[i]? = some (l.getD i 0) := by rw [List.getD_eq_getElem?_getD, List.getElem?_eq_getElem (by omega)]; rfl
    have h2 : (marksL f)[i]? = some ((marksL f).getD i 0) := by rw [List.getD_eq_getElem?_getD, List.getElem?_eq_getElem (by rw [marksL_length]; exact hi)]; rfl
    rw [h1, h2]
    congr 1
    apply byte_ext
    intro k hk
    have q1 := h (8 * i + k) (by omega)
    have q2 := marksL_bit f (8 * i + k) (by omega)
    rw [← q2] at q1
    unfold bitAt at q1
    rw [show (8 * i + k) / 8 = i by omega, show (8 * i + k) % 8 = k by omega] at q1
    exact q1
  · rw [List.getElem?_eq_none (by omega), List.getElem?_eq_none (by rw [marksL_length]; omega)]
theorem pages_marks {f : PgF} (h : ∀ k, f k = true → k.toNat < 400) : pagesF (marksL f) = f := by
  funext k
  unfold pagesF
  by_cases hk : k.toNat < 400
  · rw [decide_eq_true hk, Bool.true_and, marksL_bit f _ hk, UInt32.ofNat_toNat]
  · rw [decide_eq_false hk, Bool.false_and]
    cases hf : f k with
    | false => rfl
    | true => exact absurd (h k hf) hk
theorem pagesF_lt {l : List UInt8} {k : UInt32} (h : pagesF l k = true) : k.toNat < 400 := by
  unfold pagesF at h
  simp only [Bool.and_eq_true, decide_eq_true_eq] at h
  exact h.1
structure Sup where
  root : UInt32
  txt : List UInt8
  used : PgF
  written : PgF
  commit : UInt64
  epoch : UInt32
def tSuper : List UInt8 := [115, 117, 112, 101, 114]
def tPage : List UInt8 := [112, 97, 103, 101]
def signL (k b : List UInt8) : List UInt8 := macL (deriveL k tSuper 0) b
def superP (s : Sup) : List UInt8 := be 8 s.commit.toNat ++ be 4 s.epoch.toNat ++ be 4 s.root.toNat ++ (be 2 s.txt.length ++ s.txt) ++ marksL s.used ++ marksL s.written
def superB (k : List UInt8) (s : Sup) : List UInt8 := superP s ++ signL k (superP s)
theorem signL_length (k b : List UInt8) : (signL k b).length = 32 := macL_length _ _
theorem superP_length (s : Sup) : (superP s).length = 118 + s.txt.length := by simp [superP, be_length, marksL_length]; omega
theorem superB_length (k : List UInt8) (s : Sup) : (superB k s).length = 150 + s.txt.length := by
  rw [superB, List.length_append, superP_length, signL_length]; omega
def txN (b : List UInt8) : Nat := ofBe ((b.drop 16).take 2)
def supOf (b : List UInt8) : Sup :=
  ⟨UInt32.ofNat (ofBe ((b.drop 12).take 4)), (b.drop 18).take (txN b), pagesF ((b.drop (18 + txN b)).take 50), pagesF ((b.drop (68 + txN b)).take 50), UInt64.ofNat (ofBe (b.take 8)), UInt32.ofNat (ofBe ((b.drop 8).take 4))⟩
def parsedL (k b : List UInt8) : Option Sup :=
  if b.length < 56 ∨ 200 < txN b ∨ b.length < 150 + txN b then none
  else if (b.drop (118 + txN b)).take 32 = signL k (b.take (118 + txN b)) then some (supOf b) else none
def frameN : Nat → List UInt8 → List UInt8 → List UInt8
  | 0, _, _ => []
  | n + 1, nb, b => (nb ++ b.take 56 ++ List.replicate (56 - (b.take 56).length) 0 ++ nb) ++ frameN n nb (b.drop 56)
def frameL (b : List UInt8) (n : UInt64) : List UInt8 := frameN ((b.length + 55) / 56) (be 4 n.toNat) b
def unfrN (nb : List UInt8) : Nat → List UInt8 → List UInt8
  | 0, _ => []
  | n + 1, b => if b.take 4 = nb ∧ (b.drop 60).take 4 = nb then (b.drop 4).take 56 ++ unfrN nb n (b.drop 64) else []
def unfrL (b : List UInt8) : List UInt8 := unfrN (b.take 4) (b.length / 64) b
def numsN : Nat → List UInt8 → List UInt64
  | 0, _ => []
  | n + 1, b => UInt64.ofNat (ofBe (b.take 4)) :: UInt64.ofNat (ofBe ((b.drop 60).take 4)) :: numsN n (b.drop 64)
def numsL (b : List UInt8) : List UInt64 := numsN (b.length / 64) b
def aheadU (c x : UInt64) : UInt64 := toU64 ((toU32 ((x - c).toNat : Int)).toNat : Int)
theorem aheadU_eq (c x : UInt64) : aheadU c x = (x - c).toUInt32.toUInt64 := by unfold aheadU; rw [toU32_u64, toU64_u32]
def nextStep (c n x : UInt64) : UInt64 := if aheadU c x < 65536 then umax n (c + aheadU c x) else n
def nextL (c : UInt64) (l : List UInt64) : UInt64 := l.foldl (nextStep c) c + 1
theorem frameN_length : ∀ (n : Nat) (nb b : List UInt8), nb.length = 4 → (frameN n nb b).length = 64 * n
  | 0, _, _, _ => rfl
  | n + 1, nb, b, h => by
    rw [frameN, List.length_append, frameN_length n nb _ h]
    simp only [List.length_append, List.length_replicate, List.length_take, h]; omega
theorem frameL_length (b : List UInt8) (n : UInt64) : (frameL b n).length = 64 * ((b.length + 55) / 56) := frameN_length _ _ _ (be_length _ _)
theorem unfrN_len (nb : List UInt8) : ∀ (n : Nat) (b : List UInt8), b.length = 64 * n → ∃ m, (unfrN nb n b).length = 56 * m ∧ m ≤ n
  | 0, _, _ => ⟨0, rfl, Nat.le_refl _⟩
  | n + 1, b, h => by
    rw [unfrN]
    split
    · obtain ⟨m, h1, h2⟩ := unfrN_len nb n (b.drop 64) (by rw [List.length_drop]; omega)
      exact ⟨m + 1, by rw [List.length_append, h1, List.length_take, List.length_drop]; omega, by omega⟩
    · exact ⟨0, rfl, by omega⟩
theorem numsN_length : ∀ (n : Nat) (b : List UInt8), (numsN n b).length = 2 * n
  | 0, _ => rfl
  | n + 1, b => by rw [numsN, List.length_cons, List.length_cons, numsN_length n]; omega
namespace DSt
def wr : Nat → DSt → Int → List UInt8 → DSt × Int
  | 0, s, _, _ => (s, 0)
  | n + 1, s, i, l => if (s.write i (l.take 64)).2 = 0 then wr n (s.write i (l.take 64)).1 (i + 1) (l.drop 64) else s.write i (l.take 64)
def writes (s : DSt) (i : Int) (l : List UInt8) : DSt × Int := wr ((l.length + 63) / 64) s i l
def reads (s : DSt) (i : Int) (n : Nat) : List UInt8 := (List.range n).flatMap fun (k : Nat) => (s.now (i + (k : Int))).1
theorem reads_succ (s : DSt) (i : Int) (n : Nat) : s.reads i (n + 1) = s.reads i n ++ (s.now (i + (n : Int))).1 := by
  unfold reads; rw [List.range_succ, List.flatMap_append]; simp
theorem reads_zero (s : DSt) (i : Int) : s.reads i 0 = [] := rfl
theorem reads_length (s : DSt) (i : Int) (n : Nat) : (s.reads i n).length = 64 * n := by
  induction n with
  | zero => rfl
  | succ n ih => rw [reads_succ, List.length_append, ih, (s.now _).2]; omega
end DSt
def manyN (n : Nat) : Int := min ((max ((n : Int) - 32) 0) / 8) 400
def regS (ds : DSt) (i : Nat) : List UInt8 := ds.reads ((i : Int) * 16) 16
def newStep (k : List UInt8) (ds : DSt) (best : Option (Sup × Nat)) (i : Nat) : Option (Sup × Nat) :=
  match parsedL k (unfrL (regS ds i)) with
  | none => best
  | some s => match best with
    | none => some (s, i)
    | some (b, j) => if b.commit < s.commit then some (s, i) else some (b, j)
def newest (k : List UInt8) (ds : DSt) : Option (Sup × Nat) := newStep k ds (newStep k ds none 0) 1
def comOf (best : Option (Sup × Nat)) : UInt64 := match best with | none => 0 | some (s, _) => s.commit
def atOf (best : Option (Sup × Nat)) : Int := match best with | none => -1 | some (_, j) => j
def epOf (best : Option (Sup × Nat)) : UInt32 := match best with | none => 0 | some (s, _) => s.epoch
def newNext (k : List UInt8) (ds : DSt) : UInt64 := nextL (comOf (newest k ds)) (numsL (regS ds 0) ++ numsL (regS ds 1))
def laysD (k : List UInt8) (ds : DSt) (at_ : Nat) (s : Sup) : DSt × Int :=
  if (ds.writes ((at_ : Int) * 16) (frameL (superB k s) s.commit)).2 = 0 then (ds.writes ((at_ : Int) * 16) (frameL (superB k s) s.commit)).1.flush
  else ds.writes ((at_ : Int) * 16) (frameL (superB k s) s.commit)
namespace DSt
theorem wr_bnd (n : Nat) : ∀ (ds : DSt) (i : Int) (l : List UInt8), ds.Fine → ds.steps + n ≤ 1000000000000 → (wr n ds i l).1.Fine ∧ (wr n ds i l).1.steps ≤ ds.steps + n ∧ (wr n ds i l).1.kept = ds.kept := by
  induction n with
  | zero => intro ds i l hf hs; exact ⟨hf, Nat.le_refl _, rfl⟩
  | succ n ih =>
    intro ds i l hf hs
    have h1 := hf.write (by omega) i (l.take 64)
    have h2 := write_steps ds i (l.take 64)
    have h3 := write_kept ds i (l.take 64)
    rw [wr]
    by_cases h : (ds.write i (l.take 64)).2 = 0
    · rw [if_pos h]
      obtain ⟨q1, q2, q3⟩ := ih _ (i + 1) (l.drop 64) h1 (by omega)
      exact ⟨q1, by omega, by rw [q3, h3]⟩
    · rw [if_neg h]
      exact ⟨h1, by omega, h3⟩
end DSt
end Go.Sac

section
namespace Go.Sac
open Go
set_option maxRecDepth 100000
def keyN (n : UInt8) : List UInt8 := n :: (List.replicate 30 0 ++ [200])
def sv (l : List UInt8) : Option Slt := if 0 < (unframedL l).1 then some ⟨(unframedL l).2, (unframedL l).1⟩ else none
theorem ofNat_be8 (n : UInt64) : UInt64.ofNat (ofBe (be 8 n.toNat)) = n := by
  rw [ofBe_be]
  apply UInt64.toNat_inj.1
  rw [UInt64.toNat_ofNat']
  have := n.toNat_lt
  have h : (256 : Nat) ^ 8 = 18446744073709551616 := by decide
  rw [h]; omega
theorem framed_take (n : Nat) (w : List UInt8) : (framedL n w).take 8 = be 8 n := by
  unfold framedL; rw [List.append_assoc, List.take_left' (be_length 8 n)]
theorem framed_drop (n : Nat) (w : List UInt8) : (framedL n w).drop 8 = w ++ be 8 n := by
  unfold framedL; rw [List.append_assoc, List.drop_left' (be_length 8 n)]
theorem unframed_def (l : List UInt8) : unframedL l = if unfM l = unfN l then (unfN l, unfW l) else (0, w48z) := by unfold unframedL; rfl
theorem unframed_framed (n : UInt64) (x : W48) : unframedL (framedL n.toNat x.1) = (n, x) := by
  have h1 : unfN (framedL n.toNat x.1) = n := by unfold unfN; rw [framed_take, ofNat_be8]
  have h2 : unfM (framedL n.toNat x.1) = n := by
    unfold unfM; rw [framed_drop, List.drop_left' x.2, List.take_of_length_le (by rw [be_length]; omega), ofNat_be8]
  have h3 : unfW (framedL n.toNat x.1) = x := by
    apply Subtype.ext
    rw [unfW_eq _ (by rw [framedL_length, x.2]), framed_drop, List.take_left' x.2]
  rw [unframed_def, if_pos (by rw [h1, h2]), h1, h3]
theorem unframed_zero : unframedL (List.replicate 64 0) = (0, w48z) := by
  have h1 : unfN (List.replicate 64 0) = 0 := by decide
  have h2 : unfM (List.replicate 64 0) = 0 := by decide
  have h3 : unfW (List.replicate 64 0) = w48z := by apply Subtype.ext; decide
  rw [unframed_def, if_pos (by rw [h1, h2]), h1, h3]
theorem sv_zero : sv (List.replicate 64 0) = none := by unfold sv; rw [unframed_zero]; rfl
theorem sv_framed (n : UInt64) (x : W48) (h : 0 < n) : sv (framedL n.toNat x.1) = some ⟨x, n⟩ := by
  unfold sv; rw [unframed_framed, if_pos h]
def secP (l : List UInt8) : Sec := DSt.putS sec0 (pad64 l)
theorem secP_eq (l : List UInt8) (h : l.length ≤ 64) : (secP l).1 = pad64 l := by
  have hl := pad64_length l h
  unfold secP
  rw [putS_eq _ _ (by omega), hl, List.drop_of_length_le (Nat.le_of_eq sec0.2), List.append_nil]
theorem putS_pad (c : Sec) (l : List UInt8) (h : l.length ≤ 64) : DSt.putS c (pad64 l) = secP l := by
  have hl := pad64_length l h
  apply Subtype.ext
  rw [secP_eq l h, putS_eq _ _ (by omega), hl, List.drop_of_length_le (Nat.le_of_eq c.2), List.append_nil]
theorem pad64_full (l : List UInt8) (h : l.length = 64) : pad64 l = l := by simp [pad64, h]
theorem apply_one (k : List Sec) (i : Int) (c : Sec) (hi : 0 ≤ i) : DSt.apply k [(i, c)] = k.set i.toNat c := by
  have := apply_snoc k [] i c hi (by simp)
  rwa [List.nil_append, apply_nil] at this
theorem wrD_on {ds : DSt} {i : Int} {l : List UInt8} (h0 : ds.offAt = 0) (hp : ds.pend = []) (hi : 0 ≤ i) (hi2 : i < ds.kept.length) (hl : l.length ≤ 64) :
    wrD ds i l = (⟨ds.steps + 2, 0, ds.kept.set i.toNat (secP l), []⟩, 0) := by
  have hw : ds.write i (pad64 l) = (⟨ds.steps + 1, 0, ds.kept, [(i, secP l)]⟩, 0) := by
    have ho : ds.step.off = false := by simp [DSt.off, DSt.step, h0]
    have his : ds.is i = true := by simp [DSt.is, hi, hi2]
    unfold DSt.write
    rw [if_neg (by rw [ho]; decide), if_neg (by rw [his, decide_eq_false (by rw [pad64_length l hl]; omega)]; decide), hp, putS_pad _ _ hl]
    simp [msetL, DSt.step, h0]
  rw [wrD_pos (by rw [hw]), hw]
  unfold DSt.flush
  rw [if_neg (by simp [DSt.off, DSt.step])]
  simp only [DSt.step, apply_one _ _ _ hi]
structure SInv (ds : DSt) (s : SSt) : Prop where
  pend : ds.pend = []
  len : 64 ≤ ds.kept.length
  full : ∀ i : Nat, i < 24 → mget (i : Int) s.full = sv (ds.kept.getD i sec0).1
  keys : (s.full.map (·.1)).Nodup
  gens : ∀ i : Nat, i < 26 → (unframedL (ds.kept.getD i sec0).1).1.toNat ≤ s.puts.toNat
theorem mget_msetL {ν : Type} (i k : Int) (v : ν) (m : List (Int × ν)) : mget i (msetL k v m) = if i = k then some v else mget i m := by
  induction m with
  | nil =>
    simp only [msetL, mget]
  | cons p m ih =>
    obtain ⟨x, u⟩ := p
    simp only [msetL]
    by_cases h : k = x
    · subst h
      simp only [if_true, mget]
      by_cases hi : i = k <;> simp [hi]
    · simp only [h, if_false, mget]
      by_cases hi : i = x
      · subst hi
        have : ¬ i = k := fun e => h e.symm
        simp [this]
      · simp only [hi, if_false]; exact ih
theorem msetL_keys_eq {ν : Type} (k : Int) (v : ν) (m : List (Int × ν)) : (msetL k v m).map (·.1) = if k ∈ m.map (·.1) then m.map (·.1) else m.map (·.1) ++ [k] := by
  induction m with
  | nil => simp [msetL]
  | cons p m ih =>
    obtain ⟨x, u⟩ := p
    simp only [msetL]
    by_cases h : k = x
    · subst h; simp
    · simp only [h, if_false, List.map_cons, List.mem_cons, false_or, ih]
      split <;> simp
theorem msetL_nodup {ν : Type} (k : Int) (v : ν) (m : List (Int × ν)) (h : (m.map (·.1)).Nodup) : ((msetL k v m).map (·.1)).Nodup := by
  rw [msetL_keys_eq]
  split
  · exact h
  · rename_i hk
    rw [List.nodup_append]
    exact ⟨h, by simp, fun a ha b hb => by simp at hb; subst hb; exact fun e => hk (e ▸ ha)⟩
theorem mdel_sub {ν : Type} (k : Int) (m : List (Int × ν)) : (mdel k m).Sublist m := by
  induction m with
  | nil => exact List.Sublist.refl _
  | cons p m ih =>
    obtain ⟨x, u⟩ := p
    simp only [mdel]
    split
    · exact List.sublist_cons_self _ _
    · exact ih.cons_cons _
theorem mget_mdel {ν : Type} (i k : Int) (m : List (Int × ν)) (h : (m.map (·.1)).Nodup) : mget i (mdel k m) = if i = k then none else mget i m := by
  induction m with
  | nil => simp [mdel, mget]
  | cons p m ih =>
    obtain ⟨x, u⟩ := p
    simp only [List.map_cons, List.nodup_cons] at h
    simp only [mdel]
    by_cases hk : k = x
    · subst hk
      simp only [if_true]
      by_cases hi : i = k
      · subst hi; rw [if_pos rfl, mget_none h.1]
      · rw [if_neg hi]; simp [mget, hi]
    · simp only [hk, if_false, mget]
      by_cases hi : i = x
      · subst hi
        have : ¬ i = k := fun e => hk e.symm
        simp [this]
      · simp only [hi, if_false]; exact ih h.2
theorem getDset {α : Type} (l : List α) (i j : Nat) (a d : α) (h : i < l.length) : (l.set i a).getD j d = if i = j then a else l.getD j d := by
  rw [List.getD_eq_getElem?_getD, List.getElem?_set, List.getD_eq_getElem?_getD]
  by_cases hij : i = j
  · subst hij; simp [h]
  · simp [hij]
def putKept (k : List Sec) (n : UInt64) (i : Nat) (w : List UInt8) : List Sec :=
  (k.set (24 + (n % 2).toNat) (secP (framedL n.toNat w48z.1))).set i (secP (framedL n.toNat w))
theorem putD_on {ds : DSt} {s : SSt} {i : Nat} {kek key : List UInt8} (hy : key.length = 32) (h0 : ds.offAt = 0) (hp : ds.pend = []) (hl : 64 ≤ ds.kept.length) (hdd : s.dead = false) (hi : i < 24) :
    putD ds s i kek key hy = (⟨ds.steps + 4, 0, putKept ds.kept (s.puts + 1) i (wrapL kek i (s.puts + 1).toNat key), []⟩,
      ⟨msetL (i : Int) ⟨⟨wrapL kek i (s.puts + 1).toNat key, wrapL_length _ _ _ _ hy⟩, s.puts + 1⟩ s.full, s.puts + 1, false⟩, 0) := by
  have h2 : ((s.puts + 1) % 2).toNat < 2 := by rw [UInt64.toNat_mod]; exact Nat.mod_lt _ (by decide)
  have hc : cntD ds (s.puts + 1) = (⟨ds.steps + 2, 0, ds.kept.set (24 + ((s.puts + 1) % 2).toNat) (secP (framedL (s.puts + 1).toNat w48z.1)), []⟩, 0) := by
    unfold cntD
    rw [wrD_on h0 hp (by omega) (by omega) (by rw [framedL_length, w48z.2]; decide)]
    congr 3
  have hw : ∀ l : List UInt8, l.length ≤ 64 → wrD ⟨ds.steps + 2, 0, ds.kept.set (24 + ((s.puts + 1) % 2).toNat) (secP (framedL (s.puts + 1).toNat w48z.1)), []⟩ (i : Int) l = (⟨ds.steps + 2 + 2, 0, (ds.kept.set (24 + ((s.puts + 1) % 2).toNat) (secP (framedL (s.puts + 1).toNat w48z.1))).set i (secP l), []⟩, 0) := by
    intro l hl'
    rw [wrD_on rfl rfl (by omega) (by simp only [List.length_set]; omega) hl']
    rfl
  have his : isSlot (i : Int) = true := by simp [isSlot]; omega
  unfold putD
  rw [if_neg (by rw [hdd]; decide), if_pos his]
  simp only [hc, if_true, Int.toNat_natCast]
  rw [hw _ (by rw [framedL_length, wrapL_length _ _ _ _ hy]; decide)]
  simp only [if_true, SSt.died, hdd]
  rfl
theorem eraseD_on {ds : DSt} {s : SSt} {i : Nat} (h0 : ds.offAt = 0) (hp : ds.pend = []) (hl : 64 ≤ ds.kept.length) (hdd : s.dead = false) (hi : i < 24) :
    eraseD ds s i = (⟨ds.steps + 2, 0, ds.kept.set i (secP []), []⟩, ⟨mdel (i : Int) s.full, s.puts, false⟩, 0) := by
  have his : isSlot (i : Int) = true := by simp [isSlot]; omega
  have hw := wrD_on (i := (i : Int)) (l := []) h0 hp (by omega) (by omega) (by decide)
  unfold eraseD
  rw [if_neg (by rw [hdd]; decide), if_pos his]
  simp only [hw, if_true, SSt.died, hdd, Int.toNat_natCast]
  rfl
theorem secP_val (l : List UInt8) (h : l.length = 64) : (secP l).1 = l := by rw [secP_eq l (by omega), pad64_full l h]
theorem secP_nil : (secP []).1 = List.replicate 64 0 := secP_eq [] (by decide)
theorem putKept_length (k : List Sec) (n : UInt64) (i : Nat) (w : List UInt8) : (putKept k n i w).length = k.length := by simp [putKept]
theorem putKept_get (k : List Sec) (n : UInt64) (i j : Nat) (w : List UInt8) (hl : 64 ≤ k.length) (hi : i < 24) :
    (putKept k n i w).getD j sec0 = if i = j then secP (framedL n.toNat w) else if 24 + (n % 2).toNat = j then secP (framedL n.toNat w48z.1) else k.getD j sec0 := by
  have h2 : (n % 2).toNat < 2 := by rw [UInt64.toNat_mod]; exact Nat.mod_lt _ (by decide)
  unfold putKept
  rw [getDset _ _ _ _ _ (by rw [List.length_set]; omega), getDset _ _ _ _ _ (by omega)]
theorem SInv.put {ds : DSt} {s : SSt} {i : Nat} {kek key : List UInt8} (h : SInv ds s) (hy : key.length = 32) (h0 : ds.offAt = 0) (hdd : s.dead = false) (hi : i < 24) (hpu : s.puts.toNat < 1000000000000) :
    SInv (putD ds s i kek key hy).1 (putD ds s i kek key hy).2.1 := by
  obtain ⟨h1, h2, h3, h4, h5⟩ := h
  have hn : (s.puts + 1).toNat = s.puts.toNat + 1 := by
    rw [UInt64.toNat_add]; show (s.puts.toNat + 1) % 18446744073709551616 = _; omega
  have hpos : 0 < s.puts + 1 := by rw [UInt64.lt_iff_toNat_lt, hn]; exact Nat.succ_pos _
  rw [putD_on hy h0 h1 h2 hdd hi]
  generalize hx : (⟨wrapL kek i (s.puts + 1).toNat key, wrapL_length _ _ _ _ hy⟩ : W48) = x
  have hxw : wrapL kek i (s.puts + 1).toNat key = x.1 := by rw [← hx]
  rw [hxw]
  have hfl : ∀ y : W48, (framedL (s.puts + 1).toNat y.1).length = 64 := fun y => by rw [framedL_length, y.2]
  refine ⟨rfl, by simp only [putKept_length]; exact h2, fun j hj => ?_, msetL_nodup _ _ _ h4, fun j hj => ?_⟩
  · simp only
    rw [mget_msetL, putKept_get _ _ _ _ _ h2 hi]
    by_cases hij : i = j
    · subst hij
      rw [if_pos rfl, if_pos rfl, secP_val _ (hfl x), sv_framed _ _ hpos]
    · have : ¬ (j : Int) = (i : Int) := by omega
      rw [if_neg this, if_neg hij, if_neg (by omega)]; exact h3 j hj
  · simp only
    rw [putKept_get _ _ _ _ _ h2 hi]
    by_cases hij : i = j
    · rw [if_pos hij, secP_val _ (hfl x), unframed_framed]; exact Nat.le_refl _
    · rw [if_neg hij]
      split
      · rw [secP_val _ (hfl w48z), unframed_framed]; exact Nat.le_refl _
      · have := h5 j hj; omega
theorem SInv.erase {ds : DSt} {s : SSt} {i : Nat} (h : SInv ds s) (h0 : ds.offAt = 0) (hdd : s.dead = false) (hi : i < 24) :
    SInv (eraseD ds s i).1 (eraseD ds s i).2.1 := by
  obtain ⟨h1, h2, h3, h4, h5⟩ := h
  rw [eraseD_on h0 h1 h2 hdd hi]
  refine ⟨rfl, by simp only [List.length_set]; exact h2, fun j hj => ?_, (((mdel_sub _ _).map _).nodup h4), fun j hj => ?_⟩
  · simp only
    rw [mget_mdel _ _ _ h4, getDset _ _ _ _ _ (by omega)]
    by_cases hij : i = j
    · subst hij; rw [if_pos rfl, if_pos rfl, secP_nil, sv_zero]
    · have : ¬ (j : Int) = (i : Int) := by omega
      rw [if_neg this, if_neg hij]; exact h3 j hj
  · simp only
    rw [getDset _ _ _ _ _ (by omega)]
    split
    · rw [secP_nil, unframed_zero]; exact Nat.zero_le _
    · exact h5 j hj
theorem umax_toNat (a b : UInt64) : (umax a b).toNat = max a.toNat b.toNat := by unfold umax; split <;> omega
theorem now_kept {ds : DSt} (h : ds.pend = []) (i : Nat) : ds.now i = ds.kept.getD i sec0 := by
  unfold DSt.now; rw [h]; rfl
theorem openS_get (ds : DSt) (n : Nat) (i : Nat) : mget (i : Int) (openS ds n).full = if i < n ∧ i < 24 then sv (ds.now i).1 else none := by
  induction n with
  | zero => rw [openS_zero]; simp [ss0, mget]
  | succ n ih =>
    rw [openS_succ]
    unfold SSt.reads
    simp only
    by_cases hc : (n : Int) < 24 ∧ 0 < (unframedL (ds.now n).1).1
    · rw [if_pos hc, mget_msetL]
      by_cases hin : i = n
      · subst hin
        rw [if_pos rfl, if_pos (by omega)]
        unfold sv; rw [if_pos hc.2]
      · rw [if_neg (by omega), ih]
        by_cases h1 : i < n ∧ i < 24
        · rw [if_pos h1, if_pos (by omega)]
        · rw [if_neg h1, if_neg (by omega)]
    · rw [if_neg hc, ih]
      by_cases hin : i = n
      · subst hin
        rw [if_neg (by omega)]
        split
        · rename_i h24
          unfold sv
          rw [if_neg (fun h => hc ⟨by omega, h⟩)]
        · rfl
      · by_cases h1 : i < n ∧ i < 24
        · rw [if_pos h1, if_pos (by omega)]
        · rw [if_neg h1, if_neg (by omega)]
theorem openS_keys (ds : DSt) (n : Nat) : ((openS ds n).full.map (·.1)).Nodup := by
  induction n with
  | zero => rw [openS_zero]; simp [ss0]
  | succ n ih =>
    rw [openS_succ]
    unfold SSt.reads
    simp only
    split
    · exact msetL_nodup _ _ _ ih
    · exact ih
theorem openS_puts (ds : DSt) (n : Nat) : (∀ i, i < n → (unframedL (ds.now i).1).1.toNat ≤ (openS ds n).puts.toNat) ∧ ∀ B, (∀ i : Nat, i < n → (unframedL (ds.now i).1).1.toNat ≤ B) → (openS ds n).puts.toNat ≤ B := by
  induction n with
  | zero => rw [openS_zero]; exact ⟨fun i h => by omega, fun B _ => Nat.zero_le _⟩
  | succ n ih =>
    rw [openS_succ]
    have hp : ((openS ds n).reads n (ds.now n).1).puts = umax (openS ds n).puts (unframedL (ds.now n).1).1 := rfl
    rw [hp, umax_toNat]
    refine ⟨fun i hi => ?_, fun B hB => ?_⟩
    · by_cases hin : i = n
      · subst hin; omega
      · have := ih.1 i (by omega); omega
    · have h1 := ih.2 B (fun i hi => hB i (by omega))
      have h2 := hB n (by omega)
      omega
theorem SInv.open {ds : DSt} (hp : ds.pend = []) (hl : 64 ≤ ds.kept.length) : SInv ds (openS ds 26) := by
  refine ⟨hp, hl, fun i hi => ?_, openS_keys _ _, fun i hi => ?_⟩
  · rw [openS_get, if_pos (by omega), now_kept hp]
  · have := (openS_puts ds 26).1 i hi
    rwa [now_kept hp] at this
def HoldsS (ds : DSt) (C : Nat → Option (List UInt8 × List UInt8)) : Prop :=
  ∀ i, i < 24 → match C i with
    | none => sv (ds.kept.getD i sec0).1 = none
    | some (k, y) => ∃ (h : y.length = 32) (g : UInt64), 0 < g ∧ sv (ds.kept.getD i sec0).1 = some ⟨⟨wrapL k i g.toNat y, wrapL_length _ _ _ _ h⟩, g⟩
def setC (C : Nat → Option (List UInt8 × List UInt8)) (i : Nat) (v : Option (List UInt8 × List UInt8)) : Nat → Option (List UInt8 × List UInt8) := fun j => if j = i then v else C j
theorem HoldsS.is {ds : DSt} {s : SSt} {C : Nat → Option (List UInt8 × List UInt8)} (h : SInv ds s) (hC : HoldsS ds C) {i : Nat} (hi : i < 24) : (mget (i : Int) s.full).isSome = (C i).isSome := by
  have h1 := hC i hi
  rw [h.full i hi]
  cases hc : C i with
  | none => rw [hc] at h1; simp only at h1; rw [h1]; rfl
  | some p =>
    obtain ⟨k, y⟩ := p
    rw [hc] at h1
    obtain ⟨hy, g, hg, hsv⟩ := h1
    rw [hsv]; rfl
theorem HoldsS.put {ds : DSt} {s : SSt} {C : Nat → Option (List UInt8 × List UInt8)} {i : Nat} {kek key : List UInt8} (h : SInv ds s) (hC : HoldsS ds C) (hy : key.length = 32) (h0 : ds.offAt = 0) (hdd : s.dead = false) (hi : i < 24) (hpu : s.puts.toNat < 1000000000000) :
    HoldsS (putD ds s i kek key hy).1 (setC C i (some (kek, key))) := by
  have hn : (s.puts + 1).toNat = s.puts.toNat + 1 := by
    rw [UInt64.toNat_add]; show (s.puts.toNat + 1) % 18446744073709551616 = _; omega
  have hpos : 0 < s.puts + 1 := by rw [UInt64.lt_iff_toNat_lt, hn]; exact Nat.succ_pos _
  rw [putD_on hy h0 h.pend h.len hdd hi]
  intro j hj
  simp only
  rw [putKept_get _ _ _ _ _ h.len hi]
  unfold setC
  by_cases hij : j = i
  · subst hij
    rw [if_pos rfl, if_pos rfl]
    have hwl := wrapL_length kek j (s.puts + 1).toNat key hy
    refine ⟨hy, s.puts + 1, hpos, ?_⟩
    have := sv_framed (s.puts + 1) ⟨wrapL kek j (s.puts + 1).toNat key, hwl⟩ hpos
    rw [secP_val _ (by rw [framedL_length, hwl])]; exact this
  · rw [if_neg hij, if_neg (fun e => hij e.symm), if_neg (by omega)]
    exact hC j hj
theorem HoldsS.erase {ds : DSt} {s : SSt} {C : Nat → Option (List UInt8 × List UInt8)} {i : Nat} (h : SInv ds s) (hC : HoldsS ds C) (h0 : ds.offAt = 0) (hdd : s.dead = false) (hi : i < 24) :
    HoldsS (eraseD ds s i).1 (setC C i none) := by
  rw [eraseD_on h0 h.pend h.len hdd hi]
  intro j hj
  simp only
  have hlen := h.len
  rw [getDset _ _ _ _ _ (by omega)]
  unfold setC
  by_cases hij : j = i
  · subst hij
    rw [if_pos rfl, if_pos rfl]
    simp only
    rw [secP_nil, sv_zero]
  · rw [if_neg hij, if_neg (fun e => hij e.symm)]
    exact hC j hj
theorem apply_get (k : List Sec) (m : List (Int × Sec)) (j : Nat) (h : j < k.length) : (DSt.apply k m).getD j sec0 = (mget (j : Int) m).getD (k.getD j sec0) := by
  unfold DSt.apply
  rw [List.getD_eq_getElem?_getD, List.getElem?_mapIdx, List.getD_eq_getElem?_getD, List.getElem?_eq_getElem h]; rfl
def dsN (n : Nat) : DSt := ⟨0, 0, List.replicate n sec0, []⟩
theorem dsN_fine (n : Nat) (h : n ≤ 4000) : (dsN n).Fine := ⟨Nat.zero_le _, Nat.zero_le _, fun p hp => by simp [dsN] at hp, by simpa [dsN] using h⟩
end Go.Sac

end
namespace Go.Sac
open Go
theorem mget_msetK {κ ν : Type} [DecidableEq κ] (i k : κ) (v : ν) (m : List (κ × ν)) : mget i (msetL k v m) = if i = k then some v else mget i m := by
  induction m with
  | nil =>
    simp only [msetL, mget]
  | cons p m ih =>
    obtain ⟨x, u⟩ := p
    simp only [msetL]
    by_cases h : k = x
    · subst h
      simp only [if_true, mget]
      by_cases hi : i = k <;> simp [hi]
    · simp only [h, if_false, mget]
      by_cases hi : i = x
      · subst hi
        have : ¬ i = k := fun e => h e.symm
        simp [this]
      · simp only [hi, if_false]; exact ih
theorem mget_mdelK {κ ν : Type} [DecidableEq κ] (i k : κ) (m : List (κ × ν)) (h : (m.map (·.1)).Nodup) : mget i (mdel k m) = if i = k then none else mget i m := by
  induction m with
  | nil => simp [mdel, mget]
  | cons p m ih =>
    obtain ⟨x, u⟩ := p
    simp only [List.map_cons, List.nodup_cons] at h
    simp only [mdel]
    by_cases hk : k = x
    · subst hk
      simp only [if_true]
      by_cases hi : i = k
      · subst hi; rw [if_pos rfl, mget_none h.1]
      · rw [if_neg hi]; simp [mget, hi]
    · simp only [hk, if_false, mget]
      by_cases hi : i = x
      · subst hi
        have : ¬ i = k := fun e => hk e.symm
        simp [this]
      · simp only [hi, if_false]; exact ih h.2
def SetAt (w : World) (r : Nat) (f : PgF) : Prop := ∃ m : List (UInt32 × Value), MapAt w r m ∧ ∀ k, mget k m = if f k = true then some (.bool true) else none
def addPg (f : PgF) (k : UInt32) : PgF := fun j => decide (j = k) || f j
def delPg (f : PgF) (k : UInt32) : PgF := fun j => !decide (j = k) && f j
section
variable {w w' : World} {r : Nat} {f : PgF}
theorem SetAt.mod {S : List Nat} (h : SetAt w r f) (hm : Chg S w w') (hn : r ∉ S) : SetAt w' r f := by
  obtain ⟨m, h1, h2⟩ := h; exact ⟨m, h1.mod hm hn, h2⟩
theorem SetAt.chg0 (h : SetAt w r f) (hm : Chg [] w w') : SetAt w' r f := h.mod hm (by simp)
theorem SetAt.lt (h : SetAt w r f) : r < w.heap.size := by
  obtain ⟨m, h1, h2⟩ := h; exact h1.lt
theorem SetAt.nil (h : MapAt w r ([] : List (UInt32 × Value))) : SetAt w r noPg := ⟨[], h, fun k => by simp [mget, noPg]⟩
theorem SetAt.look {k : UInt32} {m : List (UInt32 × Value)} (h : ∀ k, mget k m = if f k = true then some (.bool true) else none) : (mget k m).getD (.bool false) = .bool (f k) := by
  rw [h k]
  cases f k <;> rfl
theorem set_law {m : List (UInt32 × Value)} (h : ∀ k, mget k m = if f k = true then some (.bool true) else none) (k : UInt32) : ∀ j, mget j (msetL k (.bool true) m) = if addPg f k j = true then some (.bool true) else none := by
  intro j
  rw [mget_msetK]
  unfold addPg
  by_cases hj : j = k
  · subst hj; simp
  · rw [if_neg hj, h j, decide_eq_false hj, Bool.false_or]
theorem del_law {m : List (UInt32 × Value)} (h : ∀ k, mget k m = if f k = true then some (.bool true) else none) (hn : (m.map (·.1)).Nodup) (k : UInt32) : ∀ j, mget j (mdel k m) = if delPg f k j = true then some (.bool true) else none := by
  intro j
  rw [mget_mdelK _ _ _ hn]
  unfold delPg
  by_cases hj : j = k
  · subst hj; simp
  · rw [if_neg hj, h j, decide_eq_false hj, Bool.not_false, Bool.true_and]
end
theorem bitAt_set (l : List UInt8) (k j : Nat) (hk : k / 8 < l.length) : bitAt (l.set (k / 8) (l.getD (k / 8) 0 ||| shl8 1 (k % 8))) j = (decide (j = k) || bitAt l j) := by
  unfold bitAt
  by_cases hj : j / 8 = k / 8
  · rw [hj, List.getD_eq_getElem?_getD, List.getElem?_set_self hk, Option.getD_some, UInt8.toNat_or, Nat.testBit_or]
    have h1 : (shl8 1 (k % 8)).toNat = 2 ^ (k % 8) := by
      unfold shl8
      rw [UInt8.toNat_ofNat']
      have : ∀ q : Fin 8, (((1 : UInt8).toNat <<< q.1) % 2 ^ 8) = 2 ^ q.1 := by decide
      exact this ⟨k % 8, by omega⟩
    rw [h1, Nat.testBit_two_pow, Bool.or_comm]
    congr 1
    by_cases h2 : j = k
    · subst h2; simp
    · rw [decide_eq_false h2, decide_eq_false (by omega)]
  · rw [List.getD_eq_getElem?_getD, List.getElem?_set_ne (fun h => hj h.symm), ← List.getD_eq_getElem?_getD, decide_eq_false (fun h => hj (by rw [h])), Bool.false_or]
def orBit (c : UInt8) (k : Nat) : UInt8 := c ||| shl8 1 k
theorem bit_one (c : UInt8) (k : Nat) (hk : k < 8) : (shr8 c k &&& 1 = 1) ↔ c.toNat.testBit k = true := by
  have : ∀ (c : Fin 256) (k : Fin 8), (shr8 (UInt8.ofNat c.1) k.1 &&& 1 = 1) ↔ (UInt8.ofNat c.1).toNat.testBit k.1 = true := by decide +kernel
  have := this ⟨c.toNat, c.toNat_lt⟩ ⟨k, hk⟩
  rw [UInt8.ofNat_toNat] at this
  exact this
theorem bitAt_zero (k : Nat) : bitAt (List.replicate 50 0) k = false := by
  unfold bitAt
  have : (List.replicate 50 (0 : UInt8)).getD (k / 8) 0 = 0 := by
    rw [List.getD_eq_getElem?_getD, List.getElem?_replicate]; split <;> rfl
  rw [this]; simp
abbrev M50 := { l : List UInt8 // l.length = 50 }
instance : Flat M50 := ⟨50, fun s => encL s.1, fun s => by rw [encL_length, s.2]; rfl, fun s => encL_cell s.1⟩
def m50 (f : PgF) : M50 := ⟨marksL f, marksL_length f⟩
def supC (s : Sup) (u r : Nat) : List Value := [.int .u32 s.root.toNat, str s.txt, .map (some u), .map (some r), .int .u64 s.commit.toNat, .int .u32 s.epoch.toNat]
def supV (s : Sup) (u r : Nat) : Value := .agg (supC s u r).toArray
structure Sup.Ok (s : Sup) : Prop where
  txt : s.txt.length ≤ 200
  used : ∀ k, s.used k = true → k.toNat < 400
  written : ∀ k, s.written k = true → k.toNat < 400
theorem supC_cell (s : Sup) (u r : Nat) : ∀ q ∈ supC s u r, isCell q = true := by
  intro q hq
  simp only [supC, List.mem_cons, List.not_mem_nil, or_false] at hq
  rcases hq with rfl | rfl | rfl | rfl | rfl | rfl <;> rfl
theorem u32_of (n : Nat) : toU32 ((UInt64.ofNat n).toNat : Int) = UInt32.ofNat n := by
  rw [toU32_u64]
  apply UInt32.toNat_inj.1
  simp
theorem supC_of (b : List UInt8) (u r : Nat) : [.int .u32 (toU32 ((UInt64.ofNat (ofBe ((b.drop (8 + 4)).take 4))).toNat : Int)).toNat, str ((b.drop 18).take (txN b)), .map (some u), .map (some r), .int .u64 (UInt64.ofNat (ofBe (b.take 8))).toNat, .int .u32 (toU32 ((UInt64.ofNat (ofBe ((b.drop 8).take 4))).toNat : Int)).toNat] = supC (supOf b) u r := by
  rw [u32_of, u32_of]; rfl
theorem parsed_some {k b : List UInt8} (h : 150 + txN b ≤ b.length) (h2 : txN b ≤ 200) : parsedL k b = if (b.drop (118 + txN b)).take 32 = signL k (b.take (118 + txN b)) then some (supOf b) else none := by
  unfold parsedL
  rw [if_neg (by omega)]
end Go.Sac

namespace Go.Sac
open Go Go.Maps Go.Proofs Go.Shelf
theorem clone_map {κ : Type} [Key κ] {P : Program} {ρ : Ren} (L : SlLaysW.n5 P ρ) (w : World) (r : Nat) (m : List (κ × Value)) (hm : MapAt w r m) :
    Ret P (ρ.f 5) #[.map (some r)] w fun v w' => ∃ q, v = .map (some q) ∧ MapAt w' q m ∧ Chg [] w w' ∧ w.heap.size ≤ q := by
  obtain ⟨es, cl, hb, h⟩ := hm
  refine Calls.mono (AnyW.maps_Clone L r es cl w hb) ?_
  rintro e w' ⟨rfl, rfl⟩
  refine ⟨_, rfl, _, rfl, ⟨es, cl, ?_, h⟩, Chg.push w (.map es cl), Nat.le_refl _⟩
  exact pushB_at w (.map es cl)
theorem clone_set {P : Program} {ρ : Ren} (L : SlLaysW.n5 P ρ) (w : World) (r : Nat) (f : PgF) (hm : SetAt w r f) :
    Ret P (ρ.f 5) #[.map (some r)] w fun v w' => ∃ q, v = .map (some q) ∧ SetAt w' q f ∧ Chg [] w w' ∧ w.heap.size ≤ q := by
  obtain ⟨m, h1, h2⟩ := hm
  refine Calls.mono (clone_map L w r m h1) ?_
  rintro e w' ⟨v, rfl, q, rfl, h3, h4, h5⟩
  exact ⟨_, rfl, q, rfl, ⟨m, h3, h2⟩, h4, h5⟩
end Go.Sac

namespace Go.Sac
open Go
structure Pst where
  root : UInt32
  txt : List UInt8
  used : PgF
  written : PgF
structure Pg where
  now : Pst
  kept : Sup
  at_ : Nat
  count : UInt32
  gens : UInt32 → Option UInt64
  broken : Bool
def Pg.free (P : Pg) (i : UInt32) : Bool := !P.now.used i && !P.kept.used i
def Pg.fresh (P : Pg) (i : UInt32) : Bool := P.now.used i && !P.kept.used i
structure PR where
  pb : Nat
  u : Nat
  r : Nat
  ku : Nat
  kr : Nat
  g : Nat
def PF (R : PR) : List Nat := [R.pb, R.u, R.r, R.ku, R.kr, R.g]
def stC (s : Pst) (u r : Nat) : List Value := [.int .u32 s.root.toNat, str s.txt, .map (some u), .map (some r)]
def stV (s : Pst) (u r : Nat) : Value := .agg (stC s u r).toArray
def Sup.st (s : Sup) : Pst := ⟨s.root, s.txt, s.used, s.written⟩
theorem stC_cell (s : Pst) (u r : Nat) : ∀ q ∈ stC s u r, isCell q = true := by
  intro q hq
  simp only [stC, List.mem_cons, List.not_mem_nil, or_false] at hq
  rcases hq with rfl | rfl | rfl | rfl <;> rfl
def pgA (P : Pg) (R : PR) (b : Nat) : List Value := [.int .u32 P.now.root.toNat, str P.now.txt, .map (some R.u), .map (some R.r), .pointer (some ⟨b, 0, none⟩)]
def pgC (P : Pg) (R : PR) : List Value := [.int .u32 P.kept.root.toNat, str P.kept.txt, .map (some R.ku), .map (some R.kr), .int .u64 P.kept.commit.toNat, .int .u32 P.kept.epoch.toNat, .int .i64 P.at_, .int .u32 P.count.toNat, .map (some R.g), .bool P.broken]
def pgL (k pk : List UInt8) (A C : List Value) : List Value := A ++ (encL k ++ (encL pk ++ C))
def GenAt (w : World) (r : Nat) (f : UInt32 → Option UInt64) : Prop := ∃ m : List (UInt32 × Value), MapAt w r m ∧ ∀ k, mget k m = (f k).map fun x => Value.int .u64 x.toNat
def PagerAt (w : World) (R : PR) (b : Nat) (k : List UInt8) (P : Pg) : Prop :=
  Blk w R.pb (pgL k (deriveL k tPage 0) (pgA P R b) (pgC P R)) ∧ SetAt w R.u P.now.used ∧ SetAt w R.r P.now.written ∧ SetAt w R.ku P.kept.used ∧ SetAt w R.kr P.kept.written ∧ GenAt w R.g P.gens ∧ (PF R).Nodup
section
variable {k pk : List UInt8} {A A' C C' : List Value}
theorem encU (k : List UInt8) : (encL k).length = k.length := by rw [encL_length]; show k.length * 1 = _; omega
theorem pgL_length (hk : k.length = 32) (hp : pk.length = 32) (hA : A.length = 5) (hC : C.length = 10) : (pgL k pk A C).length = 79 := by
  unfold pgL
  simp only [List.length_append, encU]; omega
theorem pgL_a (hA : A.length = 5) (i : Nat) (hi : i < 5) {v : Value} (h : A[i]? = some v) : (pgL k pk A C)[i]? = some v := by
  unfold pgL; rw [List.getElem?_append_left (by omega)]; exact h
theorem pgL_c (hk : k.length = 32) (hp : pk.length = 32) (hA : A.length = 5) (i : Nat) {v : Value} (h : C[i]? = some v) : (pgL k pk A C)[69 + i]? = some v := by
  unfold pgL
  rw [List.getElem?_append_right (by omega), List.getElem?_append_right (by rw [encU]; omega), List.getElem?_append_right (by rw [encU, encU]; omega), encU, encU, ← h]
  congr 1; omega
theorem pgL_k (hk : k.length = 32) (hA : A.length = 5) : ((pgL k pk A C).drop 5).take (encL k).length = encL k := by
  unfold pgL; rw [List.drop_left' hA, List.take_left' rfl]
theorem pgL_pk (hk : k.length = 32) (hA : A.length = 5) : ((pgL k pk A C).drop 37).take (encL pk).length = encL pk := by
  unfold pgL
  rw [show 37 = 5 + 32 from rfl, ← List.drop_drop, List.drop_left' hA, List.drop_left' (by rw [encU]; exact hk), List.take_left' rfl]
theorem pgL_at (hk : k.length = 32) (hp : pk.length = 32) (hA : A.length = 5) : (pgL k pk A C).drop 69 = C := by
  unfold pgL
  rw [show 69 = 5 + (32 + 32) from rfl, ← List.drop_drop, List.drop_left' hA, ← List.drop_drop]
  have h1 : (encL k).length = 32 := by rw [encU]; exact hk
  have h2 : (encL pk).length = 32 := by rw [encU]; exact hp
  rw [List.drop_left' h1, List.drop_left' h2]
theorem pgL_splA (hA : A.length = 5) (i : Nat) (l : List Value) (hi : i + l.length ≤ 5) (h : spl A i l = A') : spl (pgL k pk A C) i l = pgL k pk A' C := by
  subst h
  unfold pgL spl
  rw [List.take_append_of_le_length (by omega), List.drop_append_of_le_length (by omega)]
  simp only [List.append_assoc]
theorem spl_right (X Y l : List Value) (n i : Nat) (hX : X.length = n) : spl (X ++ Y) (n + i) l = X ++ spl Y i l := by
  unfold spl
  rw [List.take_append, List.take_of_length_le (by omega), List.drop_append, List.drop_of_length_le (by omega), show n + i - X.length = i by omega, show n + i + l.length - X.length = i + l.length by omega]
  simp only [List.append_assoc, List.nil_append]
theorem pgL_splC (hk : k.length = 32) (hp : pk.length = 32) (hA : A.length = 5) (i : Nat) (l : List Value) (h : spl C i l = C') : spl (pgL k pk A C) (69 + i) l = pgL k pk A C' := by
  subst h
  unfold pgL
  rw [show 69 + i = 5 + (32 + (32 + i)) by omega, spl_right _ _ _ 5 _ hA, spl_right _ _ _ 32 _ (by rw [encU]; exact hk), spl_right _ _ _ 32 _ (by rw [encU]; exact hp)]
end
section
variable {w w' : World} {R : PR} {b : Nat} {k : List UInt8} {P : Pg}
theorem GenAt.mod {S : List Nat} {r : Nat} {f : UInt32 → Option UInt64} (h : GenAt w r f) (hm : Chg S w w') (hn : r ∉ S) : GenAt w' r f := by
  obtain ⟨m, h1, h2⟩ := h; exact ⟨m, h1.mod hm hn, h2⟩
theorem PagerAt.chg {S : List Nat} (h : PagerAt w R b k P) (hm : Chg S w w') (hn : ∀ x ∈ PF R, x ∉ S) : PagerAt w' R b k P := by
  obtain ⟨h1, h2, h3, h4, h5, h6, h7⟩ := h
  exact ⟨h1.chg hm (hn _ (by simp [PF])), h2.mod hm (hn _ (by simp [PF])), h3.mod hm (hn _ (by simp [PF])), h4.mod hm (hn _ (by simp [PF])), h5.mod hm (hn _ (by simp [PF])), h6.mod hm (hn _ (by simp [PF])), h7⟩
theorem PagerAt.chg0 (h : PagerAt w R b k P) (hm : Chg [] w w') : PagerAt w' R b k P := h.chg hm (by simp)
theorem PagerAt.lt (h : PagerAt w R b k P) : ∀ x ∈ PF R, x < w.heap.size := by
  obtain ⟨h1, h2, h3, h4, h5, h6, h7⟩ := h
  intro x hx
  simp only [PF, List.mem_cons, List.not_mem_nil, or_false] at hx
  obtain ⟨m, h6, _⟩ := h6
  rcases hx with rfl | rfl | rfl | rfl | rfl | rfl
  · exact h1.lt
  · exact h2.lt
  · exact h3.lt
  · exact h4.lt
  · exact h5.lt
  · exact h6.lt
theorem PagerAt.a (h : PagerAt w R b k P) (i : Nat) (hi : i < 5) {v : Value} (hv : (pgA P R b)[i]? = some v) : w.cell? ⟨R.pb, i, none⟩ = some v := h.1.c (pgL_a rfl i hi hv)
theorem PagerAt.c (h : PagerAt w R b k P) (hk : k.length = 32) (i : Nat) {v : Value} (hv : (pgC P R)[i]? = some v) : w.cell? ⟨R.pb, 69 + i, none⟩ = some v := h.1.c (pgL_c hk (deriveL_length _ _ _) rfl i hv)
theorem PagerAt.atK (h : PagerAt w R b k P) (hk : k.length = 32) : At w R.pb 5 (encL k) := h.1.at (pgL_k hk rfl)
theorem PagerAt.atP (h : PagerAt w R b k P) (hk : k.length = 32) : At w R.pb 37 (encL (deriveL k tPage 0)) := h.1.at (pgL_pk hk rfl)
end
section
variable {w w' : World} {R : PR} {b : Nat} {k : List UInt8} {P : Pg}
theorem PR.apart (h : (PF R).Nodup) : (R.pb ≠ R.u ∧ R.pb ≠ R.r ∧ R.pb ≠ R.ku ∧ R.pb ≠ R.kr ∧ R.pb ≠ R.g) ∧ (R.u ≠ R.r ∧ R.u ≠ R.ku ∧ R.u ≠ R.kr ∧ R.u ≠ R.g) ∧ (R.r ≠ R.ku ∧ R.r ≠ R.kr ∧ R.r ≠ R.g) ∧ (R.ku ≠ R.kr ∧ R.ku ≠ R.g) ∧ R.kr ≠ R.g := by
  simp only [PF, List.nodup_cons, List.mem_cons, List.not_mem_nil, or_false, not_or] at h
  obtain ⟨h1, h2, h3, h4, h5, _⟩ := h
  exact ⟨h1, h2, h3, h4, h5⟩
theorem PagerAt.updU {f : PgF} (h : PagerAt w R b k P) (hs : SetAt w' R.u f) (hc : Chg [R.u] w w') : PagerAt w' R b k { P with now := { P.now with used := f } } := by
  obtain ⟨h1, h2, h3, h4, h5, h6, h7⟩ := h
  obtain ⟨q1, q2, q3, q4, q5⟩ := PR.apart h7
  exact ⟨h1.nb hc q1.1, hs, h3.mod hc (by simpa using Ne.symm q2.1), h4.mod hc (by simpa using Ne.symm q2.2.1), h5.mod hc (by simpa using Ne.symm q2.2.2.1), h6.mod hc (by simpa using Ne.symm q2.2.2.2), h7⟩
theorem PagerAt.updW {f : PgF} (h : PagerAt w R b k P) (hs : SetAt w' R.r f) (hc : Chg [R.r] w w') : PagerAt w' R b k { P with now := { P.now with written := f } } := by
  obtain ⟨h1, h2, h3, h4, h5, h6, h7⟩ := h
  obtain ⟨q1, q2, q3, q4, q5⟩ := PR.apart h7
  exact ⟨h1.nb hc q1.2.1, h2.mod hc (by simpa using q2.1), hs, h4.mod hc (by simpa using Ne.symm q3.1), h5.mod hc (by simpa using Ne.symm q3.2.1), h6.mod hc (by simpa using Ne.symm q3.2.2), h7⟩
theorem PagerAt.updG {f : UInt32 → Option UInt64} (h : PagerAt w R b k P) (hs : GenAt w' R.g f) (hc : Chg [R.g] w w') : PagerAt w' R b k { P with gens := f } := by
  obtain ⟨h1, h2, h3, h4, h5, h6, h7⟩ := h
  obtain ⟨q1, q2, q3, q4, q5⟩ := PR.apart h7
  exact ⟨h1.nb hc q1.2.2.2.2, h2.mod hc (by simpa using q2.2.2.2), h3.mod hc (by simpa using q3.2.2), h4.mod hc (by simpa using q4.2), h5.mod hc (by simpa using q5), hs, h7⟩
theorem PagerAt.updC {P' : Pg} (h : PagerAt w R b k P) (hB : Blk w' R.pb (pgL k (deriveL k tPage 0) (pgA P' R b) (pgC P' R))) (hc : Chg [R.pb] w w') (h1 : P'.now.used = P.now.used) (h2 : P'.now.written = P.now.written) (h3 : P'.kept.used = P.kept.used) (h4 : P'.kept.written = P.kept.written) (h5 : P'.gens = P.gens) : PagerAt w' R b k P' := by
  obtain ⟨g1, g2, g3, g4, g5, g6, g7⟩ := h
  obtain ⟨q1, q2, q3, q4, q5⟩ := PR.apart g7
  refine ⟨hB, ?_, ?_, ?_, ?_, ?_, g7⟩
  · rw [h1]; exact g2.mod hc (by simpa using Ne.symm q1.1)
  · rw [h2]; exact g3.mod hc (by simpa using Ne.symm q1.2.1)
  · rw [h3]; exact g4.mod hc (by simpa using Ne.symm q1.2.2.1)
  · rw [h4]; exact g5.mod hc (by simpa using Ne.symm q1.2.2.2.1)
  · rw [h5]; exact g6.mod hc (by simpa using Ne.symm q1.2.2.2.2)
end
def roomN (P : Pg) (n : Nat) : Nat := ((List.range n).filter fun i => P.free (UInt32.ofNat i)).length
theorem roomN_succ (P : Pg) (n : Nat) : roomN P (n + 1) = roomN P n + (if P.free (UInt32.ofNat n) = true then 1 else 0) := by
  unfold roomN
  rw [List.range_succ, List.filter_append, List.length_append]
  congr 1
  by_cases h : P.free (UInt32.ofNat n) = true <;> simp [h]
theorem roomN_le (P : Pg) (n : Nat) : roomN P n ≤ n := by
  unfold roomN
  exact Nat.le_trans (List.length_filter_le _ _) (by simp)
def plainL (l : List UInt8) : List UInt8 := be 2 l.length ++ l ++ List.replicate (480 - l.length) 0
def pageB (pk : List UInt8) (i g : Nat) (l : List UInt8) : List UInt8 := be 8 g ++ sealL pk (nonceL i g) tPage (plainL l) ++ List.replicate 6 0
theorem plainL_length (l : List UInt8) (h : l.length ≤ 480) : (plainL l).length = 482 := by simp [plainL, be_length]; omega
theorem pageB_length (pk : List UInt8) (i g : Nat) (l : List UInt8) (h : l.length ≤ 480) : (pageB pk i g l).length = 512 := by
  unfold pageB
  simp only [List.length_append, sealL_length, be_length, plainL_length l h, List.length_replicate]
def Pg.gen (P : Pg) : UInt64 := shl64 (toU64 (P.kept.epoch.toNat : Int)) 32 ||| toU64 (P.count.toNat : Int)
def setG (f : UInt32 → Option UInt64) (i : UInt32) (g : UInt64) : UInt32 → Option UInt64 := fun j => if j = i then some g else f j
theorem gen_law {f : UInt32 → Option UInt64} {m : List (UInt32 × Value)} (h : ∀ k, mget k m = (f k).map fun x => Value.int .u64 x.toNat) (i : UInt32) (g : UInt64) : ∀ k, mget k (msetL i (.int .u64 g.toNat) m) = (setG f i g k).map fun x => Value.int .u64 x.toNat := by
  intro k
  rw [mget_msetK]
  unfold setG
  by_cases hk : k = i
  · rw [if_pos hk, if_pos hk]; rfl
  · rw [if_neg hk, if_neg hk]; exact h k
theorem spl_in {α : Type} (a b c m : List α) (hb : b.length = m.length) {k : Nat} (hk : a.length = k) : spl (a ++ b ++ c) k m = a ++ m ++ c := by
  subst hk
  unfold spl
  have e : a ++ b ++ c = a ++ (b ++ c) := List.append_assoc _ _ _
  rw [e, List.take_left' rfl, ← List.drop_drop, List.drop_left' rfl, List.drop_left' hb]
theorem plain_spl (l : List UInt8) (h : l.length ≤ 480) : spl (be 2 l.length ++ List.replicate (482 - 2) (0 : UInt8)) 2 l = plainL l := by
  have h2 : List.replicate (482 - 2) (0 : UInt8) = List.replicate l.length 0 ++ List.replicate (480 - l.length) 0 := by
    rw [List.replicate_append_replicate]; congr 1; omega
  rw [h2, ← List.append_assoc]
  exact spl_in _ _ _ _ (by simp) (be_length _ _)
theorem page_spl (g : Nat) (s : List UInt8) (h : s.length = 498) : spl (be 8 g ++ List.replicate (512 - 8) (0 : UInt8)) 8 s = be 8 g ++ s ++ List.replicate 6 0 := by
  have h2 : List.replicate (512 - 8) (0 : UInt8) = List.replicate 498 0 ++ List.replicate 6 0 := by
    rw [List.replicate_append_replicate]
  rw [h2, ← List.append_assoc]
  exact spl_in _ _ _ _ (by rw [h, List.length_replicate]) (be_length _ _)
theorem gen_look {f : UInt32 → Option UInt64} {m : List (UInt32 × Value)} (h : ∀ k, mget k m = (f k).map fun x => Value.int .u64 x.toNat) (i : UInt32) : (mget i m).getD (.int .u64 0) = .int .u64 ((f i).getD 0).toNat := by
  rw [h i]
  cases f i with
  | none => simp
  | some x => simp
theorem spl_left (X Y l : List Value) (h : l.length = X.length) : spl (X ++ Y) 0 l = l ++ Y := by
  unfold spl
  rw [List.take_zero, List.nil_append, Nat.zero_add, h, List.drop_left' rfl]
theorem pgL_splK {z k pk : List UInt8} {A C : List Value} (hz : z.length = 32) (hk : k.length = 32) (hA : A.length = 5) : spl (pgL z pk A C) 5 (encL k) = pgL k pk A C := by
  unfold pgL
  rw [show 5 = 5 + 0 from rfl, spl_right _ _ _ 5 _ hA, spl_left _ _ _ (by rw [encU, encU, hz, hk])]
theorem pgL_splP {z k pk : List UInt8} {A C : List Value} (hk : k.length = 32) (hz : z.length = 32) (hp : pk.length = 32) (hA : A.length = 5) : spl (pgL k z A C) 37 (encL pk) = pgL k pk A C := by
  unfold pgL
  rw [show 37 = 5 + (32 + 0) from rfl, spl_right _ _ _ 5 _ hA, spl_right _ _ _ 32 _ (by rw [encU]; exact hk), spl_left _ _ _ (by rw [encU, encU, hz, hp])]
theorem fill2 {place : Nat → Option (Nat × Nat)} {cs cs' l : List Value} {i off size : Nat} {v : Value} {rest : List (Nat × Value)} {r : Option (Array Value)} (hp : place i = some (off, size)) (hv : v.cells.toList = l) (hl : l.length = size) (ho : off + size ≤ cs.length) (hs : spl cs off l = cs')
    (h : Instr.fill place cs'.toArray rest = r) : Instr.fill place cs.toArray ((i, v) :: rest) = r := by
  subst hs
  exact fill1 hp hv hl ho h
def z32 : List UInt8 := List.replicate 32 0
def pgA0 : List Value := [.int .u32 0, str [], .map none, .map none, .pointer none]
def pgC0 : List Value := [.int .u32 0, str [], .map none, .map none, .int .u64 0, .int .u32 0, .int .i64 0, .int .u32 0, .map none, .bool false]
theorem pager_fill {place : Nat → Option (Nat × Nat)} {k pk : List UInt8} (hk : k.length = 32) (hpk : pk.length = 32) (s : Sup) (st : Pst) (b u' r' u rr g a : Nat) (h0 : place 0 = some (0, 4)) (h1 : place 1 = some (4, 1)) (h2 : place 2 = some (5, 32)) (h3 : place 3 = some (37, 32)) (h4 : place 4 = some (69, 6)) (h5 : place 5 = some (75, 1)) (h7 : place 7 = some (77, 1)) :
    Instr.fill place (pgL z32 z32 pgA0 pgC0).toArray [(0, stV st u' r'), (1, .pointer (some ⟨b, 0, none⟩)), (2, arrV k), (3, arrV pk), (4, supV s u rr), (5, .int .i64 a), (7, .map (some g))] =
      some (pgL k pk (pgA ⟨st, s, a, 0, fun _ => none, false⟩ ⟨0, u', r', u, rr, g⟩ b) (pgC ⟨st, s, a, 0, fun _ => none, false⟩ ⟨0, u', r', u, rr, g⟩)).toArray := by
  have hz : z32.length = 32 := rfl
  refine fill2 (l := stC st u' r') h0 rfl rfl (by rw [pgL_length hz hz rfl rfl]; omega) (pgL_splA rfl 0 (stC st u' r') (Nat.le_of_ble_eq_true rfl) rfl) ?_
  refine fill2 (l := [.pointer (some ⟨b, 0, none⟩)]) h1 rfl rfl (by rw [pgL_length hz hz rfl rfl]; omega) (pgL_splA rfl 4 [.pointer (some ⟨b, 0, none⟩)] (Nat.le_of_ble_eq_true rfl) rfl) ?_
  refine fill2 (l := encL k) h2 rfl (by rw [encU]; exact hk) (by rw [pgL_length hz hz rfl rfl]; omega) (pgL_splK hz hk rfl) ?_
  refine fill2 (l := encL pk) h3 rfl (by rw [encU]; exact hpk) (by rw [pgL_length hk hz rfl rfl]; omega) (pgL_splP hk hz hpk rfl) ?_
  refine fill2 (l := supC s u rr) h4 rfl rfl (by rw [pgL_length hk hpk rfl rfl]; omega) (pgL_splC hk hpk rfl 0 (supC s u rr) rfl) ?_
  refine fill2 (l := [.int .i64 a]) h5 rfl rfl (by rw [pgL_length hk hpk rfl rfl]; omega) (pgL_splC hk hpk rfl 6 [.int .i64 a] rfl) ?_
  refine fill2 (l := [.map (some g)]) h7 rfl rfl (by rw [pgL_length hk hpk rfl rfl]; omega) (pgL_splC hk hpk rfl 8 [.map (some g)] rfl) ?_
  exact fill0 rfl
end Go.Sac

namespace Go.Sac
open Go
theorem writes_bnd {ds : DSt} (i : Int) (l : List UInt8) (hf : ds.Fine) (h : ds.steps + (l.length + 63) / 64 ≤ 1000000000000) : (ds.writes i l).1.Fine ∧ (ds.writes i l).1.steps ≤ ds.steps + (l.length + 63) / 64 ∧ (ds.writes i l).1.kept = ds.kept := DSt.wr_bnd _ ds i l hf h
theorem laysD_bnd (k : List UInt8) (ds : DSt) (a : Nat) (s : Sup) (hf : ds.Fine) (ht : s.txt.length ≤ 200) (h : ds.steps + 20 ≤ 1000000000000) :
    (laysD k ds a s).1.Fine ∧ (laysD k ds a s).1.steps ≤ ds.steps + 8 ∧ (laysD k ds a s).1.kept.length = ds.kept.length := by
  have hl : (frameL (superB k s) s.commit).length = 64 * ((150 + s.txt.length + 55) / 56) := by rw [frameL_length, superB_length]
  obtain ⟨h1, h2, h3⟩ := writes_bnd ((a : Int) * 16) (frameL (superB k s) s.commit) hf (by omega)
  unfold laysD
  split
  · have h4 := DSt.flush_steps (ds.writes ((a : Int) * 16) (frameL (superB k s) s.commit)).1
    exact ⟨h1.flush (by omega), by omega, by rw [DSt.flush_len, h3]⟩
  · exact ⟨h1, by omega, by rw [h3]⟩
theorem flush_off (ds : DSt) (h : ds.flush.2 = 0) : ds.flush.1.off = false := by
  unfold DSt.flush at h ⊢
  by_cases hq : ds.step.off = true
  · rw [if_pos hq] at h; exact absurd h (show ¬ (61 : Int) = 0 by decide)
  · rw [if_neg hq]
    have : ds.step.off = false := by simpa using hq
    exact this
theorem laysD_off (k : List UInt8) (ds : DSt) (a : Nat) (s : Sup) (h : (laysD k ds a s).2 = 0) : (laysD k ds a s).1.off = false := by
  unfold laysD at h ⊢
  split at h
  · rename_i h0
    rw [if_pos h0]
    exact flush_off _ h
  · rename_i h0
    exact absurd h h0
theorem parsedL_ok {k b : List UInt8} {s : Sup} (h : parsedL k b = some s) : s.Ok := by
  unfold parsedL at h
  split at h
  · cases h
  · rename_i h0
    split at h
    · cases h
      refine ⟨?_, fun i hi => pagesF_lt hi, fun i hi => pagesF_lt hi⟩
      show ((b.drop 18).take (txN b)).length ≤ 200
      rw [List.length_take]; omega
    · cases h
theorem newest_some {k : List UInt8} {ds : DSt} {s : Sup} {a : Nat} (h : newest k ds = some (s, a)) : a ≤ 1 ∧ parsedL k (unfrL (regS ds a)) = some s := by
  have h0 : ∀ (o : Option (Sup × Nat)) (i : Nat), newStep k ds o i = o ∨ ∃ s, newStep k ds o i = some (s, i) ∧ parsedL k (unfrL (regS ds i)) = some s := by
    intro o i
    unfold newStep
    split
    · exact .inl rfl
    · rename_i s0 hs0
      split
      · exact .inr ⟨_, rfl, hs0⟩
      · split
        · exact .inr ⟨_, rfl, hs0⟩
        · exact .inl rfl
  unfold newest at h
  rcases h0 (newStep k ds none 0) 1 with h1 | ⟨s1, h1, h2⟩
  · rw [h1] at h
    rcases h0 none 0 with h3 | ⟨s3, h3, h4⟩
    · rw [h3] at h; cases h
    · rw [h3] at h; cases h; exact ⟨by omega, h4⟩
  · rw [h1] at h; cases h; exact ⟨by omega, h2⟩
theorem newest_none {k : List UInt8} {ds : DSt} (h : atOf (newest k ds) < 0) : newest k ds = none := by
  cases hn : newest k ds with
  | none => rfl
  | some p => obtain ⟨s, a⟩ := p; rw [hn] at h; exact absurd h (by show ¬ ((a : Int) < 0); omega)
theorem newest_is {k : List UInt8} {ds : DSt} (h : ¬ atOf (newest k ds) < 0) : ∃ s a, newest k ds = some (s, a) ∧ atOf (newest k ds) = (a : Int) := by
  cases hn : newest k ds with
  | none => rw [hn] at h; exact absurd (by show (-1 : Int) < 0; omega) h
  | some p => obtain ⟨s, a⟩ := p; exact ⟨s, a, rfl, rfl⟩
def openP (pk : List UInt8) (i : Nat) (t : List UInt8) : Option (List UInt8) :=
  if fitsL pk (nonceL i (UInt64.ofNat (ofBe (t.take 8))).toNat) tPage ((t.drop 8).take 498) then
    some (((crossK pk (nonceL i (UInt64.ofNat (ofBe (t.take 8))).toNat) ((t.drop 8).take 482)).drop 2).take (min (ofBe ((crossK pk (nonceL i (UInt64.ofNat (ofBe (t.take 8))).toNat) ((t.drop 8).take 482)).take 2)) 480))
  else none
def genD (ds : DSt) (i : UInt32) : UInt64 := UInt64.ofNat (ofBe ((ds.reads (32 + (i.toNat : Int) * 8) 1).take 8))
def comS (P : Pg) (root : UInt32) (txt : List UInt8) : Sup := ⟨root, txt, P.now.used, P.now.written, P.kept.commit + 1, P.kept.epoch⟩
theorem newest_at (k : List UInt8) (ds : DSt) : atOf (newest k ds) = -1 ∨ atOf (newest k ds) = 0 ∨ atOf (newest k ds) = 1 := by
  have h0 : ∀ (o : Option (Sup × Nat)) (i : Nat), newStep k ds o i = o ∨ ∃ s, newStep k ds o i = some (s, i) := by
    intro o i
    unfold newStep
    split
    · exact .inl rfl
    · split
      · exact .inr ⟨_, rfl⟩
      · split
        · exact .inr ⟨_, rfl⟩
        · exact .inl rfl
  unfold newest
  rcases h0 (newStep k ds none 0) 1 with h | ⟨s, h⟩
  · rw [h]
    rcases h0 none 0 with h | ⟨s, h⟩
    · rw [h]; exact .inl rfl
    · rw [h]; exact .inr (.inl rfl)
  · rw [h]; exact .inr (.inr rfl)
def fmtS (k : List UInt8) (ds : DSt) (i : Nat) : Sup := ⟨0, [], noPg, noPg, newNext k ds + toU64 (i : Int), epOf (newest k ds) + 1⟩
def fmtA (k : List UInt8) (ds : DSt) (i : Nat) : Nat := ((atOf (newest k ds) + 1 + i) % 2).toNat
def fmtD (k : List UInt8) (ds : DSt) : Nat → DSt × Int
  | 0 => (ds, 0)
  | i + 1 => laysD k (fmtD k ds i).1 (fmtA k ds i) (fmtS k ds i)
theorem fmtA_le (k : List UInt8) (ds : DSt) (i : Nat) : fmtA k ds i ≤ 1 := by unfold fmtA; omega
theorem fmtS0_fill (k : List UInt8) (ds : DSt) (u r : Nat) {ep : UInt32} (h : ep = epOf (newest k ds)) : supC (fmtS k ds 0) u r = [.int .u32 0, str [], .map (some u), .map (some r), .int .u64 (newNext k ds).toNat, .int .u32 (ep + 1).toNat] := by
  have h0 : newNext k ds + toU64 ((0 : Nat) : Int) = newNext k ds := by rw [toU64_nat]; exact UInt64.add_zero _
  subst h
  show [Value.int .u32 0, str [], .map (some u), .map (some r), .int .u64 (newNext k ds + toU64 ((0 : Nat) : Int)).toNat, .int .u32 (epOf (newest k ds) + 1).toNat] = _
  rw [h0]
theorem fmtD_bnd (k : List UInt8) (ds : DSt) (hf : ds.Fine) (h : ds.steps + 60 ≤ 1000000000000) : ∀ i, i ≤ 3 → (fmtD k ds i).1.Fine ∧ (fmtD k ds i).1.steps ≤ ds.steps + 8 * i ∧ (fmtD k ds i).1.kept.length = ds.kept.length
  | 0, _ => ⟨hf, Nat.le_refl _, rfl⟩
  | i + 1, hi => by
    obtain ⟨h1, h2, h3⟩ := fmtD_bnd k ds hf h i (by omega)
    obtain ⟨q1, q2, q3⟩ := laysD_bnd k (fmtD k ds i).1 (fmtA k ds i) (fmtS k ds i) h1 (by show 0 ≤ 200; omega) (by omega)
    exact ⟨q1, by show (laysD k (fmtD k ds i).1 (fmtA k ds i) (fmtS k ds i)).1.steps ≤ _; omega, by show (laysD k (fmtD k ds i).1 (fmtA k ds i) (fmtS k ds i)).1.kept.length = _; rw [q3, h3]⟩
theorem fmtS_ok (k : List UInt8) (ds : DSt) (i : Nat) : (fmtS k ds i).Ok := ⟨by show 0 ≤ 200; omega, fun _ h => Bool.noConfusion h, fun _ h => Bool.noConfusion h⟩
def opS (k : List UInt8) (ds : DSt) (s : Sup) : Sup := { s with commit := newNext k ds, epoch := s.epoch + 1 }
end Go.Sac

namespace Go.Sac
open Go
section
variable {κ : Type} [Key κ] [DecidableEq κ]
def EntAt (w : World) (r : Nat) (m : List (κ × Value)) (k : κ) (born : Nat) : Prop :=
  ∃ es cl i, w.heap[r]? = some (.map es cl) ∧ es.findIdx? (fun e => (e.born : Int) == (born : Int)) = some i ∧
    ∀ v, ∀ w2 : World, w2.heap[r]? = some (.map (es.modify i fun e => { e with val := v }) cl) → MapAt w2 r (msetL k v m)
theorem EntAt.mod {S : List Nat} {w w' : World} {r : Nat} {m : List (κ × Value)} {k : κ} {born : Nat} (h : EntAt w r m k born) (hm : Chg S w w') (hn : r ∉ S) : EntAt w' r m k born := by
  obtain ⟨es, cl, i, h1, h2⟩ := h
  exact ⟨es, cl, i, hm.blk h1 hn, h2⟩
variable {P : Program} {E : Env} {w : World} {ty t : TypeId} {x y z : Operand}
theorem e_mapEntry : exec P E (.mapEntry t x y) ty w = (valN (Instr.mapEntry t (ev E x) (ev E y))).run P w := rfl
theorem e_entryStore : exec P E (.entryStore t x y z) ty w = (uniN (Instr.entryStore t (ev E x) (ev E y) (ev E z))).run P w := rfl
theorem find_born {es : List MapEntry} (hn : (es.map (·.born)).Nodup) {i : Nat} {e : MapEntry} (he : es[i]? = some e) : es.findIdx? (fun x => (x.born : Int) == (e.born : Int)) = some i := by
  rw [List.findIdx?_eq_some_iff_getElem]
  have hi := (List.getElem?_eq_some_iff.1 he).1
  have hv := (List.getElem?_eq_some_iff.1 he).2
  refine ⟨hi, by rw [hv]; simp, fun j hj hb => ?_⟩
  have hj' : j < es.length := by omega
  simp only [beq_iff_eq] at hb
  have h1 := (List.pairwise_iff_getElem.1 hn) j i (by simpa using hj') (by simpa using hi) hj
  simp only [List.getElem_map, hv] at h1
  omega
theorem findIdx_list (a : Array MapEntry) (p : MapEntry → Bool) : a.findIdx? p = a.toList.findIdx? p := by
  obtain ⟨l⟩ := a
  simp
theorem x_mapEntry {kt vt : TypeId} {nf : TypeInfo} {zv : Value} {r : Nat} {k : κ} {m : List (κ × Value)} (ht : P.underlying t = some (.map kt vt)) (hk : KeyOk P kt κ) (hi : P.info? vt = some nf) (hz : nf.zero = some zv) (hx : ev E x = .map (some r)) (hy : ev E y = Key.enc k) (hm : MapAt w r m) :
    ∃ v w', exec P E (.mapEntry t x y) ty w = .ok (.value v) w' ∧ ∃ born u, v = .tuple #[u, .int .i64 (born : Nat)] ∧ EntAt w' r m k born ∧ Chg [r] w w' ∧ w'.heap.size = w.heap.size := by
  obtain ⟨es, cl, hb, he, hn, hbn, hcl⟩ := hm
  have hg : (getObj r).run P w = .ok (.map es cl) w := by
    show Sem.run P (.getObj r .pure) w = _
    simp only [Sem.run, hb]
  have hset := fun v => findIn_set k v es.toList m 0 he
  have key : ∃ u born o, (Instr.mapEntry t (.map (some r)) (Key.enc k)).run P w = .ok (.tuple #[u, .int .i64 (born : Nat)]) (w.setB r o) ∧ EntAt (w.setB r o) r m k born := by
    unfold Instr.mapEntry
    rw [run_bind (run_underlying ht w)]
    simp only []
    rw [run_bind hg]
    simp only []
    rw [run_bind (hk.chk _ k w), run_bind (hk.fnd k es.toList _ w (keys_of he))]
    cases hf : findIn k es.toList (m.map (·.1)) 0 with
    | none =>
      simp only [hf] at hset ⊢
      rw [run_bind (run_zeroValue hi hz w), run_bind (run_setObj hb)]
      refine ⟨zv, cl, _, rfl, ?_⟩
      have hnb : (((es.push { key := Key.enc k, val := zv, born := cl }).toList).map (·.born)).Nodup := by
        simp only [Array.toList_push, List.map_append, List.map_cons, List.map_nil]
        refine List.nodup_append.2 ⟨hbn, by simp, ?_⟩
        intro a ha b hb'
        simp only [List.mem_singleton] at hb'
        obtain ⟨e, he', rfl⟩ := List.mem_map.1 ha
        have := hcl e he'
        omega
      refine ⟨_, _, es.size, setB_at (lt_of_blk hb), ?_, fun v w2 hw2 => ⟨_, _, hw2, ?_, ?_, ?_, ?_⟩⟩
      · rw [findIdx_list]
        exact find_born hnb (e := { key := Key.enc k, val := zv, born := cl }) (by simp)
      · have hl : ((es.push { key := Key.enc k, val := zv, born := cl }).modify es.size fun e => { e with val := v }).toList = es.toList ++ [{ key := Key.enc k, val := v, born := cl }] := by
          rw [Array.toList_modify, Array.toList_push]
          apply List.ext_getElem?
          intro i
          rw [List.getElem?_modify]
          by_cases hi' : es.size = i
          · subst hi'; simp
          · simp only [hi', if_false, List.getElem?_append, Array.length_toList]
            by_cases hlt : i < es.size
            · simp [hlt]
            · obtain ⟨d, hd⟩ : ∃ d, i - es.size = d + 1 := ⟨i - es.size - 1, by omega⟩
              simp [hlt, hd]
        rw [hl, (hset v).2.1]
        simp [he]
      · rw [(hset v).2.1]; simp only [List.map_append, List.map_cons, List.map_nil]
        exact List.nodup_append.2 ⟨hn, by simp, by simpa using fun a b hab => by intro hh; subst hh; exact (hset v).1 (List.mem_map.2 ⟨_, hab, rfl⟩)⟩
      · have : (((es.push { key := Key.enc k, val := zv, born := cl }).modify es.size fun e => { e with val := v }).toList.map (·.born)) = ((es.push { key := Key.enc k, val := zv, born := cl }).toList).map (·.born) := by
          rw [Array.toList_modify]
          apply List.ext_getElem?
          intro i
          simp only [List.getElem?_map, List.getElem?_modify]
          split
          · cases (es.push { key := Key.enc k, val := zv, born := cl }).toList[i]? <;> rfl
          · cases (es.push { key := Key.enc k, val := zv, born := cl }).toList[i]? <;> rfl
        rw [this]; exact hnb
      · intro e he'
        rw [Array.toList_modify] at he'
        obtain ⟨i, hi'⟩ := List.mem_iff_getElem?.1 he'
        rw [List.getElem?_modify] at hi'
        cases hh : (es.push { key := Key.enc k, val := zv, born := cl }).toList[i]? with
        | none => rw [hh] at hi'; simp at hi'
        | some e0 =>
          rw [hh] at hi'
          have h0 : e0.born < cl + 1 := by
            have hmem := List.mem_of_getElem? hh
            simp only [Array.toList_push, List.mem_append, List.mem_singleton] at hmem
            rcases hmem with h | rfl
            · have := hcl e0 h; omega
            · simp
          by_cases hij : es.size = i
          · simp [hij] at hi'; subst hi'; exact h0
          · simp [hij] at hi'; subst hi'; exact h0
    | some q =>
      obtain ⟨j, v'⟩ := q
      simp only [hf, Nat.sub_zero] at hset ⊢
      obtain ⟨_, h2, _, _, h5, _⟩ := hset v'
      have hjs : j < es.toList.length := h2
      have hej : es.toList[j]? = some es.toList[j] := List.getElem?_eq_getElem hjs
      have hej' : es[j]? = some es.toList[j] := by rw [← hej]; simp
      have hkj : (es.toList[j]).key = Key.enc k := by rw [hej] at h5; simpa using h5
      have hkey : ((es[j]?).map (·.key)).getD (Key.enc k) = Key.enc k := by rw [hej']; exact hkj
      rw [hkey]
      have hst : (Instr.keyThatStays (Key.enc k) (Key.enc k)).run P w = .ok (Key.enc k) w := by
        unfold Instr.keyThatStays
        rw [if_pos (Key.bits k)]; rfl
      rw [run_bind hst, run_bind (run_setObj hb)]
      have hbo : ((es[j]?).map (fun x => (x.born : Int))).getD 0 = ((es.toList[j]).born : Int) := by rw [hej']; rfl
      rw [hbo]
      refine ⟨v', (es.toList[j]).born, _, rfl, ?_⟩
      have hme : es.modify j (fun e => { e with key := Key.enc k }) = es := by
        apply Array.ext'
        rw [Array.toList_modify]
        apply List.ext_getElem?
        intro i
        rw [List.getElem?_modify]
        by_cases hij : j = i
        · subst hij; rw [hej]; simp [← hkj]
        · simp [hij]
      rw [hme]
      refine ⟨_, _, j, setB_at (lt_of_blk hb), ?_, fun v w2 hw2 => ⟨_, _, hw2, ?_, ?_, ?_, ?_⟩⟩
      · rw [findIdx_list]
        exact find_born hbn hej
      · obtain ⟨_, _, h3, _, _, _⟩ := hset v
        rw [← h3, Array.toList_modify]
        congr 1
        apply List.ext_getElem?
        intro i
        simp only [List.getElem?_modify]
        by_cases hij : j = i
        · subst hij; rw [hej]; simp [← hkj]
        · simp [hij]
      · obtain ⟨_, _, _, h4, _, _⟩ := hset v
        rw [h4]; exact hn
      · have : ((es.modify j fun e => { e with val := v }).toList.map (·.born)) = es.toList.map (·.born) := by
          rw [Array.toList_modify]
          apply List.ext_getElem?
          intro i
          simp only [List.getElem?_map, List.getElem?_modify]
          split
          · cases es.toList[i]? <;> rfl
          · cases es.toList[i]? <;> rfl
        rw [this]; exact hbn
      · intro e he'
        rw [Array.toList_modify] at he'
        obtain ⟨i, hi'⟩ := List.mem_iff_getElem?.1 he'
        rw [List.getElem?_modify] at hi'
        cases hh : es.toList[i]? with
        | none => rw [hh] at hi'; simp at hi'
        | some e0 =>
          rw [hh] at hi'
          have := hcl e0 (List.mem_of_getElem? hh)
          by_cases hij : j = i
          · subst hij; simp at hi'; subst hi'; exact this
          · simp [hij] at hi'; subst hi'; exact this
  obtain ⟨u, born, o, h1, h2⟩ := key
  refine ⟨_, _, ?_, born, u, rfl, h2, Chg.set _ _ _, setB_size _ _ _⟩
  rw [e_mapEntry, hx, hy]
  exact run_valN h1
theorem x_entryStore {r : Nat} {k : κ} {v : Value} {m : List (κ × Value)} {born : Nat} (hx : ev E x = .map (some r)) (hy : ev E y = .int .i64 born) (hv : ev E z = v) (hm : EntAt w r m k born) :
    ∃ w', exec P E (.entryStore t x y z) ty w = .ok .skip w' ∧ MapAt w' r (msetL k v m) ∧ Chg [r] w w' ∧ w'.heap.size = w.heap.size := by
  obtain ⟨es, cl, i, hb, hf, hs⟩ := hm
  have hg : (getObj r).run P w = .ok (.map es cl) w := by
    show Sem.run P (.getObj r .pure) w = _
    simp only [Sem.run, hb]
  refine ⟨w.setB r (.map (es.modify i fun e => { e with val := v }) cl), ?_, hs v _ (setB_at (lt_of_blk hb)), Chg.set _ _ _, setB_size _ _ _⟩
  rw [e_entryStore, hx, hy, hv]
  have key : (Instr.entryStore t (.map (some r)) (.int .i64 born) v).run P w = .ok () (w.setB r (.map (es.modify i fun e => { e with val := v }) cl)) := by
    unfold Instr.entryStore
    simp only []
    rw [run_bind hg]
    simp only []
    have ha : (asInt (.int .i64 (born : Int))).run P w = .ok (born : Int) w := rfl
    rw [run_bind ha]
    simp only [hf]
    exact run_setObj hb
  exact run_uniN key
end
end Go.Sac

namespace Go.Sac
open Go
def SlE {α : Type} [Flat α] (w : World) (v : Value) (l : List α) : Prop := Sl w v l ∨ (l = [] ∧ ∃ p c, v = .slice p 0 c)
section
variable {α : Type} [Flat α] {P : Program} {E : Env} {w w' : World} {v : Value} {l : List α} {S : List Nat} {ty t u : TypeId} {x : Operand}
theorem SlE.form (h : SlE w v l) : ∃ p c, v = .slice p l.length c := by
  rcases h with h | ⟨rfl, p, c, rfl⟩
  · exact h.form rfl
  · exact ⟨p, c, rfl⟩
theorem SlE.mod (h : SlE w v l) (hm : Chg S w w') (hn : l ≠ [] → ∀ b ∈ blkOf v, b ∉ S) : SlE w' v l := by
  by_cases hl : l = []
  · subst hl
    obtain ⟨p, c, rfl⟩ := h.form
    exact .inr ⟨rfl, p, c, rfl⟩
  · rcases h with h | ⟨h, _⟩
    · exact .inl (h.mod hm (hn hl))
    · exact absurd h hl
theorem SlE.mod0 (h : SlE w v l) (hm : Chg [] w w') : SlE w' v l := h.mod hm (fun _ _ _ => by simp)
theorem SlE.lt (h : SlE w v l) (hl : l ≠ []) : ∀ b ∈ blkOf v, b < w.heap.size := by
  rcases h with h | ⟨h, _⟩
  · exact h.lt
  · exact absurd h hl
theorem SlE.src (h : SlE w v l) : Src α P w v l := by
  rcases h with h | ⟨rfl, p, c, rfl⟩
  · exact h.src
  · refine ⟨rfl, fun w' _ n hn => ?_⟩
    obtain rfl : n = 0 := by simpa using hn
    cases p with
    | none => rfl
    | some a =>
      show (loadCells a (0 * Flat.sz α)).run P w' = _
      rw [Nat.zero_mul]
      rfl
end
theorem x_b2sE {P : Program} {E : Env} {w : World} {ty t u : TypeId} {x : Operand} {e : TypeId} {v : Value} {l : List UInt8} (ht : P.underlying t = some (.slice e)) (he : P.underlying e = some (.int .u8)) (hu : P.underlying u = some .string) (hs : SlE w v l) (hx : ev E x = v) :
    exec P E (.convert t u x) ty w = .ok (.value (str l)) w := by
  rcases hs with hs | ⟨rfl, p, c, rfl⟩
  · exact x_b2s ht he hu hs hx
  · rw [e_conv, hx]
    refine run_valN ?_
    rw [run_convert_bytes_string w t u e p 0 c ht he hu]
    cases p with
    | none => rfl
    | some a => rfl
end Go.Sac

namespace Go.Sac
open Go
def chS (l : List UInt8) (q : Nat) : Sec := DSt.putS sec0 ((l.drop (64 * q)).take 64)
theorem putS_any (c c' : Sec) (l : List UInt8) (h : l.length = 64) : DSt.putS c l = DSt.putS c' l := by
  apply Subtype.ext
  rw [putS_eq _ _ (by omega), putS_eq _ _ (by omega), List.drop_of_length_le (by rw [c.2]; omega), List.drop_of_length_le (by rw [c'.2]; omega)]
theorem chS_val (l : List UInt8) (q n : Nat) (h : l.length = 64 * n) (hq : q < n) : (chS l q).1 = (l.drop (64 * q)).take 64 := by
  have hl : ((l.drop (64 * q)).take 64).length = 64 := by rw [List.length_take, List.length_drop]; omega
  unfold chS
  rw [putS_eq _ _ (by omega), hl, show sec0.1.drop 64 = [] from List.drop_of_length_le (by rw [sec0.2]; omega), List.append_nil]
theorem chS_drop (l : List UInt8) (q : Nat) : chS (l.drop 64) q = chS l (q + 1) := by
  unfold chS
  rw [List.drop_drop, show 64 + 64 * q = 64 * (q + 1) by omega]
structure Put (s s' : DSt) (i : Int) (l : List UInt8) (m : Nat) : Prop where
  kept : s'.kept = s.kept
  offAt : s'.offAt = s.offAt
  pend : ∀ j, mget j s'.pend = if i ≤ j ∧ j < i + m then some (chS l (j - i).toNat) else mget j s.pend
theorem wr_put (n : Nat) : ∀ (s : DSt) (i : Int) (l : List UInt8), l.length = 64 * n → 0 ≤ i → i + n ≤ s.kept.length →
    ∃ m, m ≤ n ∧ Put s (DSt.wr n s i l).1 i l m ∧ (((DSt.wr n s i l).2 = 0 ∧ m = n) ∨ ((DSt.wr n s i l).2 = 61 ∧ m < n ∧ 0 < s.offAt)) := by
  induction n with
  | zero =>
    intro s i l _ _ _
    refine ⟨0, Nat.le_refl _, ⟨rfl, rfl, fun j => ?_⟩, .inl ⟨rfl, rfl⟩⟩
    rw [if_neg (by omega)]; rfl
  | succ n ih =>
    intro s i l hl hi hn
    have hl1 : (l.take 64).length = 64 := by rw [List.length_take]; omega
    by_cases hoff : s.step.off = true
    · have hw : s.write i (l.take 64) = (s.step, 61) := by unfold DSt.write; rw [if_pos hoff]
      have hr : DSt.wr (n + 1) s i l = (s.step, 61) := by rw [DSt.wr, hw, if_neg (show ¬ (61 : Int) = 0 by decide)]
      refine ⟨0, by omega, ?_, .inr ⟨by rw [hr], by omega, ?_⟩⟩
      · rw [hr]
        refine ⟨rfl, rfl, fun j => ?_⟩
        rw [if_neg (by omega)]; rfl
      · have : s.step.offAt = s.offAt := rfl
        unfold DSt.off at hoff
        simp only [Bool.and_eq_true, decide_eq_true_eq] at hoff
        omega
    · have his : s.is i = true := DSt.is_iff.2 (by omega)
      have hw : s.write i (l.take 64) = ({ s.step with pend := msetL i (DSt.putS (s.now i) (l.take 64)) s.pend }, 0) := by
        unfold DSt.write
        rw [if_neg hoff, if_neg (by rw [his, hl1]; decide)]
      have hr : DSt.wr (n + 1) s i l = DSt.wr n { s.step with pend := msetL i (DSt.putS (s.now i) (l.take 64)) s.pend } (i + 1) (l.drop 64) := by rw [DSt.wr, hw, if_pos rfl]
      obtain ⟨m, hm, ⟨h1, h2, h3⟩, h4⟩ := ih { s.step with pend := msetL i (DSt.putS (s.now i) (l.take 64)) s.pend } (i + 1) (l.drop 64) (by rw [List.length_drop]; omega) (by omega) (by show i + 1 + (n : Int) ≤ (s.kept.length : Int); omega)
      rw [hr]
      refine ⟨m + 1, by omega, ⟨h1, h2, fun j => ?_⟩, ?_⟩
      · rw [h3 j, mget_msetK]
        by_cases hj : j = i
        · subst hj
          rw [if_neg (by omega), if_pos rfl, if_pos (by omega)]
          congr 1
          rw [putS_any _ sec0 _ hl1]
          unfold chS
          rw [show (j - j).toNat = 0 by omega, Nat.mul_zero, List.drop_zero]
        · rw [if_neg hj]
          by_cases hj2 : i + 1 ≤ j ∧ j < i + 1 + m
          · rw [if_pos hj2, if_pos (by omega), chS_drop]
            congr 2
            omega
          · rw [if_neg hj2, if_neg (by omega)]
      · rcases h4 with ⟨q1, q2⟩ | ⟨q1, q2, q3⟩
        · exact .inl ⟨q1, by omega⟩
        · exact .inr ⟨q1, by omega, q3⟩
theorem writes_put (n : Nat) (s : DSt) (i : Int) (l : List UInt8) (hl : l.length = 64 * n) (hi : 0 ≤ i) (hn : i + n ≤ s.kept.length) :
    ∃ m, m ≤ n ∧ Put s (s.writes i l).1 i l m ∧ (((s.writes i l).2 = 0 ∧ m = n) ∨ ((s.writes i l).2 = 61 ∧ m < n ∧ 0 < s.offAt)) := by
  unfold DSt.writes
  rw [show (l.length + 63) / 64 = n by omega]
  exact wr_put n s i l hl hi hn
theorem writes_ok (n : Nat) (s : DSt) (i : Int) (l : List UInt8) (ho : s.offAt = 0) (hl : l.length = 64 * n) (hi : 0 ≤ i) (hn : i + n ≤ s.kept.length) : (s.writes i l).2 = 0 ∧ Put s (s.writes i l).1 i l n := by
  obtain ⟨m, _, h1, h2⟩ := writes_put n s i l hl hi hn
  rcases h2 with ⟨q1, rfl⟩ | ⟨_, _, q⟩
  · exact ⟨q1, h1⟩
  · omega
theorem Put.now {s s' : DSt} {i : Int} {l : List UInt8} {m : Nat} (h : Put s s' i l m) (j : Int) : s'.now j = if i ≤ j ∧ j < i + m then chS l (j - i).toNat else s.now j := by
  unfold DSt.now
  rw [h.pend j, h.kept]
  by_cases hj : i ≤ j ∧ j < i + m
  · rw [if_pos hj, if_pos hj]; rfl
  · rw [if_neg hj, if_neg hj]
theorem reads_congr {s s' : DSt} {i : Int} {n : Nat} (h : ∀ q : Nat, q < n → s'.now (i + q) = s.now (i + q)) : s'.reads i n = s.reads i n := by
  induction n with
  | zero => rfl
  | succ n ih => rw [DSt.reads_succ, DSt.reads_succ, ih (fun q hq => h q (by omega)), h n (by omega)]
theorem reads_is {s : DSt} {i : Int} {l : List UInt8} {n : Nat} (hl : 64 * n ≤ l.length) (h : ∀ q : Nat, q < n → (s.now (i + q)).1 = (l.drop (64 * q)).take 64) : s.reads i n = l.take (64 * n) := by
  induction n with
  | zero => rfl
  | succ n ih =>
    rw [DSt.reads_succ, ih (by omega) (fun q hq => h q (by omega)), h n (by omega), show 64 * (n + 1) = 64 * n + 64 by omega, List.take_add]
theorem Put.reads {s s' : DSt} {i : Int} {l : List UInt8} {n : Nat} (h : Put s s' i l n) (hl : l.length = 64 * n) : s'.reads i n = l := by
  rw [reads_is (l := l) (by omega) (fun q hq => ?_), ← hl, List.take_length]
  rw [h.now, if_pos (by omega), show (i + (q : Int) - i).toNat = q by omega, chS_val l q n hl hq]
theorem Put.other {s s' : DSt} {i : Int} {l : List UInt8} {m : Nat} (h : Put s s' i l m) {j : Int} {n : Nat} (hd : j + n ≤ i ∨ i + m ≤ j) : s'.reads j n = s.reads j n :=
  reads_congr fun q hq => by rw [h.now, if_neg (by omega)]
theorem flush_now {s : DSt} (h : s.flush.2 = 0) {j : Int} (h0 : 0 ≤ j) (h1 : j < s.kept.length) : s.flush.1.now j = s.now j := by
  unfold DSt.flush at h ⊢
  by_cases hq : s.step.off = true
  · rw [if_pos hq] at h; exact absurd h (show ¬ (61 : Int) = 0 by decide)
  · rw [if_neg hq]
    obtain ⟨n, rfl⟩ : ∃ n : Nat, j = n := ⟨j.toNat, by omega⟩
    show (DSt.apply s.kept s.pend).getD (n : Int).toNat sec0 = _
    rw [show (n : Int).toNat = n from rfl, apply_get _ _ _ (by omega)]
    rfl
theorem flush_pend {s : DSt} (h : s.flush.2 = 0) : s.flush.1.pend = [] := by
  unfold DSt.flush at h ⊢
  by_cases hq : s.step.off = true
  · rw [if_pos hq] at h; exact absurd h (show ¬ (61 : Int) = 0 by decide)
  · rw [if_neg hq]
theorem flush_offAt (s : DSt) : s.flush.1.offAt = s.offAt := by unfold DSt.flush; split <;> rfl
theorem flush_res (s : DSt) : s.flush.2 = 0 ∨ (s.flush.2 = 61 ∧ s.flush.1 = s.step ∧ 0 < s.offAt) := by
  unfold DSt.flush
  by_cases hq : s.step.off = true
  · rw [if_pos hq]
    refine .inr ⟨rfl, rfl, ?_⟩
    unfold DSt.off at hq
    simp only [Bool.and_eq_true, decide_eq_true_eq] at hq
    exact hq.1
  · rw [if_neg hq]; exact .inl rfl
theorem flush_ok {s : DSt} (h : s.offAt = 0) : s.flush.2 = 0 := by
  rcases flush_res s with h1 | ⟨_, _, h1⟩
  · exact h1
  · omega
def supN (s : Sup) : Nat := (150 + s.txt.length + 55) / 56
theorem frame_len (k : List UInt8) (s : Sup) : (frameL (superB k s) s.commit).length = 64 * supN s := by rw [frameL_length, superB_length]; rfl
theorem supN_le {s : Sup} (h : s.txt.length ≤ 200) : 3 ≤ supN s ∧ supN s ≤ 7 := by unfold supN; omega
structure Laid (k : List UInt8) (ds ds' : DSt) (a : Nat) (s : Sup) : Prop where
  pend : ds'.pend = []
  offAt : ds'.offAt = ds.offAt
  now : ∀ j : Int, 0 ≤ j → j < ds.kept.length → ds'.now j = if (a : Int) * 16 ≤ j ∧ j < (a : Int) * 16 + supN s then chS (frameL (superB k s) s.commit) (j - (a : Int) * 16).toNat else ds.now j
  len : ds'.kept.length = ds.kept.length
theorem laysD_cases (k : List UInt8) (ds : DSt) (a : Nat) (s : Sup) (ha : a ≤ 1) (hl : 32 ≤ ds.kept.length) (ht : s.txt.length ≤ 200) :
    ((laysD k ds a s).2 = 0 ∧ Laid k ds (laysD k ds a s).1 a s) ∨ ((laysD k ds a s).2 = 61 ∧ 0 < ds.offAt ∧ ∃ m, m ≤ supN s ∧ Put ds (laysD k ds a s).1 ((a : Int) * 16) (frameL (superB k s) s.commit) m) := by
  have hn := supN_le ht
  obtain ⟨m, hm, hp, hr⟩ := writes_put (supN s) ds ((a : Int) * 16) (frameL (superB k s) s.commit) (frame_len k s) (by omega) (by omega)
  unfold laysD
  rcases hr with ⟨h0, rfl⟩ | ⟨h0, _, h2⟩
  · rw [if_pos h0]
    rcases flush_res (ds.writes ((a : Int) * 16) (frameL (superB k s) s.commit)).1 with hf | ⟨hf, hf2, hf3⟩
    · refine .inl ⟨hf, flush_pend hf, by rw [flush_offAt, hp.offAt], fun j hj0 hj1 => ?_, by rw [DSt.flush_len, hp.kept]⟩
      rw [flush_now hf hj0 (by rw [hp.kept]; exact hj1), hp.now]
    · refine .inr ⟨hf, by rw [hp.offAt] at hf3; exact hf3, supN s, Nat.le_refl _, ?_⟩
      rw [hf2]
      exact ⟨hp.kept, hp.offAt, hp.pend⟩
  · rw [if_neg (by rw [h0]; decide)]
    exact .inr ⟨h0, h2, m, hm, hp⟩
theorem laysD_ok {k : List UInt8} {ds : DSt} {a : Nat} {s : Sup} (ho : ds.offAt = 0) (ha : a ≤ 1) (hl : 32 ≤ ds.kept.length) (ht : s.txt.length ≤ 200) : (laysD k ds a s).2 = 0 ∧ Laid k ds (laysD k ds a s).1 a s := by
  rcases laysD_cases k ds a s ha hl ht with h | ⟨_, h, _⟩
  · exact h
  · omega
section
variable {k : List UInt8} {ds ds' : DSt} {a : Nat} {s : Sup}
theorem Laid.other (h : Laid k ds ds' a s) {j : Int} {n : Nat} (h0 : 0 ≤ j) (h1 : j + n ≤ ds.kept.length) (hd : j + n ≤ (a : Int) * 16 ∨ (a : Int) * 16 + supN s ≤ j) : ds'.reads j n = ds.reads j n :=
  reads_congr fun q hq => by rw [h.now _ (by omega) (by omega), if_neg (by omega)]
theorem reads_add (ds : DSt) (i : Int) (m n : Nat) : ds.reads i (m + n) = ds.reads i m ++ ds.reads (i + m) n := by
  induction n with
  | zero => rw [Nat.add_zero, DSt.reads_zero, List.append_nil]
  | succ n ih =>
    rw [← Nat.add_assoc, DSt.reads_succ, ih, DSt.reads_succ, List.append_assoc, show i + ((m + n : Nat) : Int) = i + (m : Int) + (n : Int) by omega]
theorem Laid.reg (h : Laid k ds ds' a s) (ha : a ≤ 1) (hl : 32 ≤ ds.kept.length) (ht : s.txt.length ≤ 200) : regS ds' a = frameL (superB k s) s.commit ++ ds.reads ((a : Int) * 16 + supN s) (16 - supN s) := by
  have hn := supN_le ht
  unfold regS
  have hsp := reads_add ds' ((a : Int) * 16) (supN s) (16 - supN s)
  rw [show supN s + (16 - supN s) = 16 by omega] at hsp
  rw [hsp]
  congr 1
  · rw [reads_is (l := frameL (superB k s) s.commit) (by rw [frame_len]; omega) (fun q hq => ?_), ← frame_len k s, List.take_length]
    rw [h.now _ (by omega) (by omega), if_pos (by omega), show ((a : Int) * 16 + (q : Int) - (a : Int) * 16).toNat = q by omega, chS_val _ q _ (frame_len k s) hq]
  · exact h.other (n := 16 - supN s) (by omega) (by omega) (.inr (Int.le_refl _))
end
def Stands (ds : DSt) (pk : List UInt8) (i : Nat) (g : UInt64) (l : List UInt8) : Prop := ds.reads (32 + (i : Int) * 8) 8 = pageB pk i g.toNat l ∧ l.length ≤ 480
theorem pageB_gen (pk : List UInt8) (i : Nat) (g : UInt64) (l : List UInt8) : UInt64.ofNat (ofBe ((pageB pk i g.toNat l).take 8)) = g := by
  unfold pageB
  rw [List.append_assoc, List.take_left' (be_length _ _), ofNat_be8]
theorem openP_pageB (pk : List UInt8) (i : Nat) (g : UInt64) (l : List UInt8) (h : l.length ≤ 480) : openP pk i (pageB pk i g.toNat l) = some l := by
  have hpl := plainL_length l h
  have hsl : (sealL pk (nonceL i g.toNat) tPage (plainL l)).length = 498 := by rw [sealL_length, hpl]
  have h8 : ((pageB pk i g.toNat l).drop 8) = sealL pk (nonceL i g.toNat) tPage (plainL l) ++ List.replicate 6 0 := by
    unfold pageB
    rw [List.append_assoc, List.drop_left' (be_length _ _)]
  have h498 : ((pageB pk i g.toNat l).drop 8).take 498 = sealL pk (nonceL i g.toNat) tPage (plainL l) := by rw [h8, List.take_left' hsl]
  have h482 : ((pageB pk i g.toNat l).drop 8).take 482 = (sealL pk (nonceL i g.toNat) tPage (plainL l)).take ((sealL pk (nonceL i g.toNat) tPage (plainL l)).length - 16) := by
    rw [h8, hsl, List.take_append_of_le_length (by omega)]
  unfold openP
  rw [pageB_gen, h498, if_pos (seal_fits _ _ _ _), h482, seal_opens]
  have hd : (plainL l).drop 2 = l ++ List.replicate (480 - l.length) 0 := by
    unfold plainL; rw [List.append_assoc, List.drop_left' (be_length _ _)]
  have htk : ofBe ((plainL l).take 2) = l.length := by
    unfold plainL; rw [List.append_assoc, List.take_left' (be_length _ _), ofBe_be]; exact Nat.mod_eq_of_lt (by omega)
  rw [hd, htk, Nat.min_eq_left h, List.take_left' rfl]
end Go.Sac

namespace Go.Sac
open Go
theorem dropR {α : Type} {a b : List α} {n m : Nat} (h : a.length = m) (hm : m ≤ n) : (a ++ b).drop n = b.drop (n - m) := by
  rw [List.drop_append, List.drop_of_length_le (by omega), List.nil_append, h]
def padF (n : Nat) (b : List UInt8) : List UInt8 := b ++ List.replicate (56 * n - b.length) 0
theorem padF_step (n : Nat) (b : List UInt8) (h : b.length ≤ 56 * (n + 1)) : (b.take 56 ++ List.replicate (56 - (b.take 56).length) 0) ++ padF n (b.drop 56) = padF (n + 1) b := by
  unfold padF
  by_cases hb : b.length ≤ 56
  · rw [List.take_of_length_le hb, List.drop_of_length_le hb, List.nil_append, List.append_assoc, List.replicate_append_replicate]
    congr 2
    simp only [List.length_nil]; omega
  · have h1 : (b.take 56).length = 56 := by rw [List.length_take]; omega
    rw [h1, Nat.sub_self, List.replicate_zero, List.append_nil, ← List.append_assoc, List.take_append_drop, List.length_drop]
    congr 2
    omega
theorem frameN_head (n : Nat) (nb b : List UInt8) (rest : List UInt8) (hn : nb.length = 4) :
    ((frameN (n + 1) nb b ++ rest).take 4 = nb) ∧ (((frameN (n + 1) nb b ++ rest).drop 60).take 4 = nb) ∧ (((frameN (n + 1) nb b ++ rest).drop 4).take 56 = b.take 56 ++ List.replicate (56 - (b.take 56).length) 0) ∧ ((frameN (n + 1) nb b ++ rest).drop 64 = frameN n nb (b.drop 56) ++ rest) := by
  have hp : (b.take 56 ++ List.replicate (56 - (b.take 56).length) (0 : UInt8)).length = 56 := by
    rw [List.length_append, List.length_replicate, List.length_take]; omega
  generalize hP : b.take 56 ++ List.replicate (56 - (b.take 56).length) (0 : UInt8) = p at hp
  have hf : frameN (n + 1) nb b ++ rest = nb ++ (p ++ (nb ++ (frameN n nb (b.drop 56) ++ rest))) := by
    rw [frameN, ← hP]
    simp only [List.append_assoc]
  rw [hf]
  refine ⟨List.take_left' hn, ?_, ?_, ?_⟩
  · rw [dropR hn (by omega), dropR hp (by omega), List.drop_zero, List.take_left' hn]
  · rw [List.drop_left' hn, List.take_left' hp]
  · rw [dropR hn (by omega), dropR hp (by omega), dropR hn (by omega)]; rfl
theorem unfr_frame (nb : List UInt8) (hn : nb.length = 4) (rest : List UInt8) : ∀ (n N : Nat) (b : List UInt8), n ≤ N → b.length ≤ 56 * n →
    unfrN nb N (frameN n nb b ++ rest) = padF n b ++ unfrN nb (N - n) rest
  | 0, N, b, _, hb => by
    have : b = [] := List.eq_nil_of_length_eq_zero (by omega)
    subst this
    rfl
  | n + 1, N, b, hN, hb => by
    obtain ⟨N, rfl⟩ : ∃ q, N = q + 1 := ⟨N - 1, by omega⟩
    obtain ⟨h1, h2, h3, h4⟩ := frameN_head n nb b rest hn
    rw [unfrN, if_pos ⟨h1, h2⟩, h3, h4, unfr_frame nb hn rest n N (b.drop 56) (by omega) (by rw [List.length_drop]; omega), ← List.append_assoc, padF_step n b hb, show N + 1 - (n + 1) = N - n by omega]
theorem unfr_sup (k : List UInt8) (s : Sup) (rest : List UInt8) (h : supN s ≤ 16) (hr : rest.length = 64 * (16 - supN s)) : ∃ z, unfrL (frameL (superB k s) s.commit ++ rest) = superB k s ++ z := by
  have hl : (frameL (superB k s) s.commit ++ rest).length = 1024 := by rw [List.length_append, frame_len, hr]; omega
  have hsl := superB_length k s
  have hN : supN s = ((superB k s).length + 55) / 56 := by rw [hsl]; rfl
  have h3 : 2 ≤ supN s := by unfold supN; omega
  have hfr : frameL (superB k s) s.commit = frameN (supN s) (be 4 s.commit.toNat) (superB k s) := by unfold frameL; rw [← hN]
  unfold unfrL
  rw [hl, hfr]
  obtain ⟨m, hm⟩ : ∃ m, supN s = m + 1 := ⟨supN s - 1, by omega⟩
  have hh := (frameN_head m (be 4 s.commit.toNat) (superB k s) rest (be_length _ _)).1
  rw [← hm] at hh
  rw [hh, show 1024 / 64 = 16 from rfl, unfr_frame _ (be_length _ _) rest (supN s) 16 (superB k s) h (by rw [hN]; omega)]
  exact ⟨_, by unfold padF; rw [List.append_assoc]⟩
theorem superB_parts (k : List UInt8) (s : Sup) (z : List UInt8) : superB k s ++ z = be 8 s.commit.toNat ++ (be 4 s.epoch.toNat ++ (be 4 s.root.toNat ++ (be 2 s.txt.length ++ (s.txt ++ (marksL s.used ++ (marksL s.written ++ (signL k (superP s) ++ z))))))) := by
  unfold superB
  generalize signL k (superP s) = t
  unfold superP
  simp only [List.append_assoc]
theorem txN_sup (k : List UInt8) (s : Sup) (z : List UInt8) (h : s.txt.length ≤ 200) : txN (superB k s ++ z) = s.txt.length := by
  unfold txN
  rw [superB_parts, dropR (be_length _ _) (by omega), dropR (be_length _ _) (by omega), dropR (be_length _ _) (by omega), List.drop_zero, List.take_left' (be_length _ _), ofBe_be]
  exact Nat.mod_eq_of_lt (by omega)
theorem supOf_sup (k : List UInt8) (s : Sup) (z : List UInt8) (h : s.Ok) : supOf (superB k s ++ z) = s := by
  have ht := txN_sup k s z h.txt
  have h1 := marksL_length s.used
  have h2 := marksL_length s.written
  have hb : UInt32.ofNat (ofBe (be 4 s.root.toNat)) = s.root := by rw [ofBe_be]; apply UInt32.toNat_inj.1; rw [UInt32.toNat_ofNat']; have := s.root.toNat_lt; omega
  have he : UInt32.ofNat (ofBe (be 4 s.epoch.toNat)) = s.epoch := by rw [ofBe_be]; apply UInt32.toNat_inj.1; rw [UInt32.toNat_ofNat']; have := s.epoch.toNat_lt; omega
  have e1 : ((superB k s ++ z).drop 12).take 4 = be 4 s.root.toNat := by rw [superB_parts, dropR (be_length _ _) (by omega), dropR (be_length _ _) (by omega), List.drop_zero, List.take_left' (be_length _ _)]
  have e2 : ((superB k s ++ z).drop 18).take s.txt.length = s.txt := by rw [superB_parts, dropR (be_length _ _) (by omega), dropR (be_length _ _) (by omega), dropR (be_length _ _) (by omega), dropR (be_length _ _) (by omega), List.drop_zero, List.take_left' rfl]
  have e3 : ((superB k s ++ z).drop (18 + s.txt.length)).take 50 = marksL s.used := by rw [superB_parts, dropR (be_length _ _) (by omega), dropR (be_length _ _) (by omega), dropR (be_length _ _) (by omega), dropR (be_length _ _) (by omega), dropR rfl (by omega), show 18 + s.txt.length - 8 - 4 - 4 - 2 - s.txt.length = 0 by omega, List.drop_zero, List.take_left' h1]
  have e4 : ((superB k s ++ z).drop (68 + s.txt.length)).take 50 = marksL s.written := by rw [superB_parts, dropR (be_length _ _) (by omega), dropR (be_length _ _) (by omega), dropR (be_length _ _) (by omega), dropR (be_length _ _) (by omega), dropR rfl (by omega), dropR h1 (by omega), show 68 + s.txt.length - 8 - 4 - 4 - 2 - s.txt.length - 50 = 0 by omega, List.drop_zero, List.take_left' h2]
  have e5 : (superB k s ++ z).take 8 = be 8 s.commit.toNat := by rw [superB_parts, List.take_left' (be_length _ _)]
  have e6 : ((superB k s ++ z).drop 8).take 4 = be 4 s.epoch.toNat := by rw [superB_parts, dropR (be_length _ _) (by omega), List.drop_zero, List.take_left' (be_length _ _)]
  unfold supOf
  rw [ht, e1, e2, e3, e4, e5, e6, hb, he, ofNat_be8, pages_marks h.used, pages_marks h.written]
theorem sup_tag (k : List UInt8) (s : Sup) (z : List UInt8) : ((superB k s ++ z).drop (118 + s.txt.length)).take 32 = signL k (superP s) ∧ (superB k s ++ z).take (118 + s.txt.length) = superP s := by
  have hp := superP_length s
  have e : superB k s ++ z = superP s ++ (signL k (superP s) ++ z) := by unfold superB; rw [List.append_assoc]
  rw [e, List.drop_left' hp, List.take_left' hp, List.take_left' (signL_length _ _)]
  exact ⟨rfl, rfl⟩
theorem parsed_any (k k2 : List UInt8) (s : Sup) (z : List UInt8) (h : s.Ok) : parsedL k2 (superB k s ++ z) = if signL k (superP s) = signL k2 (superP s) then some s else none := by
  have ht := txN_sup k s z h.txt
  have hl : (superB k s ++ z).length = 150 + s.txt.length + z.length := by rw [List.length_append, superB_length]
  have h3 := h.txt
  obtain ⟨h4, h5⟩ := sup_tag k s z
  unfold parsedL
  rw [ht, if_neg (by omega), h4, h5, supOf_sup k s z h]
theorem parsed_own (k : List UInt8) (s : Sup) (z : List UInt8) (h : s.Ok) : parsedL k (superB k s ++ z) = some s := by
  rw [parsed_any k k s z h, if_pos rfl]
def secH (c : Sec) : Nat := ofBe (c.1.take 4)
def secT (c : Sec) : Nat := ofBe ((c.1.drop 60).take 4)
theorem secH_lt (c : Sec) : secH c < 4294967296 := by
  have := ofBe_lt (c.1.take 4)
  have h2 : (c.1.take 4).length ≤ 4 := by rw [List.length_take]; omega
  have h3 : 256 ^ (c.1.take 4).length ≤ 256 ^ 4 := Nat.pow_le_pow_right (by omega) h2
  unfold secH
  have : (256 : Nat) ^ 4 = 4294967296 := rfl
  omega
theorem secT_lt (c : Sec) : secT c < 4294967296 := by
  have := ofBe_lt ((c.1.drop 60).take 4)
  have h2 : ((c.1.drop 60).take 4).length ≤ 4 := by rw [List.length_take]; omega
  have h3 : 256 ^ ((c.1.drop 60).take 4).length ≤ 256 ^ 4 := Nat.pow_le_pow_right (by omega) h2
  unfold secT
  have : (256 : Nat) ^ 4 = 4294967296 := rfl
  omega
theorem nums_mem (ds : DSt) : ∀ (n : Nat) (i : Int) (x : UInt64), x ∈ numsN n (ds.reads i n) → ∃ q : Nat, q < n ∧ (x.toNat = secH (ds.now (i + q)) ∨ x.toNat = secT (ds.now (i + q)))
  | 0, _, _, h => by simp [numsN] at h
  | n + 1, i, x, h => by
    have hr : ds.reads i (n + 1) = (ds.now i).1 ++ ds.reads (i + 1) n := by
      rw [Nat.add_comm n 1, reads_add]
      congr 1
      rw [DSt.reads_succ, DSt.reads_zero, List.nil_append]; simp
    have hs := (ds.now i).2
    have e1 : (ds.reads i (n + 1)).take 4 = (ds.now i).1.take 4 := by rw [hr, List.take_append_of_le_length (by omega)]
    have e2 : ((ds.reads i (n + 1)).drop 60).take 4 = ((ds.now i).1.drop 60).take 4 := by rw [hr, List.drop_append_of_le_length (by omega), List.take_append_of_le_length (by rw [List.length_drop]; omega)]
    have e3 : (ds.reads i (n + 1)).drop 64 = ds.reads (i + 1) n := by rw [hr, List.drop_left' hs]
    rw [numsN, e1, e2, e3] at h
    have h1 := secH_lt (ds.now i)
    have h2 := secT_lt (ds.now i)
    have hi : i + ((0 : Nat) : Int) = i := by simp
    rcases List.mem_cons.1 h with rfl | h
    · refine ⟨0, by omega, .inl ?_⟩
      rw [hi, UInt64.toNat_ofNat']
      exact Nat.mod_eq_of_lt (by unfold secH at h1; omega)
    · rcases List.mem_cons.1 h with rfl | h
      · refine ⟨0, by omega, .inr ?_⟩
        rw [hi, UInt64.toNat_ofNat']
        exact Nat.mod_eq_of_lt (by unfold secT at h2; omega)
      · obtain ⟨q, hq, hx⟩ := nums_mem ds n (i + 1) x h
        exact ⟨q + 1, by omega, by rw [show i + ((q + 1 : Nat) : Int) = i + 1 + (q : Int) by omega]; exact hx⟩
theorem nums_in (ds : DSt) : ∀ (n : Nat) (i : Int) (q : Nat), q < n → UInt64.ofNat (secH (ds.now (i + q))) ∈ numsN n (ds.reads i n) ∧ UInt64.ofNat (secT (ds.now (i + q))) ∈ numsN n (ds.reads i n)
  | 0, _, _, h => by omega
  | n + 1, i, q, h => by
    have hr : ds.reads i (n + 1) = (ds.now i).1 ++ ds.reads (i + 1) n := by
      rw [Nat.add_comm n 1, reads_add]
      congr 1
      rw [DSt.reads_succ, DSt.reads_zero, List.nil_append]; simp
    have hs := (ds.now i).2
    have e1 : (ds.reads i (n + 1)).take 4 = (ds.now i).1.take 4 := by rw [hr, List.take_append_of_le_length (by omega)]
    have e2 : ((ds.reads i (n + 1)).drop 60).take 4 = ((ds.now i).1.drop 60).take 4 := by rw [hr, List.drop_append_of_le_length (by omega), List.take_append_of_le_length (by rw [List.length_drop]; omega)]
    have e3 : (ds.reads i (n + 1)).drop 64 = ds.reads (i + 1) n := by rw [hr, List.drop_left' hs]
    rw [numsN, e1, e2, e3]
    rcases q with _ | q
    · rw [show i + ((0 : Nat) : Int) = i by simp]
      exact ⟨List.mem_cons_self .., List.mem_cons_of_mem _ (List.mem_cons_self ..)⟩
    · obtain ⟨h1, h2⟩ := nums_in ds n (i + 1) q (by omega)
      rw [show i + ((q + 1 : Nat) : Int) = i + 1 + (q : Int) by omega]
      exact ⟨List.mem_cons_of_mem _ (List.mem_cons_of_mem _ h1), List.mem_cons_of_mem _ (List.mem_cons_of_mem _ h2)⟩
def NumLe (ds : DSt) (M : Nat) : Prop := ∀ j : Int, 0 ≤ j → j < 32 → secH (ds.now j) ≤ M ∧ secT (ds.now j) ≤ M
theorem NumLe.mem {ds : DSt} {M : Nat} (h : NumLe ds M) {x : UInt64} (hx : x ∈ numsL (regS ds 0) ++ numsL (regS ds 1)) : x.toNat ≤ M := by
  have h0 : ∀ a : Nat, a ≤ 1 → x ∈ numsL (regS ds a) → x.toNat ≤ M := fun a ha hx => by
    unfold numsL regS at hx
    rw [DSt.reads_length, show 64 * 16 / 64 = 16 from rfl] at hx
    obtain ⟨q, hq, h1⟩ := nums_mem ds 16 _ x hx
    have := h ((a : Int) * 16 + q) (by omega) (by omega)
    omega
  rcases List.mem_append.1 hx with hx | hx
  · exact h0 0 (by omega) hx
  · exact h0 1 (by omega) hx
theorem aheadU_nat (c x : UInt64) (hc : c.toNat < 65536) (hx : x.toNat < 65536) : (aheadU c x).toNat = if c.toNat ≤ x.toNat then x.toNat - c.toNat else 4294967296 - (c.toNat - x.toNat) := by
  rw [aheadU_eq, UInt32.toNat_toUInt64, UInt64.toNat_toUInt32, UInt64.toNat_sub]
  split <;> omega
theorem nextStep_nat (c n x : UInt64) (hc : c.toNat < 65536) (hx : x.toNat < 65536) (hn : c.toNat ≤ n.toNat) : (nextStep c n x).toNat = max n.toNat x.toNat := by
  have h := aheadU_nat c x hc hx
  unfold nextStep
  by_cases hcx : c.toNat ≤ x.toNat
  · rw [if_pos hcx] at h
    have hlt : aheadU c x < 65536 := by rw [UInt64.lt_iff_toNat_lt, h]; show x.toNat - c.toNat < 65536; omega
    rw [if_pos hlt]
    have ha : (c + aheadU c x).toNat = x.toNat := by rw [UInt64.toNat_add, h]; omega
    rw [umax_toNat, ha]
  · rw [if_neg hcx] at h
    have hlt : ¬ aheadU c x < 65536 := by rw [UInt64.lt_iff_toNat_lt, h]; show ¬ _ < 65536; omega
    rw [if_neg hlt]; omega
theorem nextF_nat (c : UInt64) (hc : c.toNat < 65536) : ∀ (l : List UInt64) (n : UInt64), (∀ x ∈ l, x.toNat < 65536) → c.toNat ≤ n.toNat →
    n.toNat ≤ (l.foldl (nextStep c) n).toNat ∧ (∀ x ∈ l, x.toNat ≤ (l.foldl (nextStep c) n).toNat) ∧ ((l.foldl (nextStep c) n).toNat = n.toNat ∨ ∃ x ∈ l, (l.foldl (nextStep c) n).toNat = x.toNat)
  | [], n, _, _ => ⟨Nat.le_refl _, by simp, .inl rfl⟩
  | y :: l, n, hl, hn => by
    have hy := nextStep_nat c n y hc (hl y (by simp)) hn
    obtain ⟨h1, h2, h3⟩ := nextF_nat c hc l (nextStep c n y) (fun x hx => hl x (by simp [hx])) (by omega)
    rw [List.foldl_cons]
    refine ⟨by omega, fun x hx => ?_, ?_⟩
    · rcases List.mem_cons.1 hx with rfl | hx
      · omega
      · exact h2 x hx
    · rcases h3 with h3 | ⟨x, hx, h3⟩
      · by_cases hh : n.toNat ≤ y.toNat
        · exact .inr ⟨y, by simp, by omega⟩
        · exact .inl (by omega)
      · exact .inr ⟨x, by simp [hx], h3⟩
theorem newNext_nat {k : List UInt8} {ds : DSt} {M : Nat} (h : NumLe ds M) (hM : M < 60000) (hc : (comOf (newest k ds)).toNat ≤ M) : (comOf (newest k ds)).toNat < (newNext k ds).toNat ∧ (newNext k ds).toNat ≤ M + 1 ∧ NumLe ds ((newNext k ds).toNat - 1) := by
  have hl : ∀ x ∈ numsL (regS ds 0) ++ numsL (regS ds 1), x.toNat < 65536 := fun x hx => by have := h.mem hx; omega
  obtain ⟨h1, h2, h3⟩ := nextF_nat (comOf (newest k ds)) (by omega) _ (comOf (newest k ds)) hl (Nat.le_refl _)
  have hr : ((numsL (regS ds 0) ++ numsL (regS ds 1)).foldl (nextStep (comOf (newest k ds))) (comOf (newest k ds))).toNat ≤ M := by
    rcases h3 with h3 | ⟨x, hx, h3⟩
    · omega
    · have := h.mem hx; omega
  have hn : (newNext k ds).toNat = ((numsL (regS ds 0) ++ numsL (regS ds 1)).foldl (nextStep (comOf (newest k ds))) (comOf (newest k ds))).toNat + 1 := by
    unfold newNext nextL
    rw [UInt64.toNat_add]
    exact Nat.mod_eq_of_lt (by show _ + 1 < _; omega)
  refine ⟨by omega, by omega, fun j hj0 hj1 => ?_⟩
  rw [hn]
  have hmem : ∀ a : Nat, a ≤ 1 → ∀ q : Nat, q < 16 → UInt64.ofNat (secH (ds.now ((a : Int) * 16 + q))) ∈ numsL (regS ds a) ∧ UInt64.ofNat (secT (ds.now ((a : Int) * 16 + q))) ∈ numsL (regS ds a) := by
    intro a ha q hq
    unfold numsL regS
    rw [DSt.reads_length, show 64 * 16 / 64 = 16 from rfl]
    exact nums_in ds 16 _ q hq
  have hmem2 : ∀ x : UInt64, (∃ a : Nat, a ≤ 1 ∧ x ∈ numsL (regS ds a)) → x ∈ numsL (regS ds 0) ++ numsL (regS ds 1) := by
    rintro x ⟨a, ha, hx⟩
    rcases (by omega : a = 0 ∨ a = 1) with rfl | rfl
    · exact List.mem_append_left _ hx
    · exact List.mem_append_right _ hx
  obtain ⟨a, ha, q, hq, rfl⟩ : ∃ a : Nat, a ≤ 1 ∧ ∃ q : Nat, q < 16 ∧ j = (a : Int) * 16 + q := by
    by_cases hj : j < 16
    · exact ⟨0, by omega, j.toNat, by omega, by omega⟩
    · exact ⟨1, by omega, (j - 16).toNat, by omega, by omega⟩
  obtain ⟨m1, m2⟩ := hmem a ha q hq
  have g1 := h2 _ (hmem2 _ ⟨a, ha, m1⟩)
  have g2 := h2 _ (hmem2 _ ⟨a, ha, m2⟩)
  have b1 := secH_lt (ds.now ((a : Int) * 16 + q))
  have b2 := secT_lt (ds.now ((a : Int) * 16 + q))
  rw [UInt64.toNat_ofNat'] at g1 g2
  omega
end Go.Sac

namespace Go.Sac
open Go
structure POK (n k : Nat) (key : List UInt8) (ds : DSt) (P : Pg) (V : UInt32 → List UInt8) : Prop where
  off : ds.offAt = 0
  fine : ds.Fine
  len : ds.kept.length = 32 + 8 * n
  size : 4 ≤ n ∧ n ≤ 400
  steps : ds.steps ≤ 100 * k
  few : k ≤ 1000000
  broken : P.broken = false
  at_ : P.at_ ≤ 1
  used : ∀ i, P.now.used i = true → i.toNat < n
  kused : ∀ i, P.kept.used i = true → i.toNat < n
  written : ∀ i, P.now.written i = true → P.now.used i = true
  kwritten : ∀ i, P.kept.written i = true → P.kept.used i = true
  wok : ∀ i, P.now.written i = true → P.kept.used i = false ∨ P.kept.written i = true
  pages : ∀ i, P.now.written i = true ∨ P.kept.written i = true → ∃ g, P.gens i = some g ∧ Stands ds (deriveL key tPage 0) i.toNat g (V i)
def setV (V : UInt32 → List UInt8) (i : UInt32) (l : List UInt8) : UInt32 → List UInt8 := fun j => if j = i then l else V j
theorem manyN_of {n L : Nat} (h : L = 32 + 8 * n) (h2 : n ≤ 400) : manyN L = n := by unfold manyN; omega
section
variable {n k : Nat} {key : List UInt8} {ds : DSt} {P : Pg} {V : UInt32 → List UInt8}
theorem POK.many (h : POK n k key ds P V) : manyN ds.kept.length = n := manyN_of h.len h.size.2
theorem POK.small (h : POK n k key ds P V) : ds.kept.length ≤ 4000 := by have := h.len; have := h.size; omega
theorem POK.offF (h : POK n k key ds P V) : ds.off = false := by
  unfold DSt.off
  rw [h.off]; rfl
theorem POK.inn (h : POK n k key ds P V) {i : UInt32} (hi : P.now.used i = true) : 40 + i.toNat * 8 ≤ ds.kept.length := by
  have := h.used i hi
  have := h.len
  omega
theorem fresh_iff {P : Pg} {i : UInt32} : P.fresh i = true ↔ P.now.used i = true ∧ P.kept.used i = false := by
  unfold Pg.fresh; simp
theorem free_iff {P : Pg} {i : UInt32} : P.free i = true ↔ P.now.used i = false ∧ P.kept.used i = false := by
  unfold Pg.free; simp
theorem POK.alloc (h : POK n k key ds P V) (i : UInt32) (hi : i.toNat < n) : POK n k key ds { P with now := { P.now with used := addPg P.now.used i } } V where
  off := h.off
  fine := h.fine
  len := h.len
  size := h.size
  steps := h.steps
  few := h.few
  broken := h.broken
  at_ := h.at_
  used := fun j hj => by
    have hj : addPg P.now.used i j = true := hj
    unfold addPg at hj
    simp only [Bool.or_eq_true, decide_eq_true_eq] at hj
    rcases hj with rfl | hj
    · exact hi
    · exact h.used j hj
  kused := h.kused
  written := fun j hj => by
    show addPg P.now.used i j = true
    unfold addPg
    rw [h.written j hj, Bool.or_true]
  kwritten := h.kwritten
  wok := h.wok
  pages := h.pages
theorem POK.free (h : POK n k key ds P V) (i : UInt32) : POK n k key ds { P with now := { P.now with used := delPg P.now.used i, written := delPg P.now.written i } } V where
  off := h.off
  fine := h.fine
  len := h.len
  size := h.size
  steps := h.steps
  few := h.few
  broken := h.broken
  at_ := h.at_
  used := fun j hj => h.used j (by
    have hj : delPg P.now.used i j = true := hj
    unfold delPg at hj
    simp only [Bool.and_eq_true] at hj
    exact hj.2)
  kused := h.kused
  written := fun j hj => by
    have hj : delPg P.now.written i j = true := hj
    unfold delPg at hj
    simp only [Bool.and_eq_true] at hj
    show delPg P.now.used i j = true
    unfold delPg
    rw [hj.1, h.written j hj.2]; rfl
  kwritten := h.kwritten
  wok := fun j hj => h.wok j (by
    have hj : delPg P.now.written i j = true := hj
    unfold delPg at hj
    simp only [Bool.and_eq_true] at hj
    exact hj.2)
  pages := fun j hj => h.pages j (by
    rcases hj with hj | hj
    · have hj : delPg P.now.written i j = true := hj
      unfold delPg at hj
      simp only [Bool.and_eq_true] at hj
      exact .inl hj.2
    · exact .inr hj)
theorem POK.undo (h : POK n k key ds P V) : POK n k key ds { P with now := P.kept.st } V where
  off := h.off
  fine := h.fine
  len := h.len
  size := h.size
  steps := h.steps
  few := h.few
  broken := h.broken
  at_ := h.at_
  used := h.kused
  kused := h.kused
  written := h.kwritten
  kwritten := h.kwritten
  wok := fun j hj => .inr hj
  pages := fun j hj => h.pages j (.inr (by rcases hj with hj | hj <;> exact hj))
theorem Stands.other {ds ds' : DSt} {pk : List UInt8} {i : Nat} {g : UInt64} {l : List UInt8} (h : Stands ds pk i g l) (hc : ∀ q : Nat, q < 8 → ds'.now (32 + (i : Int) * 8 + q) = ds.now (32 + (i : Int) * 8 + q)) : Stands ds' pk i g l := ⟨by rw [reads_congr hc]; exact h.1, h.2⟩
theorem POK.write (h : POK n k key ds P V) (hk : k + 1 ≤ 1000000) (i : UInt32) (hi : P.fresh i = true) (l : List UInt8) (hl : l.length ≤ 480) :
    (ds.writes (32 + (i.toNat : Int) * 8) (pageB (deriveL key tPage 0) i.toNat P.gen.toNat l)).2 = 0 ∧
    POK n (k + 1) key (ds.writes (32 + (i.toNat : Int) * 8) (pageB (deriveL key tPage 0) i.toNat P.gen.toNat l)).1 { P with count := P.count + 1, now := { P.now with written := addPg P.now.written i }, gens := setG P.gens i P.gen } (setV V i l) := by
  obtain ⟨hu, hku⟩ := fresh_iff.1 hi
  have hin := h.used i hu
  have hlen := h.len
  have hpl := pageB_length (deriveL key tPage 0) i.toNat P.gen.toNat l hl
  obtain ⟨h0, hp⟩ := writes_ok 8 ds (32 + (i.toNat : Int) * 8) (pageB (deriveL key tPage 0) i.toNat P.gen.toNat l) h.off hpl (by omega) (by omega)
  have hsteps := h.steps
  have hbn := writes_bnd (32 + (i.toNat : Int) * 8) (pageB (deriveL key tPage 0) i.toNat P.gen.toNat l) h.fine (by omega)
  refine ⟨h0, by rw [hp.offAt]; exact h.off, hbn.1, by rw [hbn.2.2]; exact hlen, h.size, by omega, hk, h.broken, h.at_, h.used, h.kused, fun j hj => ?_, h.kwritten, fun j hj => ?_, fun j hj => ?_⟩
  · have hj : addPg P.now.written i j = true := hj
    unfold addPg at hj
    simp only [Bool.or_eq_true, decide_eq_true_eq] at hj
    rcases hj with rfl | hj
    · exact hu
    · exact h.written j hj
  · have hj : addPg P.now.written i j = true := hj
    unfold addPg at hj
    simp only [Bool.or_eq_true, decide_eq_true_eq] at hj
    rcases hj with rfl | hj
    · exact .inl hku
    · exact h.wok j hj
  · by_cases hji : j = i
    · subst hji
      refine ⟨P.gen, by show setG P.gens j P.gen j = _; unfold setG; rw [if_pos rfl], ?_, by unfold setV; rw [if_pos rfl]; exact hl⟩
      rw [hp.reads hpl]
      unfold setV; rw [if_pos rfl]
    · have hj2 : P.now.written j = true ∨ P.kept.written j = true := by
        rcases hj with hj | hj
        · have hj : addPg P.now.written i j = true := hj
          unfold addPg at hj
          rw [decide_eq_false hji, Bool.false_or] at hj
          exact .inl hj
        · exact .inr hj
      obtain ⟨g, hg, hs⟩ := h.pages j hj2
      have hjn : j.toNat ≠ i.toNat := fun hh => hji (UInt32.toNat_inj.1 hh)
      refine ⟨g, by show setG P.gens i P.gen j = _; unfold setG; rw [if_neg hji]; exact hg, ?_⟩
      unfold setV
      rw [if_neg hji]
      exact hs.other fun q hq => by rw [hp.now, if_neg (by omega)]
theorem POK.read (h : POK n k key ds P V) {i : UInt32} (hi : P.now.written i = true) :
    UInt64.ofNat (ofBe ((ds.reads (32 + (i.toNat : Int) * 8) 8).take 8)) = (P.gens i).getD 0 ∧ openP (deriveL key tPage 0) i.toNat (ds.reads (32 + (i.toNat : Int) * 8) 8) = some (V i) := by
  obtain ⟨g, hg, hs, hl⟩ := h.pages i (.inl hi)
  rw [hs, pageB_gen, hg, openP_pageB _ _ _ _ hl]
  exact ⟨rfl, rfl⟩
theorem POK.commit (h : POK n k key ds P V) (hk : k + 1 ≤ 1000000) (root : UInt32) (txt : List UInt8) (ht : txt.length ≤ 200) :
    ds.flush.2 = 0 ∧ (laysD key ds.flush.1 ((P.at_ + 1) % 2) (comS P root txt)).2 = 0 ∧
    POK n (k + 1) key (laysD key ds.flush.1 ((P.at_ + 1) % 2) (comS P root txt)).1 { P with now := (comS P root txt).st, kept := comS P root txt, at_ := (P.at_ + 1) % 2 } V ∧
    Laid key ds.flush.1 (laysD key ds.flush.1 ((P.at_ + 1) % 2) (comS P root txt)).1 ((P.at_ + 1) % 2) (comS P root txt) := by
  have hsteps := h.steps
  have hlen := h.len
  have hsz := h.size
  have h0 := flush_ok h.off
  have hfs := DSt.flush_steps ds
  have hff := h.fine.flush (by omega)
  have hfl := DSt.flush_len ds
  have hfo : ds.flush.1.offAt = 0 := by rw [flush_offAt]; exact h.off
  have ht2 : (comS P root txt).txt.length ≤ 200 := ht
  obtain ⟨h1, hL⟩ := laysD_ok (k := key) (a := (P.at_ + 1) % 2) (s := comS P root txt) hfo (by omega) (by omega) ht2
  have hbn := laysD_bnd key ds.flush.1 ((P.at_ + 1) % 2) (comS P root txt) hff ht2 (by omega)
  have hsn := supN_le ht2
  refine ⟨h0, h1, ⟨by rw [hL.offAt]; exact hfo, hbn.1, by rw [hL.len, hfl]; exact hlen, hsz, by omega, hk, h.broken, by show (P.at_ + 1) % 2 ≤ 1; omega, h.used, h.used, h.written, h.written, fun j hj => .inr hj, fun j hj => ?_⟩, hL⟩
  have hj : P.now.written j = true := by rcases hj with hj | hj <;> exact hj
  obtain ⟨g, hg, hs⟩ := h.pages j (.inl hj)
  have hjn := h.used j (h.written j hj)
  refine ⟨g, hg, hs.other fun q hq => ?_⟩
  rw [hL.now _ (by omega) (by rw [hfl]; omega), if_neg (by omega), flush_now h0 (by omega) (by omega)]
end
end Go.Sac

namespace Go.Sac
open Go
theorem frameN_at (nb : List UInt8) (hn : nb.length = 4) (rest : List UInt8) : ∀ (n q : Nat) (b : List UInt8), q < n → (frameN n nb b ++ rest).drop (64 * q) = frameN (n - q) nb (b.drop (56 * q)) ++ rest
  | n, 0, b, _ => by simp
  | 0, q + 1, b, h => by omega
  | n + 1, q + 1, b, h => by
    rw [show 64 * (q + 1) = 64 + 64 * q by omega, ← List.drop_drop, (frameN_head n nb b rest hn).2.2.2, frameN_at nb hn rest n q (b.drop 56) (by omega), List.drop_drop, show n + 1 - (q + 1) = n - q by omega, show 56 + 56 * q = 56 * (q + 1) by omega]
theorem frame_nums (k : List UInt8) (s : Sup) (hc : s.commit.toNat < 4294967296) (q : Nat) (hq : q < supN s) : secH (chS (frameL (superB k s) s.commit) q) = s.commit.toNat ∧ secT (chS (frameL (superB k s) s.commit) q) = s.commit.toNat := by
  have hsl := superB_length k s
  have hN : supN s = ((superB k s).length + 55) / 56 := by rw [hsl]; rfl
  have hfr : frameL (superB k s) s.commit = frameN (supN s) (be 4 s.commit.toNat) (superB k s) ++ [] := by unfold frameL; rw [← hN, List.append_nil]
  obtain ⟨m, hm⟩ : ∃ m, supN s - q = m + 1 := ⟨supN s - q - 1, by omega⟩
  have hv := chS_val (frameL (superB k s) s.commit) q _ (frame_len k s) hq
  have hd : (frameL (superB k s) s.commit).drop (64 * q) = frameN (m + 1) (be 4 s.commit.toNat) ((superB k s).drop (56 * q)) ++ [] := by
    rw [hfr, frameN_at _ (be_length _ _) _ _ _ _ hq, hm]
  obtain ⟨h1, h2, h3, h4⟩ := frameN_head m (be 4 s.commit.toNat) ((superB k s).drop (56 * q)) [] (be_length _ _)
  rw [← hd] at h1 h2
  have hb : ofBe (be 4 s.commit.toNat) = s.commit.toNat := by rw [ofBe_be]; exact Nat.mod_eq_of_lt hc
  unfold secH secT
  rw [hv]
  refine ⟨?_, ?_⟩
  · rw [List.take_take, show min 4 64 = 4 from rfl, h1, hb]
  · rw [List.drop_take, List.take_take, show min 4 (64 - 60) = 4 from rfl, h2, hb]
structure SupAt (key : List UInt8) (ds : DSt) (a : Nat) (s : Sup) : Prop where
  a_ : a ≤ 1
  ok : s.Ok
  reg : ∃ rest, rest.length = 64 * (16 - supN s) ∧ regS ds a = frameL (superB key s) s.commit ++ rest
  oth : ∀ s', parsedL key (unfrL (regS ds ((a + 1) % 2))) = some s' → s'.commit < s.commit
  nums : NumLe ds s.commit.toNat
section
variable {key : List UInt8} {ds ds' : DSt} {a : Nat} {s : Sup}
theorem SupAt.par (h : SupAt key ds a s) : parsedL key (unfrL (regS ds a)) = some s := by
  obtain ⟨rest, hr, he⟩ := h.reg
  have := supN_le h.ok.txt
  obtain ⟨z, hz⟩ := unfr_sup key s rest (by omega) hr
  rw [he, hz, parsed_own key s z h.ok]
theorem newStep_none {k : List UInt8} {ds : DSt} {best : Option (Sup × Nat)} {i : Nat} (h : parsedL k (unfrL (regS ds i)) = none) : newStep k ds best i = best := by unfold newStep; rw [h]
theorem SupAt.newest (h : SupAt key ds a s) : newest key ds = some (s, a) := by
  have hp := h.par
  have ho := h.oth
  unfold Go.Sac.newest
  rcases (by have := h.a_; omega : a = 0 ∨ a = 1) with rfl | rfl
  · have h0 : newStep key ds none 0 = some (s, 0) := by unfold newStep; rw [hp]
    rw [h0]
    cases hq : parsedL key (unfrL (regS ds 1)) with
    | none => exact newStep_none hq
    | some s' =>
      have := ho s' hq
      unfold newStep
      rw [hq]
      show (if s.commit < s'.commit then some (s', 1) else some (s, 0)) = some (s, 0)
      rw [if_neg]
      intro hh
      rw [UInt64.lt_iff_toNat_lt] at this hh
      omega
  · cases hq : parsedL key (unfrL (regS ds 0)) with
    | none =>
      rw [newStep_none hq]
      unfold newStep; rw [hp]
    | some s' =>
      have := ho s' hq
      have h0 : newStep key ds none 0 = some (s', 0) := by unfold newStep; rw [hq]
      rw [h0]
      unfold newStep
      rw [hp]
      show (if s'.commit < s.commit then some (s, 1) else some (s', 0)) = some (s, 1)
      rw [if_pos this]
theorem NumLe.mono {M M' : Nat} (h : NumLe ds M) (hm : M ≤ M') : NumLe ds M' := fun j h0 h1 => by have := h j h0 h1; omega
theorem NumLe.congr {M : Nat} (h : NumLe ds M) (hc : ∀ j : Int, 0 ≤ j → j < 32 → ds'.now j = ds.now j) : NumLe ds' M := fun j h0 h1 => by rw [hc j h0 h1]; exact h j h0 h1
theorem regS_congr (ha : a ≤ 1) (hc : ∀ j : Int, 0 ≤ j → j < 32 → ds'.now j = ds.now j) : regS ds' a = regS ds a := reads_congr fun q hq => hc _ (by omega) (by omega)
theorem SupAt.congr (h : SupAt key ds a s) (hc : ∀ j : Int, 0 ≤ j → j < 32 → ds'.now j = ds.now j) : SupAt key ds' a s := by
  refine ⟨h.a_, h.ok, ?_, ?_, h.nums.congr hc⟩
  · rw [regS_congr h.a_ hc]; exact h.reg
  · rw [regS_congr (by omega) hc]; exact h.oth
theorem Laid.othReg (h : Laid key ds ds' a s) (ha : a ≤ 1) (hl : 32 ≤ ds.kept.length) (ht : s.txt.length ≤ 200) : regS ds' ((a + 1) % 2) = regS ds ((a + 1) % 2) := by
  have := supN_le ht
  exact h.other (by omega) (by omega) (by omega)
theorem Laid.nums (h : Laid key ds ds' a s) (hl : 32 ≤ ds.kept.length) {M : Nat} (hn : NumLe ds M) (hM : M ≤ s.commit.toNat) (hc : s.commit.toNat < 4294967296) : NumLe ds' s.commit.toNat := by
  intro j h0 h1
  rw [h.now j h0 (by omega)]
  split
  · rename_i hj
    obtain ⟨q1, q2⟩ := frame_nums key s hc (j - (a : Int) * 16).toNat (by omega)
    omega
  · have := hn j h0 h1
    omega
theorem Laid.sup (h : Laid key ds ds' a s) (ha : a ≤ 1) (hl : 32 ≤ ds.kept.length) (hok : s.Ok) {M : Nat} (hn : NumLe ds M) (hM : M ≤ s.commit.toNat) (hc : s.commit.toNat < 4294967296)
    (ho : ∀ s', parsedL key (unfrL (regS ds ((a + 1) % 2))) = some s' → s'.commit < s.commit) : SupAt key ds' a s := by
  refine ⟨ha, hok, ⟨_, DSt.reads_length _ _ _, h.reg ha hl hok.txt⟩, ?_, h.nums hl hn hM hc⟩
  rw [h.othReg ha hl hok.txt]
  exact ho
theorem SupAt.next (h : SupAt key ds a s) {s' : Sup} (hL : Laid key ds ds' ((a + 1) % 2) s') (hl : 32 ≤ ds.kept.length) (hok : s'.Ok) (hlt : s.commit.toNat < s'.commit.toNat) (hc : s'.commit.toNat < 4294967296) : SupAt key ds' ((a + 1) % 2) s' := by
  have ha := h.a_
  refine hL.sup (by omega) hl hok h.nums (by omega) hc ?_
  rw [show ((a + 1) % 2 + 1) % 2 = a by omega, h.par]
  intro s2 h2
  cases h2
  rw [UInt64.lt_iff_toNat_lt]; exact hlt
end
theorem dsN_now (n : Nat) (j : Int) : (dsN n).now j = sec0 := by
  unfold DSt.now dsN
  show (none : Option Sec).getD ((List.replicate n sec0).getD j.toNat sec0) = sec0
  rw [Option.getD_none, List.getD_eq_getElem?_getD, List.getElem?_replicate]
  split <;> rfl
theorem dsN_nums (n : Nat) : NumLe (dsN n) 0 := fun j _ _ => by rw [dsN_now]; decide
end Go.Sac

namespace Go.Sac
open Go
theorem parsed_supOf {k b : List UInt8} {s : Sup} (h : parsedL k b = some s) : s = supOf b := by
  unfold parsedL at h
  split at h
  · cases h
  · split at h
    · cases h; rfl
    · cases h
theorem reads_zero (n : Nat) (i : Int) : ∀ m, (dsN n).reads i m = List.replicate (64 * m) 0
  | 0 => rfl
  | m + 1 => by
    rw [DSt.reads_succ, reads_zero n i m, dsN_now]
    show List.replicate (64 * m) (0 : UInt8) ++ List.replicate 64 0 = _
    rw [List.replicate_append_replicate]; rfl
theorem unfr_zero : unfrL (List.replicate (64 * 16) 0) = List.replicate 896 0 := by decide +kernel
theorem newest_zero (k : List UInt8) (n : Nat) : comOf (newest k (dsN n)) = 0 ∧ epOf (newest k (dsN n)) = 0 := by
  cases h : newest k (dsN n) with
  | none => exact ⟨rfl, rfl⟩
  | some p =>
    obtain ⟨s, a⟩ := p
    obtain ⟨_, h1⟩ := newest_some h
    have h2 := parsed_supOf h1
    unfold regS at h2
    rw [reads_zero, unfr_zero] at h2
    subst h2
    have hz : (supOf (List.replicate 896 0)).commit = 0 ∧ (supOf (List.replicate 896 0)).epoch = 0 := by decide +kernel
    exact hz
theorem fmt_zero (k : List UInt8) (n : Nat) : newNext k (dsN n) = 1 := by
  have h := newNext_nat (k := k) (dsN_nums n) (by omega) (by rw [(newest_zero k n).1]; decide)
  apply UInt64.toNat_inj.1
  show _ = 1
  omega
theorem fmtS_zero (k : List UInt8) (n i : Nat) (hi : i ≤ 1) : fmtS k (dsN n) i = ⟨0, [], noPg, noPg, UInt64.ofNat (i + 1), 1⟩ := by
  unfold fmtS
  rw [fmt_zero, (newest_zero k n).2]
  rcases (by omega : i = 0 ∨ i = 1) with rfl | rfl <;> rfl
theorem fmtA_next (k : List UInt8) (ds : DSt) : fmtA k ds 1 = (fmtA k ds 0 + 1) % 2 := by
  have := newest_at k ds
  unfold fmtA
  omega
def pgZ (a : Nat) : Pg := ⟨⟨0, [], noPg, noPg⟩, ⟨0, [], noPg, noPg, 2, 1⟩, a, 0, fun _ => none, false⟩
theorem format_zero (key : List UInt8) (n : Nat) (hn : 4 ≤ n ∧ n ≤ 400) (V : UInt32 → List UInt8) :
    (∀ j, j ≤ 2 → (fmtD key (dsN (32 + 8 * n)) j).2 = 0) ∧ (⟨(fmtS key (dsN (32 + 8 * n)) 1).st, fmtS key (dsN (32 + 8 * n)) 1, fmtA key (dsN (32 + 8 * n)) 1, 0, fun _ => none, false⟩ : Pg) = pgZ (fmtA key (dsN (32 + 8 * n)) 1) ∧
    POK n 1 key (fmtD key (dsN (32 + 8 * n)) 2).1 (pgZ (fmtA key (dsN (32 + 8 * n)) 1)) V ∧ SupAt key (fmtD key (dsN (32 + 8 * n)) 2).1 (fmtA key (dsN (32 + 8 * n)) 1) ⟨0, [], noPg, noPg, 2, 1⟩ ∧ (fmtD key (dsN (32 + 8 * n)) 2).1.pend = [] := by
  generalize hds : dsN (32 + 8 * n) = ds
  have hz0 := fmtS_zero key (32 + 8 * n) 0 (by omega)
  have hz1 := fmtS_zero key (32 + 8 * n) 1 (by omega)
  have hnm := dsN_nums (32 + 8 * n)
  have hf := dsN_fine (32 + 8 * n) (by omega)
  have hl : ds.kept.length = 32 + 8 * n := by rw [← hds]; exact List.length_replicate
  have hoff : ds.offAt = 0 := by rw [← hds]; rfl
  have hst : ds.steps = 0 := by rw [← hds]; rfl
  have hnz := newest_zero key (32 + 8 * n)
  have hpar : ∀ (a : Nat) (s' : Sup), parsedL key (unfrL (regS ds a)) = some s' → s'.commit < 1 := by
    intro a s' h
    have h2 := parsed_supOf h
    rw [← hds] at h2
    unfold regS at h2
    rw [reads_zero, unfr_zero] at h2
    subst h2
    decide +kernel
  rw [hds] at hz0 hz1 hnm hf hnz
  have ha0 := fmtA_le key ds 0
  have ha1 := fmtA_next key ds
  have ok0 : (fmtS key ds 0).Ok := by rw [hz0]; exact ⟨Nat.zero_le _, fun _ h => Bool.noConfusion h, fun _ h => Bool.noConfusion h⟩
  have ok1 : (fmtS key ds 1).Ok := by rw [hz1]; exact ⟨Nat.zero_le _, fun _ h => Bool.noConfusion h, fun _ h => Bool.noConfusion h⟩
  have c0 : (fmtS key ds 0).commit.toNat = 1 := by rw [hz0]; rfl
  have c1 : (fmtS key ds 1).commit.toNat = 2 := by rw [hz1]; rfl
  obtain ⟨r0, hL0⟩ := laysD_ok (k := key) (a := fmtA key ds 0) (s := fmtS key ds 0) hoff ha0 (by omega) ok0.txt
  have b0 := laysD_bnd key ds (fmtA key ds 0) (fmtS key ds 0) hf ok0.txt (by omega)
  have hS0 := hL0.sup ha0 (by omega) ok0 hnm (by omega) (by omega) (fun s' h => by
    have := hpar _ s' h
    rw [UInt64.lt_iff_toNat_lt] at this ⊢
    have e : (1 : UInt64).toNat = 1 := rfl
    omega)
  have hd1 : fmtD key ds 1 = laysD key ds (fmtA key ds 0) (fmtS key ds 0) := rfl
  obtain ⟨r1, hL1⟩ := laysD_ok (k := key) (ds := (fmtD key ds 1).1) (a := fmtA key ds 1) (s := fmtS key ds 1) (by rw [hd1, hL0.offAt]; exact hoff) (by omega) (by rw [hd1, hL0.len]; omega) ok1.txt
  have b1 := laysD_bnd key (fmtD key ds 1).1 (fmtA key ds 1) (fmtS key ds 1) (by rw [hd1]; exact b0.1) ok1.txt (by rw [hd1]; omega)
  have hd2 : fmtD key ds 2 = laysD key (fmtD key ds 1).1 (fmtA key ds 1) (fmtS key ds 1) := rfl
  have hS1 : SupAt key (fmtD key ds 2).1 (fmtA key ds 1) (fmtS key ds 1) := by
    rw [ha1] at hL1 ⊢
    have h := hS0.next (s' := fmtS key ds 1) (ds' := (laysD key (fmtD key ds 1).1 ((fmtA key ds 0 + 1) % 2) (fmtS key ds 1)).1) hL1 (by rw [hL0.len]; omega) ok1 (by omega) (by omega)
    rw [hd2, ha1]; exact h
  refine ⟨fun j hj => ?_, ?_, ⟨?_, ?_, ?_, hn, ?_, by omega, rfl, ?_, fun i h => Bool.noConfusion h, fun i h => Bool.noConfusion h, fun i h => Bool.noConfusion h, fun i h => Bool.noConfusion h, fun i h => Bool.noConfusion h, fun i h => by rcases h with h | h <;> exact Bool.noConfusion h⟩, ?_, ?_⟩
  · rcases (by omega : j = 0 ∨ j = 1 ∨ j = 2) with rfl | rfl | rfl
    · rfl
    · rw [hd1]; exact r0
    · rw [hd2]; exact r1
  · rw [hz1]; rfl
  · rw [hd2, hL1.offAt, hd1, hL0.offAt]; exact hoff
  · rw [hd2]; exact b1.1
  · rw [hd2, hL1.len, hd1, hL0.len]; exact hl
  · rw [hd2]; rw [hd1] at b1 ⊢; omega
  · show fmtA key ds 1 ≤ 1; omega
  · rw [hz1] at hS1; exact hS1
  · rw [hd2]; exact hL1.pend
theorem open_pok {n k : Nat} {key : List UInt8} {ds : DSt} {a : Nat} {s : Sup} {V : UInt32 → List UInt8} (hS : SupAt key ds a s) (hoff : ds.offAt = 0) (hf : ds.Fine) (hl : ds.kept.length = 32 + 8 * n) (hn : 4 ≤ n ∧ n ≤ 400) (hst : ds.steps ≤ 100 * k) (hk : k + 1 ≤ 1000000) (hc : s.commit.toNat < 50000)
    (hu : ∀ i, s.used i = true → i.toNat < n) (hw : ∀ i, s.written i = true → s.used i = true) (hp : ∀ i, s.written i = true → ∃ g, Stands ds (deriveL key tPage 0) i.toNat g (V i)) :
    (laysD key ds ((a + 1) % 2) (opS key ds s)).2 = 0 ∧
    (∀ f : UInt32 → Option UInt64, (∀ i, s.written i = true → f i = some (genD (laysD key ds ((a + 1) % 2) (opS key ds s)).1 i)) → POK n (k + 1) key (laysD key ds ((a + 1) % 2) (opS key ds s)).1 ⟨s.st, opS key ds s, (a + 1) % 2, 0, f, false⟩ V) ∧
    SupAt key (laysD key ds ((a + 1) % 2) (opS key ds s)).1 ((a + 1) % 2) (opS key ds s) ∧ Laid key ds (laysD key ds ((a + 1) % 2) (opS key ds s)).1 ((a + 1) % 2) (opS key ds s) ∧ (opS key ds s).commit.toNat = s.commit.toNat + 1 := by
  have ha := hS.a_
  have hok := hS.ok
  have hok2 : (opS key ds s).Ok := ⟨hok.txt, hok.used, hok.written⟩
  have hnx := newNext_nat (k := key) hS.nums (by omega) (by rw [hS.newest]; exact Nat.le_refl _)
  have hcm : comOf (newest key ds) = s.commit := by rw [hS.newest]; rfl
  rw [hcm] at hnx
  have hc2 : (opS key ds s).commit.toNat = s.commit.toNat + 1 := by show (newNext key ds).toNat = _; omega
  obtain ⟨r0, hL⟩ := laysD_ok (k := key) (a := (a + 1) % 2) (s := opS key ds s) hoff (by omega) (by omega) hok2.txt
  have hb := laysD_bnd key ds ((a + 1) % 2) (opS key ds s) hf hok2.txt (by omega)
  have hsn := supN_le hok2.txt
  have hS2 := hS.next hL (by omega) hok2 (by omega) (by omega)
  refine ⟨r0, fun f hff => ⟨by rw [hL.offAt]; exact hoff, hb.1, by rw [hL.len]; exact hl, hn, by omega, hk, rfl, by show (a + 1) % 2 ≤ 1; omega, hu, hu, hw, hw, fun i hi => .inr hi, fun i hi => ?_⟩, hS2, hL, hc2⟩
  have hi : s.written i = true := by rcases hi with hi | hi <;> exact hi
  obtain ⟨g, hg⟩ := hp i hi
  have hin := hu i (hw i hi)
  have hg2 : Stands (laysD key ds ((a + 1) % 2) (opS key ds s)).1 (deriveL key tPage 0) i.toNat g (V i) := hg.other fun q hq => by
    rw [hL.now _ (by omega) (by omega), if_neg (by omega)]
  refine ⟨g, ?_, hg2⟩
  show f i = some g
  rw [hff i hi]
  unfold genD
  have e8 : (laysD key ds ((a + 1) % 2) (opS key ds s)).1.reads (32 + (i.toNat : Int) * 8) 8 = (laysD key ds ((a + 1) % 2) (opS key ds s)).1.reads (32 + (i.toNat : Int) * 8) 1 ++ (laysD key ds ((a + 1) % 2) (opS key ds s)).1.reads (32 + (i.toNat : Int) * 8 + (1 : Nat)) 7 := reads_add _ _ 1 7
  have h1 : ((laysD key ds ((a + 1) % 2) (opS key ds s)).1.reads (32 + (i.toNat : Int) * 8) 1).length = 64 := DSt.reads_length _ _ _
  rw [hg2.1] at e8
  have e9 : (pageB (deriveL key tPage 0) i.toNat g.toNat (V i)).take 8 = ((laysD key ds ((a + 1) % 2) (opS key ds s)).1.reads (32 + (i.toNat : Int) * 8) 1).take 8 := by rw [e8, List.take_append_of_le_length (by omega)]
  rw [← e9, pageB_gen]
theorem newest_wrong {k k2 : List UInt8} {ds ds' : DSt} {a : Nat} {s s' : Sup} (hS : SupAt k ds a s) (hL : Laid k ds ds' ((a + 1) % 2) s') (hl : 32 ≤ ds.kept.length) (hok : s'.Ok) (h1 : ¬ signL k (superP s) = signL k2 (superP s)) (h2 : ¬ signL k (superP s') = signL k2 (superP s')) : newest k2 ds' = none := by
  have ha := hS.a_
  obtain ⟨rest, hr, he⟩ := hS.reg
  have n1 := supN_le hS.ok.txt
  have n2 := supN_le hok.txt
  have ho := hL.othReg (by omega) hl hok.txt
  rw [show ((a + 1) % 2 + 1) % 2 = a by omega] at ho
  have p1 : parsedL k2 (unfrL (regS ds' a)) = none := by
    obtain ⟨z, hz⟩ := unfr_sup k s rest (by omega) hr
    rw [ho, he, hz, parsed_any k k2 s z hS.ok, if_neg h1]
  have p2 : parsedL k2 (unfrL (regS ds' ((a + 1) % 2))) = none := by
    obtain ⟨z, hz⟩ := unfr_sup k s' _ (by omega) (DSt.reads_length ds ((((a + 1) % 2 : Nat) : Int) * 16 + supN s') (16 - supN s'))
    rw [hL.reg (by omega) hl hok.txt, hz, parsed_any k k2 s' z hok, if_neg h2]
  unfold newest
  rcases (by omega : a = 0 ∨ a = 1) with rfl | rfl
  · rw [newStep_none p1, newStep_none p2]
  · rw [newStep_none p2, newStep_none p1]
end Go.Sac

namespace Go.Sac
open Go
theorem mget_no {κ ν : Type} [DecidableEq κ] {k : κ} {m : List (κ × ν)} (h : mget k m = none) : k ∉ m.map (·.1) := by
  induction m with
  | nil => simp
  | cons p m ih =>
    obtain ⟨x, u⟩ := p
    simp only [mget] at h
    by_cases hx : k = x
    · rw [if_pos hx] at h; cases h
    · rw [if_neg hx] at h
      simp only [List.map_cons, List.mem_cons, not_or]
      exact ⟨hx, ih h⟩
theorem crashL_other (m : List (Int × Sec)) (j : Nat) : ∀ (is : List Int) (ch : List UInt8) (k : List Sec), (∀ i ∈ is, i.toNat ≠ j) → (crashL m is ch k).getD j sec0 = k.getD j sec0
  | [], _, _, _ => rfl
  | i :: is, ch, k, h => by
    rw [crashL, crashL_other m j is _ _ (fun x hx => h x (by simp [hx]))]
    have hi := h i (by simp)
    rw [List.getD_eq_getElem?_getD, List.getElem?_set_ne hi, ← List.getD_eq_getElem?_getD]
theorem crash_now {ds : DSt} (hf : ds.Fine) (ch : List UInt8) {j : Int} (hj : 0 ≤ j) (hp : mget j ds.pend = none) : (ds.crash ch).now j = ds.now j := by
  have hno := mget_no hp
  unfold DSt.now
  rw [hp]
  show ((none : Option Sec).getD ((crashL ds.pend (sortI (ds.pend.map (·.1))) ch ds.kept).getD j.toNat sec0)) = _
  rw [Option.getD_none, Option.getD_none]
  refine crashL_other _ _ _ _ _ (fun i hi hh => hno ?_)
  unfold sortI at hi
  rw [List.mem_mergeSort] at hi
  obtain ⟨p, hp1, hp2⟩ := List.mem_map.1 hi
  have := hf.keys p hp1
  rw [show j = i by omega]
  exact hi
theorem crash_fine {ds : DSt} (hf : ds.Fine) (ch : List UInt8) : (ds.crash ch).Fine := ⟨hf.steps, Nat.zero_le _, fun p hp => by simp [DSt.crash] at hp, by show (crashL _ _ _ _).length ≤ 4000; rw [crashL_length]; exact hf.size⟩
theorem crash_len (ds : DSt) (ch : List UInt8) : (ds.crash ch).kept.length = ds.kept.length := crashL_length _ _ _ _
structure PInv (n k : Nat) (key : List UInt8) (ds : DSt) (P : Pg) (V : UInt32 → List UInt8) : Prop where
  ok : POK n k key ds P V
  sup : SupAt key ds P.at_ P.kept
  com : P.kept.commit.toNat ≤ k + 1
  few : k ≤ 40000
  dur0 : ∀ j : Int, 0 ≤ j → j < 32 → mget j ds.pend = none
  dur1 : ∀ i, P.kept.written i = true → ∀ q : Nat, q < 8 → mget (32 + (i.toNat : Int) * 8 + q) ds.pend = none
structure PCra (n k : Nat) (key : List UInt8) (ds : DSt) (a : Nat) (s : Sup) (V : UInt32 → List UInt8) : Prop where
  off : ds.offAt = 0
  fine : ds.Fine
  pend : ds.pend = []
  len : ds.kept.length = 32 + 8 * n
  size : 4 ≤ n ∧ n ≤ 400
  steps : ds.steps ≤ 100 * k
  few : k ≤ 40000
  sup : SupAt key ds a s
  com : s.commit.toNat ≤ k + 1
  used : ∀ i, s.used i = true → i.toNat < n
  written : ∀ i, s.written i = true → s.used i = true
  pages : ∀ i, s.written i = true → ∃ g, Stands ds (deriveL key tPage 0) i.toNat g (V i)
section
variable {n k : Nat} {key : List UInt8} {ds : DSt} {P : Pg} {V : UInt32 → List UInt8}
theorem PInv.alloc (h : PInv n k key ds P V) (i : UInt32) (hi : i.toNat < n) : PInv n k key ds { P with now := { P.now with used := addPg P.now.used i } } V :=
  ⟨h.ok.alloc i hi, h.sup, h.com, h.few, h.dur0, h.dur1⟩
theorem PInv.free (h : PInv n k key ds P V) (i : UInt32) : PInv n k key ds { P with now := { P.now with used := delPg P.now.used i, written := delPg P.now.written i } } V :=
  ⟨h.ok.free i, h.sup, h.com, h.few, h.dur0, h.dur1⟩
theorem PInv.undo (h : PInv n k key ds P V) : PInv n k key ds { P with now := P.kept.st } V := ⟨h.ok.undo, h.sup, h.com, h.few, h.dur0, h.dur1⟩
theorem PInv.write (h : PInv n k key ds P V) (hk : k + 1 ≤ 40000) (i : UInt32) (hi : P.fresh i = true) (l : List UInt8) (hl : l.length ≤ 480) :
    (ds.writes (32 + (i.toNat : Int) * 8) (pageB (deriveL key tPage 0) i.toNat P.gen.toNat l)).2 = 0 ∧
    PInv n (k + 1) key (ds.writes (32 + (i.toNat : Int) * 8) (pageB (deriveL key tPage 0) i.toNat P.gen.toNat l)).1 { P with count := P.count + 1, now := { P.now with written := addPg P.now.written i }, gens := setG P.gens i P.gen } (setV V i l) := by
  obtain ⟨h0, h1⟩ := h.ok.write (by omega) i hi l hl
  have hlen := h.ok.len
  obtain ⟨hu, hku⟩ := fresh_iff.1 hi
  have hin := h.ok.used i hu
  have hpl := pageB_length (deriveL key tPage 0) i.toNat P.gen.toNat l hl
  obtain ⟨_, hp⟩ := writes_ok 8 ds (32 + (i.toNat : Int) * 8) (pageB (deriveL key tPage 0) i.toNat P.gen.toNat l) h.ok.off hpl (by omega) (by omega)
  refine ⟨h0, h1, h.sup.congr fun j hj0 hj1 => by rw [hp.now, if_neg (by omega)], by have := h.com; show P.kept.commit.toNat ≤ _; omega, hk, fun j hj0 hj1 => by rw [hp.pend, if_neg (by omega)]; exact h.dur0 j hj0 hj1, fun j hj q hq => ?_⟩
  have hj : P.kept.written j = true := hj
  have hjn : j.toNat ≠ i.toNat := fun hh => by
    have := h.ok.kwritten j hj
    rw [UInt32.toNat_inj.1 hh, hku] at this; cases this
  rw [hp.pend, if_neg (by omega)]
  exact h.dur1 j hj q hq
theorem com_next {s : UInt64} (h : s.toNat ≤ 50000) : (s + 1).toNat = s.toNat + 1 := by
  rw [UInt64.toNat_add]
  exact Nat.mod_eq_of_lt (by show s.toNat + 1 < _; omega)
theorem PInv.commit (h : PInv n k key ds P V) (hk : k + 1 ≤ 40000) (root : UInt32) (txt : List UInt8) (ht : txt.length ≤ 200) :
    ds.flush.2 = 0 ∧ (laysD key ds.flush.1 ((P.at_ + 1) % 2) (comS P root txt)).2 = 0 ∧
    PInv n (k + 1) key (laysD key ds.flush.1 ((P.at_ + 1) % 2) (comS P root txt)).1 { P with now := (comS P root txt).st, kept := comS P root txt, at_ := (P.at_ + 1) % 2 } V ∧
    Laid key ds.flush.1 (laysD key ds.flush.1 ((P.at_ + 1) % 2) (comS P root txt)).1 ((P.at_ + 1) % 2) (comS P root txt) ∧ SupAt key ds.flush.1 P.at_ P.kept := by
  obtain ⟨h0, h1, h2, hL⟩ := h.ok.commit (by omega) root txt ht
  have hlen := h.ok.len
  have hfl := DSt.flush_len ds
  have hsz := h.ok.size
  have hcom := h.com
  have hfew := h.few
  have hS1 : SupAt key ds.flush.1 P.at_ P.kept := h.sup.congr fun j hj0 hj1 => flush_now h0 hj0 (by omega)
  have hcn : (comS P root txt).commit.toNat = P.kept.commit.toNat + 1 := com_next (by omega)
  have hok : (comS P root txt).Ok := ⟨ht, fun i hi => by have := h.ok.used i hi; omega, fun i hi => by have := h.ok.used i (h.ok.written i hi); omega⟩
  have hS2 := hS1.next hL (by omega) hok (by omega) (by omega)
  refine ⟨h0, h1, ⟨h2, hS2, by show (comS P root txt).commit.toNat ≤ _; omega, hk, fun j _ _ => by rw [hL.pend]; rfl, fun i _ q _ => by rw [hL.pend]; rfl⟩, hL, hS1⟩
theorem PInv.crash (h : PInv n k key ds P V) (ch : List UInt8) : PCra n k key (ds.crash ch) P.at_ P.kept V := by
  have hf := h.ok.fine
  refine ⟨rfl, crash_fine hf ch, rfl, by rw [crash_len]; exact h.ok.len, h.ok.size, h.ok.steps, h.few, h.sup.congr fun j hj0 hj1 => crash_now hf ch hj0 (h.dur0 j hj0 hj1), h.com, h.ok.kused, h.ok.kwritten, fun i hi => ?_⟩
  obtain ⟨g, _, hg⟩ := h.ok.pages i (.inr hi)
  exact ⟨g, hg.other fun q hq => crash_now hf ch (by omega) (h.dur1 i hi q hq)⟩
theorem PCra.open {a : Nat} {s : Sup} (h : PCra n k key ds a s V) (hk : k + 1 ≤ 40000) :
    newest key ds = some (s, a) ∧ (laysD key ds ((a + 1) % 2) (opS key ds s)).2 = 0 ∧
    (∀ f : UInt32 → Option UInt64, (∀ i, s.written i = true → f i = some (genD (laysD key ds ((a + 1) % 2) (opS key ds s)).1 i)) → PInv n (k + 1) key (laysD key ds ((a + 1) % 2) (opS key ds s)).1 ⟨s.st, opS key ds s, (a + 1) % 2, 0, f, false⟩ V) ∧
    Laid key ds (laysD key ds ((a + 1) % 2) (opS key ds s)).1 ((a + 1) % 2) (opS key ds s) ∧ (opS key ds s).commit.toNat = s.commit.toNat + 1 := by
  have hc := h.com
  have hfew := h.few
  obtain ⟨h0, h1, h2, h3, h4⟩ := open_pok h.sup h.off h.fine h.len h.size h.steps (by omega) (by omega) h.used h.written h.pages
  exact ⟨h.sup.newest, h0, fun f hf => ⟨h1 f hf, h2, by show (opS key ds s).commit.toNat ≤ _; omega, hk, fun j _ _ => by rw [h3.pend]; rfl, fun i _ q _ => by rw [h3.pend]; rfl⟩, h3, h4⟩
end
theorem PInv.zero (key : List UInt8) (n : Nat) (hn : 4 ≤ n ∧ n ≤ 400) (V : UInt32 → List UInt8) :
    (∀ j, j ≤ 2 → (fmtD key (dsN (32 + 8 * n)) j).2 = 0) ∧ (⟨(fmtS key (dsN (32 + 8 * n)) 1).st, fmtS key (dsN (32 + 8 * n)) 1, fmtA key (dsN (32 + 8 * n)) 1, 0, fun _ => none, false⟩ : Pg) = pgZ (fmtA key (dsN (32 + 8 * n)) 1) ∧
    PInv n 1 key (fmtD key (dsN (32 + 8 * n)) 2).1 (pgZ (fmtA key (dsN (32 + 8 * n)) 1)) V := by
  obtain ⟨h1, h2, h3, h4, h5⟩ := format_zero key n hn V
  exact ⟨h1, h2, h3, h4, Nat.le_refl 2, by omega, fun j _ _ => by rw [h5]; rfl, fun i hi => Bool.noConfusion hi⟩
end Go.Sac

section
namespace Go.Sac
set_option maxRecDepth 100000
def kA : List UInt8 := 0 :: 1 :: List.replicate 30 0
def kB : List UInt8 := 0 :: 2 :: List.replicate 30 0
def zeroPg : PgF := addPg noPg 0
def supK (c : UInt64) (e : UInt32) : Sup := ⟨7, [109], zeroPg, zeroPg, c, e⟩
def marks0 : List UInt8 := 1 :: List.replicate 49 0
theorem marks_zero : marksL zeroPg = marks0 := by decide +kernel
def bytK (c e : Nat) : List UInt8 := be 8 c ++ be 4 e ++ be 4 7 ++ (be 2 1 ++ [109]) ++ marks0 ++ marks0
theorem supK_P (c : UInt64) (e : UInt32) : superP (supK c e) = bytK c.toNat e.toNat := by
  unfold superP
  show _ ++ marksL zeroPg ++ marksL zeroPg = _
  rw [marks_zero]; rfl
theorem tagK3 : ¬ signL kA (bytK 3 1) = signL kB (bytK 3 1) := by decide +kernel
theorem tagK4 : ¬ signL kA (bytK 4 2) = signL kB (bytK 4 2) := by decide +kernel
theorem supK_tag3 : ¬ signL kA (superP (supK 3 1)) = signL kB (superP (supK 3 1)) := by rw [supK_P]; exact tagK3
theorem supK_tag4 : ¬ signL kA (superP (supK 4 2)) = signL kB (superP (supK 4 2)) := by rw [supK_P]; exact tagK4
end Go.Sac

end
namespace Go.Sac
open Go
structure MPg where
  used : Bool
  fresh : Bool
  written : Bool
  was : Bool
  b : List UInt8
deriving DecidableEq
instance : Flat MPg := ⟨5, fun p => [.bool p.used, .bool p.fresh, .bool p.written, .bool p.was, str p.b], fun _ => rfl, fun s x h => by
  simp only [List.mem_cons, List.not_mem_nil, or_false] at h
  rcases h with rfl | rfl | rfl | rfl | rfl <;> rfl⟩
def pg0 : MPg := ⟨false, false, false, false, []⟩
structure Mdl where
  p : List MPg
  old : List MPg
  root : UInt32
  oldRoot : UInt32
  txt : List UInt8
  oldTxt : List UInt8
def Mdl.zero (n : Nat) : Mdl := ⟨List.replicate n pg0, List.replicate n pg0, 0, 0, [], []⟩
def mdC (M : Mdl) (pv ov : Value) : List Value := [pv, ov, .int .u32 M.root.toNat, .int .u32 M.oldRoot.toNat, str M.txt, str M.oldTxt]
def MF (mb : Nat) (pv ov : Value) : List Nat := mb :: (blkOf pv ++ blkOf ov)
structure MAt (w : World) (mb : Nat) (pv ov : Value) (M : Mdl) : Prop where
  blk : Blk w mb (mdC M pv ov)
  p : Own w pv M.p
  old : Own w ov M.old
  np : mb ∉ blkOf pv
  no : mb ∉ blkOf ov
  apart : ∀ x ∈ blkOf pv, x ∉ blkOf ov
section
variable {w w' : World} {mb : Nat} {pv ov : Value} {M : Mdl}
theorem MAt.chg {S : List Nat} (h : MAt w mb pv ov M) (hm : Chg S w w') (hn : ∀ x ∈ MF mb pv ov, x ∉ S) : MAt w' mb pv ov M :=
  ⟨h.blk.chg hm (hn mb (by simp [MF])), h.p.mod hm (fun x hx => hn x (by simp [MF, hx])), h.old.mod hm (fun x hx => hn x (by simp [MF, hx])), h.np, h.no, h.apart⟩
theorem MAt.chg0 (h : MAt w mb pv ov M) (hm : Chg [] w w') : MAt w' mb pv ov M := h.chg hm (by simp)
theorem MAt.lt (h : MAt w mb pv ov M) : ∀ x ∈ MF mb pv ov, x < w.heap.size := by
  intro x hx
  simp only [MF, List.mem_cons, List.mem_append] at hx
  rcases hx with rfl | hx | hx
  · exact h.blk.lt
  · exact h.p.sl.lt x hx
  · exact h.old.sl.lt x hx
end
def k39 : List UInt8 := 0 :: 0 :: 0 :: 9 :: List.replicate 28 0
end Go.Sac

namespace Go.Sac
open Go Go.Maps Go.Proofs
abbrev encQ (q : IntKind) : Int → Value := Value.int q
theorem encQ_inj {q : IntKind} {x y : Int} (h : encQ q x = encQ q y) : x = y := by simpa [encQ] using h
theorem perm_keysQ {H : Type} (q : IntKind) {es : List (Lit × DataW H)} (hp : es.Pairwise (fun p q => p.1 ≠ q.1)) (hk : ∀ p ∈ es, ∃ x, p.1 = .int q x) {ss : List Int} (hnd : ss.Nodup)
    (hm : ∀ x, x ∈ ss ↔ has (.map es) (.int q x) = true) : ss.Perm (intKeys (.map es)) := by
  refine (List.perm_ext_iff_of_nodup hnd ?_).2 fun x => ?_
  · show (es.map fun p => intOf p.1).Nodup
    refine List.pairwise_map.2 (hp.imp_of_mem fun {p q} hp' hq' hne e => hne ?_)
    obtain ⟨a, ha⟩ := hk p hp'
    obtain ⟨b, hb⟩ := hk q hq'
    rw [ha, hb] at e ⊢
    exact congrArg _ e
  · rw [hm x, has_eq, List.any_eq_true]
    show _ ↔ x ∈ es.map fun p => intOf p.1
    rw [List.mem_map]
    constructor
    · rintro ⟨p, hp', hs⟩
      obtain ⟨a, ha⟩ := hk p hp'
      rw [ha] at hs
      exact ⟨p, hp', by rw [ha]; simpa [Lit.sameKey, intOf] using hs⟩
    · rintro ⟨p, hp', rfl⟩
      obtain ⟨a, ha⟩ := hk p hp'
      exact ⟨p, hp', by rw [ha]; simp [Lit.sameKey, intOf]⟩
def Came {H : Type} (q : IntKind) (D0 : DataW H) (left : Lit → Bool) (ss : List Int) : Prop := ss.Nodup ∧ ∀ x, x ∈ ss ↔ (has D0 (.int q x) = true ∧ left (.int q x) = false)
section
variable {H : Type} {q : IntKind} {D0 : DataW H} {left : Lit → Bool} {ss : List Int}
theorem Came.start (q : IntKind) (D0 : DataW H) : Came q D0 (has D0) [] := ⟨List.nodup_nil, fun x => by cases has D0 (.int q x) <;> simp⟩
theorem Came.step (h : Came q D0 left ss) {x : Int} {y : DataW H} (hlk : left (.int q x) = true) (hat : ∀ zd, D0.atKey (.int q x) zd = y) : Came q D0 (fun z => left z && !z.sameKey (.int q x)) (ss ++ [x]) := by
  have hhas : has D0 (.int q x) = true := has_true_of_atKey hat
  have hnew : x ∉ ss := fun hx => by have := ((h.2 x).1 hx).2; rw [hlk] at this; cases this
  refine ⟨List.nodup_append.2 ⟨h.1, by simp, fun a ha b hb => by simp at hb; subst hb; exact fun e => hnew (e ▸ ha)⟩, fun y => ?_⟩
  by_cases hy : y = x
  · subst hy; simp [hhas, Lit.sameKey]
  · simp [h.2 y, hy, Lit.sameKey]
variable {P : Program} {k : TypeId} {R : Value → Option (DataW H × List MemPlace)} {w : World} {b n : Nat}
theorem Came.perm (h : Came q D0 left ss) (hown : w.ownsMap P k R b n D0) (K : Keyed P k) (hk : P.underlying k = some (.int q)) (hl : ∀ kl, left kl = false) : ss.Perm (intKeys D0) := by
  obtain ⟨es, hD, hpw, _⟩ := hown.entries K
  obtain ⟨es', hD', hko⟩ := hown.keysOf
  obtain rfl : es = es' := by rw [hD] at hD'; simpa using hD'
  subst hD
  exact perm_keysQ q hpw (fun p hp => by obtain ⟨v, hv⟩ := hko p hp; obtain ⟨x, _, hx, _⟩ := Maps.keyOf_int_inv hk hv; exact ⟨x, hx⟩) h.1 (fun x => by rw [h.2 x, hl]; simp)
end
theorem owns_of_map32 {P : Program} {kt : TypeId} {w : World} {r : Nat} {m : List (UInt32 × Value)} (hk : P.underlying kt = some (.int .u32)) (hm : MapAt w r m) (hl : m.length ≤ maxLen) :
    ∃ D0 : DataW Unit, w.ownsMap P kt (fun _ => some (.lit (.bool true), [])) r m.length D0 ∧ (intKeys D0).Perm (m.map fun p => (p.1.toNat : Int)) ∧ Maps.size D0 = m.length := by
  obtain ⟨es, cl, hb, he, hn, hbn, hlt⟩ := hm
  have hlen : es.size = m.length := by have := congrArg List.length he; simpa using this
  have hkey : ∀ a : UInt32, keyOf P kt (.int .u32 a.toNat) = some (.int .u32 a.toNat) := fun a => by
    unfold keyOf
    rw [hk]
    simp only [mapKey, hk]
    have h1 : IntKind.u32.min = 0 := by decide
    have h2 : IntKind.u32.max = 4294967295 := by decide
    have h3 := a.toNat_lt
    have hw : (Lit.int .u32 (a.toNat : Int)).wf = true := by
      simp only [Lit.wf, Bool.and_eq_true, decide_eq_true_eq, h1, h2]; omega
    simp [hw]
  have hes : ∀ x ∈ es.toList, ∃ a : UInt32, x.key = .int .u32 a.toNat := fun x hx => by
    have h1 : (x.key, x.val) ∈ es.toList.map (fun e => (e.key, e.val)) := List.mem_map.2 ⟨x, hx, rfl⟩
    rw [he] at h1
    obtain ⟨p, hp, h2⟩ := List.mem_map.1 h1
    simp only [Prod.mk.injEq] at h2
    exact ⟨p.1, h2.1.symm⟩
  have hF : WideElems.Fit P kt (fun _ => some ((.lit (.bool true) : DataW Unit), [])) es cl := by
    refine ⟨by omega, ⟨hlt, hbn, ?_⟩, fun x hx => ?_⟩
    · rw [keys_of he]
      unfold List.Nodup at hn ⊢
      rw [List.pairwise_map]
      exact hn.imp (fun h e => h (Key.inj _ _ e))
    · obtain ⟨a, ha⟩ := hes x hx
      exact ⟨(.int .u32 a.toNat, .lit (.bool true)), by simp [WideElems.rd, ha, hkey a]⟩
  refine ⟨_, ⟨es, cl, hb, hF, by omega, rfl⟩, ?_, ?_⟩
  · have hp := (Go.WideShapes.sorted_perm (es.toList.map (WideElems.rg P kt (fun _ => some ((.lit (.bool true) : DataW Unit), []))))).map (fun p => intOf p.1)
    refine hp.trans (List.Perm.of_eq ?_)
    rw [List.map_map]
    have h3 : es.toList.map ((fun p : Lit × DataW Unit => intOf p.1) ∘ WideElems.rg P kt (fun _ => some ((.lit (.bool true) : DataW Unit), []))) = es.toList.map (fun e => match e.key with | .int _ a => a | _ => 0) := by
      apply List.map_congr_left
      intro x hx
      obtain ⟨a, ha⟩ := hes x hx
      simp [WideElems.rg, WideElems.rd, ha, hkey a, intOf]
    rw [h3]
    have h4 : es.toList.map (fun e => match e.key with | .int _ a => a | _ => 0) = (es.toList.map (fun e => (e.key, e.val))).map (fun p => match p.1 with | .int _ a => a | _ => 0) := by
      rw [List.map_map]; rfl
    rw [h4, he, List.map_map]
    apply List.map_congr_left
    intro p _
    rfl
  · simp [Maps.size, length_sorted, hlen]
theorem perm_of_nums {ss : List Int} {ks : List UInt32} (h : ss.Perm (ks.map fun p => (p.toNat : Int))) : ∃ l : List UInt32, l.Perm ks ∧ ss = l.map fun p => (p.toNat : Int) := by
  have hi : ∀ k : UInt32, UInt32.ofNat ((k.toNat : Int).toNat) = k := fun k => by simp
  refine ⟨ss.map fun z => UInt32.ofNat z.toNat, ?_, ?_⟩
  · have := h.map fun z => UInt32.ofNat z.toNat
    rw [List.map_map] at this
    refine this.trans (List.Perm.of_eq ?_)
    conv => rhs; rw [← List.map_id ks]
    exact List.map_congr_left fun k _ => hi k
  · rw [List.map_map]
    conv => lhs; rw [← List.map_id ss]
    refine List.map_congr_left fun z hz => ?_
    obtain ⟨k, _, rfl⟩ := List.mem_map.1 (h.mem_iff.1 hz)
    show (k.toNat : Int) = ((UInt32.ofNat ((k.toNat : Int).toNat)).toNat : Int)
    rw [hi]
theorem own_of_rowQ {w : World} {base : Nat} {e : TypeId} {v : Value} {l : List UInt32} (h : w.ownsRow base e 1 v l.length (l.map fun x => Value.int .u32 x.toNat)) :
    Own w v l ∧ In v [] base := by
  obtain ⟨_, h⟩ := h
  have he : encL l = l.map fun (x : UInt32) => Value.int .u32 (x.toNat : Int) := encL_map (fun (x : UInt32) => Value.int .u32 (x.toNat : Int)) (fun _ => rfl) l
  rcases h with ⟨rfl, h0⟩ | ⟨g, cap, cur, rfl, hb, hblk, hn, hcap, hcs, hx⟩
  · have : l = [] := List.eq_nil_of_length_eq_zero h0
    subst this
    exact ⟨Own.nil w, In.nil⟩
  · refine ⟨⟨some ⟨g, 0, none⟩, cap, rfl, hn, rfl, cur, e, (0, 0), hblk, soft_zero _, ?_, fun i x hi => ?_⟩, In.of_ge hb⟩
    · show 0 + cap * 1 ≤ cur.size
      omega
    · rw [he, ← hx] at hi
      have h1 := List.getElem?_take (l := cur.toList) (i := l.length * 1) (j := i)
      rw [h1] at hi
      split at hi
      · simp only [Nat.zero_add]
        simpa using hi
      · cases hi
end Go.Sac

namespace Go.Sac
open Go
def sortU (l : List UInt32) : List UInt32 := l.mergeSort fun x y => decide (x ≤ y)
theorem sortU_perm (l : List UInt32) : (sortU l).Perm l := List.mergeSort_perm l _
theorem sortU_length (l : List UInt32) : (sortU l).length = l.length := (sortU_perm l).length_eq
theorem sortU_pair (l : List UInt32) : (sortU l).Pairwise (fun a b => decide (a ≤ b) = true) :=
  List.pairwise_mergeSort (fun a b c h1 h2 => by simp only [decide_eq_true_eq] at *; exact UInt32.le_trans h1 h2)
    (fun a b => by simp only [Bool.or_eq_true, decide_eq_true_eq]; exact UInt32.le_total a b) l
theorem sortU_of {l l' : List UInt32} (hp : l'.Perm l) (hs : l'.Pairwise (fun a b => decide (a ≤ b) = true)) : l' = sortU l := by
  refine List.Perm.eq_of_pairwise (le := fun a b => decide (a ≤ b) = true) (fun a b _ _ h1 h2 => ?_) hs (sortU_pair l) (hp.trans (sortU_perm l).symm)
  simp only [decide_eq_true_eq] at h1 h2
  exact UInt32.le_antisymm h1 h2
def swapU (l : List UInt32) (j : Nat) : List UInt32 := (l.set j (l.getD (j - 1) 0)).set (j - 1) (l.getD j 0)
theorem swapU_get (l : List UInt32) (j a : Nat) (hj : 0 < j) (hl : j < l.length) : (swapU l j).getD a 0 = if a = j - 1 then l.getD j 0 else if a = j then l.getD (j - 1) 0 else l.getD a 0 := by
  unfold swapU
  simp only [List.getD_eq_getElem?_getD, List.getElem?_set, List.length_set]
  by_cases h1 : a = j - 1
  · subst h1
    rw [if_pos rfl, if_pos (by omega), if_pos rfl, Option.getD_some]
  · have h1' : ¬ j - 1 = a := fun e => h1 e.symm
    rw [if_neg h1', if_neg h1]
    by_cases h2 : a = j
    · subst h2
      rw [if_pos rfl, if_pos rfl, if_pos hl, Option.getD_some]
    · have h2' : ¬ j = a := fun e => h2 e.symm
      rw [if_neg h2', if_neg h2]
theorem perm_set_set {α : Type} (l : List α) (i j : Nat) (hi : i < l.length) (hj : j < l.length) : ((l.set i l[j]).set j l[i]).Perm l := List.set_set_perm hi hj
theorem swapU_perm (l : List UInt32) (j : Nat) (hl : j < l.length) : (swapU l j).Perm l := by
  unfold swapU
  have h1 : l.getD (j - 1) 0 = l[j - 1] := by rw [List.getD_eq_getElem?_getD, List.getElem?_eq_getElem (by omega)]; rfl
  have h2 : l.getD j 0 = l[j] := by rw [List.getD_eq_getElem?_getD, List.getElem?_eq_getElem hl]; rfl
  rw [h1, h2]
  exact perm_set_set l j (j - 1) hl (by omega)
def MidU (l0 l : List UInt32) (i j : Nat) : Prop := l.Perm l0 ∧ ∀ a b, a < b → b ≤ i → b ≠ j → l.getD a 0 ≤ l.getD b 0
def SrtU (l0 l : List UInt32) (i : Nat) : Prop := l.Perm l0 ∧ ∀ a b, a < b → b < i → l.getD a 0 ≤ l.getD b 0
theorem SrtU.mid {l0 l : List UInt32} {i : Nat} (h : SrtU l0 l i) : MidU l0 l i i := ⟨h.1, fun a b h1 h2 h3 => h.2 a b h1 (by omega)⟩
theorem MidU.swap {l0 l : List UInt32} {i j : Nat} (h : MidU l0 l i j) (hj : 0 < j) (hji : j ≤ i) (hl : i < l.length) (hlt : l.getD j 0 < l.getD (j - 1) 0) : MidU l0 (swapU l j) i (j - 1) := by
  refine ⟨(swapU_perm l j (by omega)).trans h.1, fun a b h1 h2 h3 => ?_⟩
  rw [swapU_get l j a hj (by omega), swapU_get l j b hj (by omega)]
  rw [if_neg h3]
  by_cases hb : b = j
  · subst hb
    rw [if_pos rfl]
    by_cases ha : a = b - 1
    · rw [if_pos ha]; exact UInt32.le_of_lt hlt
    · rw [if_neg ha, if_neg (by omega)]
      exact h.2 a (b - 1) (by omega) (by omega) (by omega)
  · rw [if_neg hb]
    by_cases ha : a = j - 1
    · rw [if_pos ha]
      exact h.2 j b (by omega) h2 hb
    · rw [if_neg ha]
      by_cases ha' : a = j
      · rw [if_pos ha']
        exact h.2 (j - 1) b (by omega) h2 hb
      · rw [if_neg ha']
        exact h.2 a b h1 h2 hb
theorem MidU.done {l0 l : List UInt32} {i j : Nat} (h : MidU l0 l i j) (hji : j ≤ i) (hs : j = 0 ∨ ¬ l.getD j 0 < l.getD (j - 1) 0) : SrtU l0 l (i + 1) := by
  refine ⟨h.1, fun a b h1 h2 => ?_⟩
  by_cases hb : b = j
  · subst hb
    have hs : ¬ l.getD b 0 < l.getD (b - 1) 0 := hs.resolve_left (by omega)
    have hle : l.getD (b - 1) 0 ≤ l.getD b 0 := UInt32.not_lt.1 hs
    by_cases ha : a = b - 1
    · rw [ha]; exact hle
    · exact UInt32.le_trans (h.2 a (b - 1) (by omega) (by omega) (by omega)) hle
  · exact h.2 a b h1 (by omega) hb
theorem SrtU.sort {l0 l : List UInt32} {i : Nat} (h : SrtU l0 l i) (hi : l.length ≤ i) : l = sortU l0 := by
  refine sortU_of h.1 (List.pairwise_iff_getElem.2 fun a b ha hb hab => ?_)
  have := h.2 a b hab (by omega)
  rw [List.getD_eq_getElem?_getD, List.getD_eq_getElem?_getD, List.getElem?_eq_getElem ha, List.getElem?_eq_getElem hb] at this
  simpa using this
theorem SrtU.start (l : List UInt32) : SrtU l l 1 := ⟨.refl l, fun a b h1 h2 => by omega⟩
theorem SrtU.length {l0 l : List UInt32} {i : Nat} (h : SrtU l0 l i) : l.length = l0.length := h.1.length_eq
theorem MidU.length {l0 l : List UInt32} {i j : Nat} (h : MidU l0 l i j) : l.length = l0.length := h.1.length_eq
def pgsL (f : UInt32 → Bool) (n : Nat) : List UInt32 := ((List.range n).filter fun i => f (UInt32.ofNat i)).map UInt32.ofNat
theorem pgsL_length (f : UInt32 → Bool) (n : Nat) : (pgsL f n).length ≤ n := by
  unfold pgsL
  rw [List.length_map]
  exact Nat.le_trans (List.length_filter_le _ _) (by simp)
theorem mem_pgsL {f : UInt32 → Bool} {n : Nat} {x : UInt32} (hn : n ≤ 4294967296) : x ∈ pgsL f n ↔ f x = true ∧ x.toNat < n := by
  unfold pgsL
  simp only [List.mem_map, List.mem_filter, List.mem_range]
  constructor
  · rintro ⟨i, ⟨hi, hf⟩, rfl⟩
    exact ⟨hf, by rw [UInt32.toNat_ofNat_of_lt' (show i < 4294967296 by omega)]; exact hi⟩
  · rintro ⟨h1, h2⟩
    exact ⟨x.toNat, ⟨h2, by simpa using h1⟩, by simp⟩
theorem pgsL_sorted (f : UInt32 → Bool) (n : Nat) (hn : n ≤ 4294967296) : (pgsL f n).Pairwise (fun a b => a < b) := by
  unfold pgsL
  rw [List.pairwise_map]
  have h : (List.range n).Pairwise (· < ·) := List.pairwise_lt_range
  refine (h.filter _).imp_of_mem fun {a b} ha hb hab => ?_
  have ha := List.mem_range.1 (List.mem_filter.1 ha).1
  have hb := List.mem_range.1 (List.mem_filter.1 hb).1
  rw [UInt32.lt_iff_toNat_lt, UInt32.toNat_ofNat_of_lt' (show a < 4294967296 by omega), UInt32.toNat_ofNat_of_lt' (show b < 4294967296 by omega)]
  exact hab
theorem sort_pgs {f : UInt32 → Bool} {n : Nat} {l : List UInt32} (hn : n ≤ 4294967296) (hd : l.Nodup) (hm : ∀ x, x ∈ l ↔ f x = true) (hf : ∀ x, f x = true → x.toNat < n) : sortU l = pgsL f n := by
  symm
  refine sortU_of ((List.perm_ext_iff_of_nodup ((pgsL_sorted f n hn).imp fun {a b} h e => by subst e; exact absurd h (UInt32.lt_irrefl _)) hd).2 fun x => ?_) ((pgsL_sorted f n hn).imp fun {a b} h => by simpa using UInt32.le_of_lt h)
  rw [mem_pgsL hn, hm x]
  exact ⟨fun h => h.1, fun h => ⟨h, hf x h⟩⟩
end Go.Sac

namespace Go.Sac
open Go
def upU (i : Nat) : PgF := fun j => decide (j.toNat < i)
end Go.Sac

namespace Go.Sac
open Go
def Mdl.get (M : Mdl) (i : Nat) : MPg := M.p.getD i pg0
def Mdl.free (M : Mdl) (i : Nat) : Bool := !(M.get i).used && !(M.get i).was
theorem Mdl.at (M : Mdl) {i : Nat} (h : i < M.p.length) : M.p[i]? = some (M.get i) := getD_some h
def AllocM (M M' : Mdl) (i e : Nat) : Prop :=
  (i < M.p.length ∧ (∀ j, j < i → M.free j = false) ∧ M.free i = true ∧ M' = { M with p := M.p.set i ⟨true, true, false, false, []⟩ } ∧ e = 0) ∨ ((∀ j, j < M.p.length → M.free j = false) ∧ M' = M ∧ i = 0 ∧ e = 70)
theorem MAt.upP {w w' : World} {mb : Nat} {pv ov : Value} {M : Mdl} {l : List MPg} (h : MAt w mb pv ov M) (ho : Own w' pv l) (hm : Chg (blkOf pv) w w') : MAt w' mb pv ov { M with p := l } := by
  have hb : Blk w' mb (mdC M pv ov) := h.blk.chg hm h.np
  exact ⟨hb, ho, h.old.mod hm (fun x hx hh => h.apart x hh hx), h.np, h.no, h.apart⟩
theorem first_or (f : Nat → Bool) : ∀ n : Nat, (∃ i, i < n ∧ (∀ j, j < i → f j = false) ∧ f i = true) ∨ ∀ j, j < n → f j = false
  | 0 => .inr fun j hj => by omega
  | n + 1 => by
    rcases first_or f n with ⟨i, h1, h2, h3⟩ | h
    · exact .inl ⟨i, by omega, h2, h3⟩
    · by_cases hn : f n = true
      · exact .inl ⟨n, by omega, h, hn⟩
      · refine .inr fun j hj => ?_
        rcases (by omega : j < n ∨ j = n) with h' | rfl
        · exact h j h'
        · simpa using hn
def readM (M : Mdl) (i : Nat) : List UInt8 × Int := if i < M.p.length ∧ (M.get i).used = true ∧ (M.get i).written = true then ((M.get i).b, 0) else ([], 71)
def writeM (M : Mdl) (i : Nat) (l : List UInt8) : Mdl × Int :=
  if i < M.p.length ∧ (M.get i).used = true ∧ (M.get i).fresh = true then (if l.length ≤ 480 then ({ M with p := M.p.set i { M.get i with written := true, b := l } }, 0) else (M, 11)) else (M, 71)
def freeM (M : Mdl) (i : Nat) : Mdl × Int := if i < M.p.length ∧ (M.get i).used = true then ({ M with p := M.p.set i ⟨false, false, false, (M.get i).was, []⟩ }, 0) else (M, 71)
def roomM (M : Mdl) (n : Nat) : Nat := ((List.range n).filter M.free).length
theorem roomM_succ (M : Mdl) (n : Nat) : roomM M (n + 1) = roomM M n + (if M.free n = true then 1 else 0) := by
  unfold roomM
  rw [List.range_succ, List.filter_append, List.length_append]
  congr 1
  by_cases h : M.free n = true <;> simp [h]
theorem roomM_le (M : Mdl) (n : Nat) : roomM M n ≤ n := by
  unfold roomM
  exact Nat.le_trans (List.length_filter_le _ _) (by simp)
def cmP (p : MPg) : MPg := { p with fresh := false, was := p.used }
def Mdl.bad (M : Mdl) (i : Nat) : Bool := (M.get i).fresh && !(M.get i).written
def Mdl.com (M : Mdl) (root : UInt32) (txt : List UInt8) : Mdl := ⟨M.p.map cmP, M.p.map cmP, root, root, txt, txt⟩
def Mdl.undo (M : Mdl) : Mdl := ⟨M.old, M.old, M.oldRoot, M.oldRoot, M.oldTxt, M.oldTxt⟩
def CommitM (M : Mdl) (root : UInt32) (txt : List UInt8) (M' : Mdl) (e : Nat) : Prop :=
  (200 < txt.length ∧ M' = M ∧ e = 11) ∨ (txt.length ≤ 200 ∧ (∃ i, i < M.p.length ∧ M.bad i = true) ∧ M' = M ∧ e = 71) ∨ (txt.length ≤ 200 ∧ (∀ i, i < M.p.length → M.bad i = false) ∧ M' = M.com root txt ∧ e = 0)
theorem mapTake_step {l : List MPg} {i : Nat} (h : i < l.length) : (l.map cmP).take i ++ cmP (l.getD i pg0) :: l.drop (i + 1) = (l.map cmP).take (i + 1) ++ l.drop (i + 1) := by
  rw [List.take_add_one, List.getElem?_map, getD_some (d := pg0) h, Option.map_some, Option.toList_some, List.append_assoc]
  rfl
theorem mapTake_set {l : List MPg} {i : Nat} (h : i < l.length) (a : MPg) : ((l.map cmP).take i ++ l.drop i).set i a = (l.map cmP).take i ++ a :: l.drop (i + 1) := by
  have hl : ((l.map cmP).take i).length = i := by rw [List.length_take, List.length_map]; omega
  rw [List.set_append_right _ _ (by omega), hl, Nat.sub_self]
  rw [List.drop_eq_getElem_cons h]
  rfl
theorem mapTake_get {l : List MPg} {i : Nat} (h : i < l.length) : ((l.map cmP).take i ++ l.drop i)[i]? = some (l.getD i pg0) := by
  have hl : ((l.map cmP).take i).length = i := by rw [List.length_take, List.length_map]; omega
  rw [List.getElem?_append_right (by omega), hl, Nat.sub_self, List.getElem?_drop, Nat.add_zero]
  exact getD_some h
theorem mapTake_len {l : List MPg} {i : Nat} (h : i ≤ l.length) : ((l.map cmP).take i ++ l.drop i).length = l.length := by
  rw [List.length_append, List.length_take, List.length_drop, List.length_map]; omega
def t5 : List UInt8 := [102, 105, 118, 101]
end Go.Sac

namespace Go.Sac
open Go
section
variable {α : Type} [Flat α] {P : Program} {E : Env} {w : World} {ty t : TypeId} {x y : Operand} {l : List α}
theorem encL_setc (l : List α) {i k : Nat} {a a' : α} {u : Value} (hl : l[i]? = some a) (hk : k < Flat.sz α) (ha : Flat.enc a' = (Flat.enc a).set k u) : encL (l.set i a') = (encL l).set (i * Flat.sz α + k) u := by
  have hi := (List.getElem?_eq_some_iff.1 hl).1
  refine List.ext_getElem? fun j => ?_
  have hlen : (encL (l.set i a')).length = (encL l).length := by rw [encL_length, encL_length, List.length_set]
  by_cases hj : j < (encL l).length
  · rw [encL_length] at hj
    have hpos : 0 < Flat.sz α := by omega
    have hjd : j = j / Flat.sz α * Flat.sz α + j % Flat.sz α := by rw [Nat.mul_comm]; exact (Nat.div_add_mod j _).symm
    have hq : j / Flat.sz α < l.length := Nat.div_lt_of_lt_mul (by rw [Nat.mul_comm]; exact hj)
    have hm : j % Flat.sz α < Flat.sz α := Nat.mod_lt _ hpos
    have hlq : l[j / Flat.sz α]? = some l[j / Flat.sz α] := List.getElem?_eq_getElem hq
    rw [List.getElem?_set]
    by_cases hqi : j / Flat.sz α = i
    · have e1 : (l.set i a')[i]? = some a' := List.getElem?_set_self hi
      have h1 := encL_at (l.set i a') e1 (j % Flat.sz α) hm
      have h2 := encL_at l hl (j % Flat.sz α) hm
      rw [hqi] at hjd
      rw [← hjd] at h1 h2
      rw [h1, ha, List.getElem?_set]
      have hkl : (Flat.enc a).length = Flat.sz α := Flat.len a
      have hll : (encL l).length = l.length * Flat.sz α := encL_length l
      have hik : i * Flat.sz α + k < l.length * Flat.sz α := by
        have : (i + 1) * Flat.sz α ≤ l.length * Flat.sz α := Nat.mul_le_mul_right _ (by omega)
        rw [Nat.add_mul] at this; omega
      by_cases hk2 : k = j % Flat.sz α
      · rw [if_pos hk2, if_pos (show i * Flat.sz α + k = j by omega), if_pos (by omega), if_pos (by omega)]
      · rw [if_neg hk2, if_neg (show ¬ i * Flat.sz α + k = j by omega), h2]
    · have e1 : (l.set i a')[j / Flat.sz α]? = some l[j / Flat.sz α] := by rw [List.getElem?_set_ne (fun h => hqi h.symm)]; exact hlq
      have h1 := encL_at (l.set i a') e1 (j % Flat.sz α) hm
      have h2 := encL_at l hlq (j % Flat.sz α) hm
      rw [← hjd] at h1 h2
      have hne : ¬ i * Flat.sz α + k = j := fun h => hqi (by
        rw [← h, Nat.add_comm, Nat.add_mul_div_right _ _ hpos, Nat.div_eq_of_lt hk]; omega)
      rw [if_neg hne, h1, h2]
  · rw [List.getElem?_eq_none (by omega), List.getElem?_eq_none (by rw [List.length_set]; omega)]
theorem x_storeOF (k : Nat) {nf : TypeInfo} {v u : Value} {i b off off' : Nat} {a a' : α} (hi : P.info? t = some nf) (hs : nf.size = 1) (ho : Own w v l) (hx : ev E x = .pointer (some ⟨b, off', none⟩)) (he : elemAt v (Flat.sz α) i = some (b, off)) (hoff : off' = off + k) (hy : ev E y = u) (hu : u.cells.toList = [u]) (hc : isCell u = true)
    (hl : l[i]? = some a) (hk : k < Flat.sz α) (ha : Flat.enc a' = (Flat.enc a).set k u) :
    ∃ w1, exec P E (.store t x y) ty w = .ok .skip w1 ∧ Own w1 v (l.set i a') ∧ Chg (blkOf v) w w1 ∧ w1.heap.size = w.heap.size := by
  obtain ⟨p, cap, rfl, hlc, h⟩ := ho
  cases p with
  | none => simp [elemAt] at he
  | some q =>
    simp only [elemAt, Option.some.injEq, Prod.mk.injEq] at he
    obtain ⟨rfl, rfl⟩ := he
    subst hoff
    obtain ⟨h1, c, ee, fr, h2, h3, h4, h5⟩ := h
    have hil := (List.getElem?_eq_some_iff.1 hl).1
    have hcs : u.cells.size = 1 := by rw [← Array.length_toList, hu]; rfl
    have hroom : q.off + i * Flat.sz α + k + 1 ≤ c.size := by
      have h6 : (i + 1) * Flat.sz α ≤ cap * Flat.sz α := Nat.mul_le_mul_right _ (by omega)
      rw [Nat.add_mul] at h6; omega
    have hst := x_store (ty := ty) hi hx hy (by rw [hcs, hs]) h2 (by rw [hcs]; exact hroom) h3 (by rw [hu]; intro z hz; simp only [List.mem_singleton] at hz; subst hz; exact hc)
    refine ⟨_, hst, ⟨some q, cap, by rw [List.length_set], by rw [List.length_set]; exact hlc, h1, _, ee, fr, setB_at (lt_of_blk h2), h3.size (putL_size _ _ _), by rw [putL_size]; exact h4, ?_⟩, ?_, setB_size _ _ _⟩
    · intro j z hj
      rw [hu]
      rw [encL_setc l hl hk ha, List.getElem?_set] at hj
      rw [putL_get _ _ _ _ (by show _ + 1 ≤ _; exact hroom)]
      by_cases hji : i * Flat.sz α + k = j
      · rw [if_pos hji] at hj
        split at hj
        · cases hj
          rw [if_pos (by show _ ∧ _ < _ + 1; omega), show q.off + j - (q.off + i * Flat.sz α + k) = 0 by omega]
          rfl
        · cases hj
      · rw [if_neg hji] at hj
        rw [if_neg (by show ¬ (_ ∧ _ < _ + 1); omega)]
        exact h5 j z hj
    · refine (Chg.set _ _ _).mono fun b hb _ => ?_
      simpa [blkOf] using hb
end
end Go.Sac

namespace Go.Sac
open Go
def TornOf (old new r : Sec) : Prop := ∃ t, t ≤ 64 ∧ ∀ i, r.1[i]? = if i < t then new.1[i]? else old.1[i]?
theorem sec_none (c : Sec) {i : Nat} (h : 64 ≤ i) : c.1[i]? = none := List.getElem?_eq_none (by rw [c.2]; exact h)
theorem TornOf.refl (old new : Sec) : TornOf old new old := ⟨0, by omega, fun i => by rw [if_neg (by omega)]⟩
theorem tornS_get (was now : Sec) (c : UInt8) (i : Nat) : (tornS was now c).1[i]? = if i < tornN c then now.1[i]? else was.1[i]? := by
  have hn := tornN_le c
  show (now.1.take (tornN c) ++ was.1.drop (tornN c))[i]? = _
  have hl : (now.1.take (tornN c)).length = tornN c := by rw [List.length_take, now.2]; omega
  by_cases h : i < tornN c
  · rw [if_pos h, List.getElem?_append_left (by omega), List.getElem?_take, if_pos h]
  · rw [if_neg h, List.getElem?_append_right (by omega), List.getElem?_drop, hl]
    congr 1; omega
theorem TornOf.again {old new r : Sec} (h : TornOf old new r) (c : UInt8) : TornOf old new (tornS r new c) := by
  obtain ⟨t, ht, hr⟩ := h
  refine ⟨max t (tornN c), by have := tornN_le c; omega, fun i => ?_⟩
  rw [tornS_get, hr i]
  by_cases h1 : i < tornN c
  · rw [if_pos h1, if_pos (by omega)]
  · rw [if_neg h1]
    by_cases h2 : i < t
    · rw [if_pos h2, if_pos (by omega)]
    · rw [if_neg h2, if_neg (by omega)]
theorem crashL_torn (m : List (Int × Sec)) (j : Nat) (old : Sec) : ∀ (is : List Int) (ch : List UInt8) (k : List Sec), (∀ i ∈ is, 0 ≤ i) → j < k.length → TornOf old ((mget (j : Int) m).getD sec0) (k.getD j sec0) →
    TornOf old ((mget (j : Int) m).getD sec0) ((crashL m is ch k).getD j sec0)
  | [], _, _, _, _, h => h
  | i :: is, ch, k, hp, hj, h => by
    rw [crashL]
    refine crashL_torn m j old is _ _ (fun x hx => hp x (by simp [hx])) (by rw [List.length_set]; exact hj) ?_
    by_cases hi : i.toNat = j
    · have hij : i = (j : Int) := by have := hp i (by simp); omega
      subst hij
      have e : (k.set (j : Int).toNat (tornS (k.getD (j : Int).toNat sec0) ((mget (j : Int) m).getD sec0) (ch.headD 0))).getD j sec0 = tornS (k.getD j sec0) ((mget (j : Int) m).getD sec0) (ch.headD 0) := by
        rw [List.getD_eq_getElem?_getD, show (j : Int).toNat = j from rfl, List.getElem?_set_self hj]
        rfl
      rw [e]
      exact h.again _
    · have e : ∀ x, (k.set i.toNat x).getD j sec0 = k.getD j sec0 := fun x => by
        rw [List.getD_eq_getElem?_getD, List.getElem?_set_ne hi, ← List.getD_eq_getElem?_getD]
      rw [e]
      exact h
theorem crash_torn {ds : DSt} (hf : ds.Fine) (ch : List UInt8) {j : Int} (h0 : 0 ≤ j) (h1 : j < ds.kept.length) : TornOf (ds.kept.getD j.toNat sec0) ((mget j ds.pend).getD sec0) ((ds.crash ch).now j) := by
  obtain ⟨n, rfl⟩ : ∃ n : Nat, j = n := ⟨j.toNat, by omega⟩
  have h := crashL_torn ds.pend n (ds.kept.getD n sec0) (sortI (ds.pend.map (·.1))) ch ds.kept (fun i hi => by
    unfold sortI at hi
    rw [List.mem_mergeSort] at hi
    obtain ⟨p, hp1, rfl⟩ := List.mem_map.1 hi
    exact (hf.keys p hp1).1) (by omega) (TornOf.refl _ _)
  exact h
theorem four {l : List UInt8} (h : l.length = 4) (hs : ofBe l < 256) : l[0]? = some 0 ∧ l[1]? = some 0 ∧ l[2]? = some 0 := by
  obtain ⟨a, l, rfl⟩ := List.exists_cons_of_length_eq_add_one (l := l) (n := 3) h
  obtain ⟨b, l, rfl⟩ := List.exists_cons_of_length_eq_add_one (l := l) (by simpa using h)
  obtain ⟨c, l, rfl⟩ := List.exists_cons_of_length_eq_add_one (l := l) (by simpa using h)
  obtain ⟨d, l, rfl⟩ := List.exists_cons_of_length_eq_add_one (l := l) (by simpa using h)
  obtain rfl : l = [] := List.eq_nil_of_length_eq_zero (by simpa using h)
  simp only [ofBe, List.foldl_cons, List.foldl_nil] at hs
  have ha : a.toNat = 0 := by omega
  have hb : b.toNat = 0 := by omega
  have hc : c.toNat = 0 := by omega
  exact ⟨congrArg some (UInt8.toNat_inj.1 ha), congrArg some (UInt8.toNat_inj.1 hb), congrArg some (UInt8.toNat_inj.1 hc)⟩
theorem head_small {c : Sec} (h : secH c < 256) : c.1[0]? = some 0 ∧ c.1[1]? = some 0 ∧ c.1[2]? = some 0 := by
  have hl : (c.1.take 4).length = 4 := by rw [List.length_take, c.2]; omega
  obtain ⟨h0, h1, h2⟩ := four hl h
  rw [List.getElem?_take, if_pos (by omega)] at h0 h1 h2
  exact ⟨h0, h1, h2⟩
theorem tail_small {c : Sec} (h : secT c < 256) : c.1[60]? = some 0 ∧ c.1[61]? = some 0 ∧ c.1[62]? = some 0 := by
  have hl : ((c.1.drop 60).take 4).length = 4 := by rw [List.length_take, List.length_drop, c.2]; omega
  obtain ⟨h0, h1, h2⟩ := four hl h
  rw [List.getElem?_take, if_pos (by omega), List.getElem?_drop] at h0 h1 h2
  exact ⟨h0, h1, h2⟩
theorem torn_three {old new r : Sec} {x : Nat} (h : TornOf old new r) (h1 : secH old < 256) (h2 : secT old < 256) (h3 : secH new = x) (h4 : secT new = x) (hx : x < 256) :
    r = old ∨ r = new ∨ (secH r = x ∧ secT r = secT old) := by
  obtain ⟨t, ht, hr⟩ := h
  have a := head_small h1
  have b := tail_small h2
  have c := head_small (c := new) (by omega)
  have d := tail_small (c := new) (by omega)
  by_cases h3' : t ≤ 3
  · left
    apply Subtype.ext
    refine List.ext_getElem? fun i => ?_
    rw [hr i]
    by_cases hi : i < t
    · rw [if_pos hi]
      rcases (by omega : i = 0 ∨ i = 1 ∨ i = 2) with rfl | rfl | rfl
      · rw [a.1, c.1]
      · rw [a.2.1, c.2.1]
      · rw [a.2.2, c.2.2]
    · rw [if_neg hi]
  · by_cases h64 : t = 64
    · right; left
      apply Subtype.ext
      refine List.ext_getElem? fun i => ?_
      rw [hr i]
      by_cases hi : i < t
      · rw [if_pos hi]
      · rw [if_neg hi, sec_none _ (by omega), sec_none _ (by omega)]
    · right; right
      constructor
      · rw [← h3]
        unfold secH
        congr 1
        refine List.ext_getElem? fun i => ?_
        rw [List.getElem?_take, List.getElem?_take]
        by_cases hi : i < 4
        · rw [if_pos hi, if_pos hi, hr i, if_pos (by omega)]
        · rw [if_neg hi, if_neg hi]
      · unfold secT
        congr 1
        refine List.ext_getElem? fun i => ?_
        rw [List.getElem?_take, List.getElem?_take]
        by_cases hi : i < 4
        · rw [if_pos hi, if_pos hi, List.getElem?_drop, List.getElem?_drop, hr (60 + i)]
          by_cases hj : 60 + i < t
          · rw [if_pos hj]
            rcases (by omega : i = 0 ∨ i = 1 ∨ i = 2) with rfl | rfl | rfl
            · rw [show 60 + 0 = 60 from rfl, b.1, d.1]
            · rw [show 60 + 1 = 61 from rfl, b.2.1, d.2.1]
            · rw [show 60 + 2 = 62 from rfl, b.2.2, d.2.2]
          · rw [if_neg hj]
        · rw [if_neg hi, if_neg hi]
def goodS (nb : List UInt8) (c : Sec) : Prop := c.1.take 4 = nb ∧ (c.1.drop 60).take 4 = nb
instance (nb : List UInt8) (c : Sec) : Decidable (goodS nb c) := by unfold goodS; infer_instance
def unfrF (nb : List UInt8) (f : Nat → Sec) : Nat → Nat → List UInt8
  | _, 0 => []
  | q, n + 1 => if goodS nb (f q) then ((f q).1.drop 4).take 56 ++ unfrF nb f (q + 1) n else []
theorem unfrN_F (nb : List UInt8) (ds : DSt) (i : Int) : ∀ (n q : Nat), unfrN nb n (ds.reads (i + q) n) = unfrF nb (fun q => ds.now (i + q)) q n
  | 0, _ => rfl
  | n + 1, q => by
    have h1 := reads_add ds (i + (q : Int)) 1 n
    rw [show 1 + n = n + 1 by omega] at h1
    have h2 : ds.reads (i + (q : Int)) 1 = (ds.now (i + q)).1 := by
      rw [show (1 : Nat) = 0 + 1 from rfl, DSt.reads_succ, DSt.reads_zero, List.nil_append]
      simp
    rw [h2] at h1
    have hl := (ds.now (i + (q : Int))).2
    have e1 : (ds.reads (i + (q : Int)) (n + 1)).take 4 = (ds.now (i + q)).1.take 4 := by rw [h1, List.take_append_of_le_length (by omega)]
    have e2 : ((ds.reads (i + (q : Int)) (n + 1)).drop 60).take 4 = ((ds.now (i + q)).1.drop 60).take 4 := by
      rw [h1, List.drop_append_of_le_length (by omega), List.take_append_of_le_length (by rw [List.length_drop]; omega)]
    have e3 : ((ds.reads (i + (q : Int)) (n + 1)).drop 4).take 56 = ((ds.now (i + q)).1.drop 4).take 56 := by
      rw [h1, List.drop_append_of_le_length (by omega), List.take_append_of_le_length (by rw [List.length_drop]; omega)]
    have e4 : (ds.reads (i + (q : Int)) (n + 1)).drop 64 = ds.reads (i + ((q + 1 : Nat) : Int)) n := by
      rw [h1, List.drop_left' hl]
      congr 1
      omega
    rw [unfrN, unfrF, e1, e2, e3, e4, unfrN_F nb ds i n (q + 1)]
    rfl
theorem unfrL_F (ds : DSt) (a : Nat) : unfrL (regS ds a) = unfrF ((ds.now ((a : Int) * 16)).1.take 4) (fun q => ds.now ((a : Int) * 16 + q)) 0 16 := by
  have hl : (regS ds a).length = 1024 := by unfold regS; rw [DSt.reads_length]
  have h1 := reads_add ds ((a : Int) * 16) 1 15
  have h2 : ds.reads ((a : Int) * 16) 1 = (ds.now ((a : Int) * 16)).1 := by
    rw [show (1 : Nat) = 0 + 1 from rfl, DSt.reads_succ, DSt.reads_zero, List.nil_append]
    simp
  have h3 : (regS ds a).take 4 = (ds.now ((a : Int) * 16)).1.take 4 := by
    unfold regS
    rw [show (16 : Nat) = 1 + 15 from rfl, h1, h2, List.take_append_of_le_length (by rw [(ds.now _).2]; omega)]
  unfold unfrL
  rw [hl, h3, show 1024 / 64 = 16 from rfl]
  have := unfrN_F ((ds.now ((a : Int) * 16)).1.take 4) ds ((a : Int) * 16) 16 0
  rw [← this]
  unfold regS
  simp
theorem unfrF_pre (nb : List UInt8) (f g : Nat → Sec) : ∀ (n q : Nat), (∀ j, q ≤ j → j < q + n → goodS nb (g j) → g j = f j) → ∃ z, unfrF nb f q n = unfrF nb g q n ++ z
  | 0, _, _ => ⟨[], rfl⟩
  | n + 1, q, h => by
    obtain ⟨z, hz⟩ := unfrF_pre nb f g n (q + 1) (fun j h1 h2 => h j (by omega) (by omega))
    rw [unfrF, unfrF]
    by_cases hg : goodS nb (g q)
    · have e := h q (Nat.le_refl _) (by omega) hg
      rw [if_pos hg, if_pos (e ▸ hg), hz, e]
      exact ⟨z, by rw [List.append_assoc]⟩
    · rw [if_neg hg]
      exact ⟨_, (List.nil_append _).symm⟩
theorem unfrF_short (nb : List UInt8) (g : Nat → Sec) : ∀ (n q j : Nat), q ≤ j → j < q + n → ¬ goodS nb (g j) → (unfrF nb g q n).length ≤ 56 * (j - q)
  | 0, q, j, h1, h2, _ => by omega
  | n + 1, q, j, h1, h2, h => by
    rw [unfrF]
    by_cases hg : goodS nb (g q)
    · have hq : q ≠ j := fun e => h (e ▸ hg)
      rw [if_pos hg, List.length_append, List.length_take, List.length_drop, (g q).2]
      have := unfrF_short nb g n (q + 1) j (by omega) (by omega) h
      omega
    · rw [if_neg hg]; simp
theorem parsed_len {k b : List UInt8} {s : Sup} (h : parsedL k b = some s) : 150 + s.txt.length ≤ b.length ∧ 56 ≤ b.length := by
  have hs := parsed_supOf h
  unfold parsedL at h
  by_cases hc : b.length < 56 ∨ 200 < txN b ∨ b.length < 150 + txN b
  · rw [if_pos hc] at h; cases h
  · simp only [not_or, Nat.not_lt] at hc
    have ht : s.txt.length = txN b := by
      rw [hs]
      show ((b.drop 18).take (txN b)).length = _
      rw [List.length_take, List.length_drop]; omega
    omega
theorem txN_app {b : List UInt8} (z : List UInt8) (h : 56 ≤ b.length) : txN (b ++ z) = txN b := by
  unfold txN
  rw [List.drop_append_of_le_length (by omega), List.take_append_of_le_length (by rw [List.length_drop]; omega)]
theorem parsed_more {k b : List UInt8} {s : Sup} (h : parsedL k b = some s) (z : List UInt8) : parsedL k (b ++ z) = some s := by
  unfold parsedL at h ⊢
  by_cases hc : b.length < 56 ∨ 200 < txN b ∨ b.length < 150 + txN b
  · rw [if_pos hc] at h; cases h
  · rw [if_neg hc] at h
    simp only [not_or, Nat.not_lt] at hc
    have ht := txN_app z hc.1
    have cut : ∀ i n, i + n ≤ b.length → ((b ++ z).drop i).take n = (b.drop i).take n := fun i n hi => by
      rw [List.drop_append_of_le_length (by omega), List.take_append_of_le_length (by rw [List.length_drop]; omega)]
    have cut0 : ∀ n, n ≤ b.length → (b ++ z).take n = b.take n := fun n hn => List.take_append_of_le_length hn
    rw [if_neg (by rw [ht, List.length_append]; omega), ht, cut _ _ (by omega), cut0 _ (by omega)]
    have e : supOf (b ++ z) = supOf b := by
      unfold supOf
      rw [ht, cut _ _ (by omega), cut _ _ (by omega), cut _ _ (by omega), cut _ _ (by omega), cut _ _ (by omega), cut0 _ (by omega)]
    rw [e]
    exact h
end Go.Sac

namespace Go.Sac
open Go
structure SupM (key : List UInt8) (ds : DSt) (a : Nat) (s : Sup) (M : Nat) : Prop where
  a_ : a ≤ 1
  ok : s.Ok
  reg : ∃ rest, rest.length = 64 * (16 - supN s) ∧ regS ds a = frameL (superB key s) s.commit ++ rest
  oth : ∀ s', parsedL key (unfrL (regS ds ((a + 1) % 2))) = some s' → s'.commit < s.commit
  nums : NumLe ds M
  le : s.commit.toNat ≤ M
section
variable {key : List UInt8} {ds ds' : DSt} {a : Nat} {s : Sup} {M : Nat}
theorem SupAt.m (h : SupAt key ds a s) : SupM key ds a s s.commit.toNat := ⟨h.a_, h.ok, h.reg, h.oth, h.nums, Nat.le_refl _⟩
theorem SupM.par (h : SupM key ds a s M) : parsedL key (unfrL (regS ds a)) = some s := by
  obtain ⟨rest, hr, he⟩ := h.reg
  have := supN_le h.ok.txt
  obtain ⟨z, hz⟩ := unfr_sup key s rest (by omega) hr
  rw [he, hz, parsed_own key s z h.ok]
theorem SupM.newest (h : SupM key ds a s M) : newest key ds = some (s, a) := by
  have hp := h.par
  have ho := h.oth
  unfold Go.Sac.newest
  rcases (by have := h.a_; omega : a = 0 ∨ a = 1) with rfl | rfl
  · have h0 : newStep key ds none 0 = some (s, 0) := by unfold newStep; rw [hp]
    rw [h0]
    cases hq : parsedL key (unfrL (regS ds 1)) with
    | none => exact newStep_none hq
    | some s' =>
      have := ho s' hq
      unfold newStep
      rw [hq]
      show (if s.commit < s'.commit then some (s', 1) else some (s, 0)) = some (s, 0)
      rw [if_neg]
      intro hh
      rw [UInt64.lt_iff_toNat_lt] at this hh
      omega
  · cases hq : parsedL key (unfrL (regS ds 0)) with
    | none =>
      rw [newStep_none hq]
      unfold newStep; rw [hp]
    | some s' =>
      have := ho s' hq
      have h0 : newStep key ds none 0 = some (s', 0) := by unfold newStep; rw [hq]
      rw [h0]
      unfold newStep
      rw [hp]
      show (if s'.commit < s.commit then some (s, 1) else some (s', 0)) = some (s, 1)
      rw [if_pos this]
theorem SupM.congr (h : SupM key ds a s M) (hc : ∀ j : Int, 0 ≤ j → j < 32 → ds'.now j = ds.now j) : SupM key ds' a s M := by
  refine ⟨h.a_, h.ok, ?_, ?_, h.nums.congr hc, h.le⟩
  · rw [regS_congr h.a_ hc]; exact h.reg
  · rw [regS_congr (by omega) hc]; exact h.oth
theorem SupM.next (h : SupM key ds a s M) {s' : Sup} (hL : Laid key ds ds' ((a + 1) % 2) s') (hl : 32 ≤ ds.kept.length) (hok : s'.Ok) {M' : Nat} (hn : NumLe ds M') (hM : M' ≤ s'.commit.toNat) (hlt : s.commit.toNat < s'.commit.toNat) (hc : s'.commit.toNat < 4294967296) : SupAt key ds' ((a + 1) % 2) s' := by
  have ha := h.a_
  refine hL.sup (by omega) hl hok hn hM hc ?_
  rw [show ((a + 1) % 2 + 1) % 2 = a by omega, h.par]
  intro s2 h2
  cases h2
  rw [UInt64.lt_iff_toNat_lt]; exact hlt
end
theorem good_num {nb : List UInt8} {c : Sec} (h : goodS nb c) : secH c = ofBe nb ∧ secT c = ofBe nb := by
  obtain ⟨h1, h2⟩ := h
  unfold secH secT
  rw [h1, h2]; exact ⟨rfl, rfl⟩
theorem head_be {c : Sec} {x : Nat} (h : secH c = x) : c.1.take 4 = be 4 x := by
  have hl : (c.1.take 4).length = 4 := by rw [List.length_take, c.2]; omega
  have h2 := be_ofBe (c.1.take 4)
  rw [hl] at h2
  rw [← h, ← h2]
  unfold secH
  rw [h2]
theorem torn_region {key : List UInt8} {ds ds2 : DSt} {a : Nat} {s s' : Sup} (hS : SupAt key ds a s) (hok : s'.Ok) (hcm : s'.commit.toNat = s.commit.toNat + 1) (hc : s'.commit.toNat < 256)
    (hT : ∀ q : Nat, q < 16 → ds2.now (((a + 1) % 2 : Nat) * 16 + q) = ds.now (((a + 1) % 2 : Nat) * 16 + q) ∨ (q < supN s' ∧ TornOf (ds.now (((a + 1) % 2 : Nat) * 16 + q)) (chS (frameL (superB key s') s'.commit) q) (ds2.now (((a + 1) % 2 : Nat) * 16 + q))))
    (hO : ∀ q : Nat, q < 16 → ds2.now ((a : Int) * 16 + q) = ds.now ((a : Int) * 16 + q)) :
    SupM key ds2 a s (s.commit.toNat + 1) ∨ SupM key ds2 ((a + 1) % 2) s' (s.commit.toNat + 1) := by
  have ha := hS.a_
  obtain ⟨b, hb⟩ : ∃ b, b = (a + 1) % 2 := ⟨_, rfl⟩
  have hb1 : b ≤ 1 := by omega
  rw [← hb] at hT ⊢
  have hsn := supN_le hok.txt
  have hfn : ∀ q, q < supN s' → secH (chS (frameL (superB key s') s'.commit) q) = s.commit.toNat + 1 ∧ secT (chS (frameL (superB key s') s'.commit) q) = s.commit.toNat + 1 := fun q hq => by
    have := frame_nums key s' (by omega) q hq
    omega
  have hold : ∀ q : Nat, q < 16 → secH (ds.now ((b : Int) * 16 + q)) ≤ s.commit.toNat ∧ secT (ds.now ((b : Int) * 16 + q)) ≤ s.commit.toNat := fun q hq => hS.nums _ (by omega) (by omega)
  have h3 : ∀ q : Nat, q < 16 → ds2.now ((b : Int) * 16 + q) = ds.now ((b : Int) * 16 + q) ∨ (q < supN s' ∧ ds2.now ((b : Int) * 16 + q) = chS (frameL (superB key s') s'.commit) q) ∨ (secH (ds2.now ((b : Int) * 16 + q)) = s.commit.toNat + 1 ∧ secT (ds2.now ((b : Int) * 16 + q)) ≤ s.commit.toNat) := fun q hq => by
    rcases hT q hq with h | ⟨hn, h⟩
    · exact .inl h
    · have ho := hold q hq
      have hf := hfn q hn
      rcases torn_three h (by omega) (by omega) hf.1 hf.2 (by omega) with e | e | ⟨e1, e2⟩
      · exact .inl e
      · exact .inr (.inl ⟨hn, e⟩)
      · exact .inr (.inr ⟨e1, by omega⟩)
  have hnums : NumLe ds2 (s.commit.toNat + 1) := fun j h0 h1 => by
    by_cases hj : (b : Int) * 16 ≤ j ∧ j < (b : Int) * 16 + 16
    · obtain ⟨q, hq, rfl⟩ : ∃ q : Nat, q < 16 ∧ j = (b : Int) * 16 + q := ⟨(j - (b : Int) * 16).toNat, by omega, by omega⟩
      have ho := hold q hq
      rcases h3 q hq with e | ⟨hn, e⟩ | e
      · rw [e]; omega
      · rw [e]; have := hfn q hn; omega
      · omega
    · obtain ⟨q, hq, rfl⟩ : ∃ q : Nat, q < 16 ∧ j = (a : Int) * 16 + q := ⟨(j - (a : Int) * 16).toNat, by omega, by omega⟩
      rw [hO q hq]
      have := hS.nums ((a : Int) * 16 + q) (by omega) (by omega)
      omega
  have hra : regS ds2 a = regS ds a := reads_congr fun q hq => hO q hq
  by_cases hall : ∀ q : Nat, q < supN s' → ds2.now ((b : Int) * 16 + q) = chS (frameL (superB key s') s'.commit) q
  ·
    right
    refine ⟨hb1, hok, ⟨ds2.reads ((b : Int) * 16 + supN s') (16 - supN s'), DSt.reads_length _ _ _, ?_⟩, ?_, hnums, by omega⟩
    · unfold regS
      have hsp := reads_add ds2 ((b : Int) * 16) (supN s') (16 - supN s')
      rw [show supN s' + (16 - supN s') = 16 by omega] at hsp
      rw [hsp]
      congr 1
      rw [reads_is (l := frameL (superB key s') s'.commit) (by rw [frame_len]; omega) (fun q hq => by rw [hall q hq, chS_val _ q _ (frame_len key s') hq]), ← frame_len key s', List.take_length]
    · rw [show (b + 1) % 2 = a by omega, hra, hS.par]
      intro s2 h2
      cases h2
      rw [UInt64.lt_iff_toNat_lt]; omega
  ·
    left
    have hex : ∃ q0, q0 < supN s' ∧ ¬ ds2.now ((b : Int) * 16 + (q0 : Nat)) = chS (frameL (superB key s') s'.commit) q0 := by
      apply Classical.byContradiction
      intro hno
      exact hall fun q hq => Classical.byContradiction fun h => hno ⟨q, hq, h⟩
    obtain ⟨q0, hq0, hne⟩ := hex
    refine ⟨ha, hS.ok, ?_, ?_, hnums, by omega⟩
    · rw [hra]; exact hS.reg
    · rw [← hb]
      intro s2 h2
      rw [unfrL_F] at h2
      have h00 := h3 0 (by omega)
      simp only [Int.natCast_zero, Int.add_zero] at h00
      by_cases hz : ds2.now ((b : Int) * 16) = ds.now ((b : Int) * 16)
      ·
        have hpre := unfrF_pre ((ds2.now ((b : Int) * 16)).1.take 4) (fun q => ds.now ((b : Int) * 16 + q)) (fun q => ds2.now ((b : Int) * 16 + q)) 16 0 (fun j _ hj hg => by
          have hj : j < 16 := by omega
          have hg := good_num hg
          have h0 : ofBe ((ds2.now ((b : Int) * 16)).1.take 4) ≤ s.commit.toNat := by
            rw [hz]
            have := (hold 0 (by omega)).1
            simp only [Int.natCast_zero, Int.add_zero] at this
            exact this
          rcases h3 j hj with e | ⟨hn, e⟩ | e
          · exact e
          · rw [e] at hg
            have := hfn j hn
            omega
          · omega)
        obtain ⟨z, hpz⟩ := hpre
        have h5 := parsed_more h2 z
        rw [← hpz, hz, ← unfrL_F] at h5
        exact hS.oth s2 (by rw [← hb]; exact h5)
      ·
        exfalso
        have hh : secH (ds2.now ((b : Int) * 16)) = s.commit.toNat + 1 := by
          rcases h00 with e | ⟨hn, e⟩ | e
          · exact absurd e hz
          · rw [e]; exact (hfn 0 (by omega)).1
          · exact e.1
        rw [head_be hh] at h2
        obtain ⟨dx, hdx⟩ : ∃ dx : DSt, dx = ⟨0, 0, (List.range 16).map fun q => if q < supN s' then chS (frameL (superB key s') s'.commit) q else sec0, []⟩ := ⟨_, rfl⟩
        have hdn : ∀ q : Nat, q < supN s' → dx.now (((0 : Nat) : Int) * 16 + q) = chS (frameL (superB key s') s'.commit) q := fun q hq => by
          rw [hdx]
          unfold DSt.now
          show (none : Option Sec).getD (((List.range 16).map fun q => if q < supN s' then chS (frameL (superB key s') s'.commit) q else sec0).getD (((0 : Nat) : Int) * 16 + q).toNat sec0) = _
          rw [Option.getD_none, show (((0 : Nat) : Int) * 16 + q).toNat = q by omega, List.getD_eq_getElem?_getD, List.getElem?_map, List.getElem?_range (by omega)]
          show (if q < supN s' then _ else sec0) = _
          rw [if_pos hq]
        have hpre := unfrF_pre (be 4 (s.commit.toNat + 1)) (fun q => dx.now (((0 : Nat) : Int) * 16 + q)) (fun q => ds2.now ((b : Int) * 16 + q)) 16 0 (fun j _ hj hg => by
          have hj : j < 16 := by omega
          have hg := good_num hg
          have hbe : ofBe (be 4 (s.commit.toNat + 1)) = s.commit.toNat + 1 := by rw [ofBe_be]; exact Nat.mod_eq_of_lt (by omega)
          rw [hbe] at hg
          have ho := hold j hj
          rcases h3 j hj with e | ⟨hn, e⟩ | e
          · rw [e] at hg; omega
          · show ds2.now _ = dx.now _
            rw [hdn j hn]; exact e
          · omega)
        obtain ⟨z, hpz⟩ := hpre
        have hshort := unfrF_short (be 4 (s.commit.toNat + 1)) (fun q => ds2.now ((b : Int) * 16 + q)) 16 0 q0 (Nat.zero_le _) (by omega) (fun hg => hne (by
          have hg := good_num hg
          have hbe : ofBe (be 4 (s.commit.toNat + 1)) = s.commit.toNat + 1 := by rw [ofBe_be]; exact Nat.mod_eq_of_lt (by omega)
          rw [hbe] at hg
          have ho := hold q0 (by omega)
          rcases h3 q0 (by omega) with e | ⟨hn, e⟩ | e
          · rw [e] at hg; omega
          · exact e
          · omega))
        have h5 := parsed_more h2 z
        rw [← hpz] at h5
        have hreg : regS dx 0 = frameL (superB key s') s'.commit ++ dx.reads (((0 : Nat) : Int) * 16 + supN s') (16 - supN s') := by
          unfold regS
          have hsp := reads_add dx (((0 : Nat) : Int) * 16) (supN s') (16 - supN s')
          rw [show supN s' + (16 - supN s') = 16 by omega] at hsp
          rw [hsp]
          congr 1
          rw [reads_is (l := frameL (superB key s') s'.commit) (by rw [frame_len]; omega) (fun q hq => by rw [hdn q hq, chS_val _ q _ (frame_len key s') hq]), ← frame_len key s', List.take_length]
        obtain ⟨z2, hz2⟩ := unfr_sup key s' (dx.reads (((0 : Nat) : Int) * 16 + supN s') (16 - supN s')) (by omega) (DSt.reads_length _ _ _)
        rw [← hreg, unfrL_F] at hz2
        have hd0 := hdn 0 (by omega)
        simp only [Int.natCast_zero, Int.add_zero] at hd0
        have hb0 : (dx.now (((0 : Nat) : Int) * 16)).1.take 4 = be 4 (s.commit.toNat + 1) := head_be (by
          simp only [Int.natCast_zero]
          rw [hd0]; exact (hfn 0 (by omega)).1)
        rw [hb0] at hz2
        rw [hz2, parsed_own key s' z2 hok] at h5
        cases h5
        have h6 := (parsed_len h2).1
        have : supN s' = (150 + s'.txt.length + 55) / 56 := rfl
        omega
end Go.Sac

