/- This text is one of those that prove the law MessagePack of the given program, as its statement says it: true on every input that the statement covers. Its conditions are the statement's own. -/
import Derived.Test.YtjbjeeoifhegfaaGreatDoorZMessagePack1
import Derived.Test.YtjbjeeoifhegfaaGreatDoorZMessagePack2
import Derived.Test.YtjbjeeoifhegfaaGreatDoorZMessagePack3
import Derived.Test.YtjbjeeoifhegfaaGreatDoorZMessagePack4
import Derived.Test.YtjbjeeoifhegfaaGreatDoorZMessagePack5
import Derived.Test.YtjbjeeoifhegfaaGreatDoorZMessagePack6
import Derived.Test.YtjbjeeoifhegfaaGreatDoorZMessagePack7
import Derived.Test.YtjbjeeoifhegfaaGreatDoorZMessagePack8
import Derived.Test.YtjbjeeoifhegfaaGreatDoorZMessagePack9
import Derived.Test.YtjbjeeoifhegfaaGreatDoorZMessagePack10
set_option linter.unusedVariables false
set_option linter.unusedSimpArgs false
open List renaming getElem?_cons_zero → zpg
open List renaming getElem?_cons_succ → zph
open Option renaming bind_some → zpi
open List renaming length_append → zpj
open List renaming length_cons → zpk
namespace Go.Proofs.YtjbjeeoifhegfaaGreatDoor.E
theorem getD_drop (b:List Int) (n k:Nat):(b.drop n).getD k 0 = b.getD (n + k) 0:=by
 rw [List.getD_eq_getElem?_getD,List.getD_eq_getElem?_getD,List.getElem?_drop]
theorem zc4 {b:List Int} {i:Nat} (h:i < b.length):(bs b)[i]? = some (U8 (b.getD i 0)):=by
 rw [Kb h,List.getD_eq_getElem?_getD,List.getElem?_eq_getElem h]
 rfl
def zmp (f:Nat → Nat):Nat → Nat
 | 0 => 0
 | k + 1 => zmp f k + f k * 2 ^ (8 * k)
theorem zgn {f:Nat → Nat} (hf:∀ k,f k < 256):∀ k,zmp f k < 2 ^ (8 * k)
 | 0 => by show 0 < 1; decide
 | k + 1 => by
  have:=zgn hf k
  have h1:=hf k
  have:f k * 2 ^ (8 * k) ≤ 255 * 2 ^ (8 * k):=Nat.mul_le_mul_right _ (by omega)
  rw [zmp,show 8 * (k + 1) = 8 * k + 8 by omega,Nat.pow_add]
  omega
theorem zlI {a x i:Nat} (ha:a < 2 ^ i) (hx:x < 256) (hi:i + 8 ≤ 64):IntKind.wrap .u64 (BitVec.ofInt 64 (a:Int) ||| BitVec.ofInt 64 (IntKind.wrap .u64 (IntKind.wrap .u64 (x:Int) * 2 ^ (min (i:Int).toNat 64)))).toNat = ((a + x * 2 ^ i:Nat):Int):=by
 have hk:2 ^ i * 2 ^ 8 ≤ 2 ^ 64:=by rw [← Nat.pow_add]; exact Nat.pow_le_pow_right (by decide) hi
 have hi0:0 < 2 ^ i:=Nat.pow_pos (by decide)
 have hx2:x * 2 ^ i ≤ 255 * 2 ^ i:=Nat.mul_le_mul_right _ (by omega)
 have e:IntKind.wrap .u64 (IntKind.wrap .u64 (x:Int) * 2 ^ (min (i:Int).toNat 64)) = ((x * 2 ^ i:Nat):Int):=by
  rw [Zc (by omega),Int.toNat_natCast,Nat.min_eq_left (by omega),show (2:Int) ^ i = ((2 ^ i:Nat):Int) by push_cast; rfl,← Int.natCast_mul]
  exact Zc (by omega)
 rw [e]
 have e3:(BitVec.ofInt 64 (a:Int) ||| BitVec.ofInt 64 ((x * 2 ^ i:Nat):Int)).toNat = a + x * 2 ^ i:=by
  rw [BitVec.toNat_or,y6 (by omega),y6 (by omega),Nat.or_comm,Nat.mul_comm,← Nat.two_pow_add_eq_or_of_lt ha]
  omega
 rw [e3,Zc (by omega)]
def Ze (b:List Int) (i:Nat):Nat:=(b.getD i 0).toNat
theorem yD {b:List Int} (hb:∀ x ∈ b,yq x) (i:Nat):((Ze b i:Nat):Int) = b.getD i 0 ∧ Ze b i < 256:=by
 have:=z5 hb i
 unfold Ze
 omega
theorem zmQ (f:Nat → Nat):zmp f 8 = 0 + f 0 * 1 + f 1 * 256 + f 2 * 65536 + f 3 * 16777216 + f 4 * 4294967296 + f 5 * 1099511627776 + f 6 * 281474976710656 + f 7 * 72057594037927936:=rfl
theorem ziD {b:List Int} (hb:∀ x ∈ b,yq x) (n:Nat):((zmp (fun k => Ze b (n + k)) 8:Nat):Int) = w8i (b.drop n):=by
 unfold w8i
 simp only [getD_drop]
 rw [← (yD hb (n + 0)).1,← (yD hb (n + 1)).1,← (yD hb (n + 2)).1,← (yD hb (n + 3)).1,← (yD hb (n + 4)).1,← (yD hb (n + 5)).1,← (yD hb (n + 6)).1,← (yD hb (n + 7)).1]
 rw [zmQ]
 omega
theorem zje {b:List Int} (hb:∀ x ∈ b,yq x) {i:Nat} (hi:8 * i + 8 ≤ b.length) (hl:b.length ≤ 17592186044416):∀ (c k:Nat),k + c = 8 → YP (bs b) i ((zmp (fun k => Ze b (8 * i + k)) k:Nat):Int) k = ok (.tup [U (w8i (b.drop (8 * i))),Bo true]):=by
 intro c
 induction c with
 | zero =>
  intro k hk
  have:k = 8:=by omega
  subst this
  rw [Wh,decide_eq_false (by decide),ziD hb]
  rfl
 | succ c ih =>
  intro k hk
  have hx:=yD hb (8 * i + k)
  rw [Wh,decide_eq_true (show (k:Int) < 8 by omega),w64 (x:=8 * (i:Int)) (by omega),w64 (x:=8 * (i:Int) + k) (by omega),decide_eq_true (show 0 ≤ 8 * (i:Int) + k by omega),decide_eq_true (show 8 * (i:Int) + k < ((bs b).length:Int) by simp; omega)]
  dsimp only [za,zb,zf,zpi,zj,zm,zq,zk,zs,zn,zK,zM,zL,pU8,zpg,zph,zi,zg,zc,zh,ze,zA,zv,zr,zo,zJ,zI,zF,zG,zH,len8,zD,zC,zt,zu]
  rw [show (8 * (i:Int) + k).toNat = 8 * i + k by omega,zc4 (by omega),← hx.1]
  dsimp only [za,zb,zf,zpi,zj,zm,zq,zk,zs,zn,zK,zM,zL,pU8,zpg,zph,zi,zg,zc,zh,ze,zA,zv,zr,zo,zJ,zI,zF,zG,zH,len8,zD,zC,zt,zu]
  rw [w64 (x:=8 * (k:Int)) (by omega),show (8 * (k:Int)) = ((8 * k:Nat):Int) by push_cast; rfl,Zc (by omega),zlI (zgn (fun j => (yD hb (8 * i + j)).2) k) hx.2 (by omega),w64 (x:=(k:Int) + 1) (by omega),show wI .shl ((8 * k:Nat):Int) = true from by unfold wI; exact decide_eq_true (by omega)]
  exact ih (k + 1) (by omega)
theorem zn9 {b:List Int} (hb:∀ x ∈ b,yq x) {i:Nat} (hi:8 * i + 8 ≤ b.length) (hl:b.length ≤ 17592186044416):ev 116 [.pv (.sl 1 (bs b)),.pv (I (i:Int))] [] = ok (.tup [U (w8i (b.drop (8 * i))),Bo true]):=by
 rw [zdJ,zV,Int.tdiv_eq_ediv_of_nonneg (by omega),w64 (x:=(b.length:Int) / 8) (by omega),decide_eq_false (show ¬ (i:Int) < 0 by omega),decide_eq_false (show ¬ (i:Int) ≥ (b.length:Int) / 8 by omega)]
 exact zje hb hi hl 8 0 rfl
def zfP (f:Nat → Nat):Nat → Nat
 | 0 => 0
 | k + 1 => zfP f k * 256 + f (7 - k)
theorem zgm {f:Nat → Nat} (hf:∀ k,f k < 256):∀ k,zfP f k < 256 ^ k
 | 0 => by show 0 < 1; decide
 | k + 1 => by
  have:=zgm hf k
  have h1:=hf (7 - k)
  rw [zfP,Nat.pow_succ]
  omega
theorem zmP (f:Nat → Nat):zfP f 8 = (((((((0 * 256 + f 7) * 256 + f 6) * 256 + f 5) * 256 + f 4) * 256 + f 3) * 256 + f 2) * 256 + f 1) * 256 + f 0:=rfl
theorem ziC {b:List Int} (hb:∀ x ∈ b,yq x) (n:Nat):((zfP (fun k => Ze b (n + k)) 8:Nat):Int) = w8i (b.drop n):=by
 unfold w8i
 simp only [getD_drop]
 rw [← (yD hb (n + 0)).1,← (yD hb (n + 1)).1,← (yD hb (n + 2)).1,← (yD hb (n + 3)).1,← (yD hb (n + 4)).1,← (yD hb (n + 5)).1,← (yD hb (n + 6)).1,← (yD hb (n + 7)).1]
 rw [zmP]
 omega
theorem zhP {b:List Int} (hb:∀ x ∈ b,yq x) {i:Nat} (hi:8 * i + 8 ≤ b.length) (hl:b.length ≤ 17592186044416):∀ (c k:Nat),k + c = 8 → wl (bs b) i ((zfP (fun k => Ze b (8 * i + k)) k:Nat):Int) (7 - k) = ok (.tup [U (w8i (b.drop (8 * i))),Bo true]):=by
 intro c
 induction c with
 | zero =>
  intro k hk
  have:k = 8:=by omega
  subst this
  rw [vU,decide_eq_false (by decide),ziC hb]
  rfl
 | succ c ih =>
  intro k hk
  have hx:=yD hb (8 * i + (7 - k))
  have ha:=zgm (f:=fun k => Ze b (8 * i + k)) (fun j => (yD hb (8 * i + j)).2) (k + 1)
  have hp:256 ^ (k + 1) ≤ 256 ^ 8:=Nat.pow_le_pow_right (by decide) (by omega)
  rw [zfP] at ha
  have hq2:zfP (fun k => Ze b (8 * i + k)) k * 256 + Ze b (8 * i + (7 - k)) < 2 ^ 64:=Nat.lt_of_lt_of_le ha (Nat.le_trans hp (by decide))
  have hq:zfP (fun k => Ze b (8 * i + k)) k * 256 < 2 ^ 64:=Nat.lt_of_le_of_lt (Nat.le_add_right _ _) hq2
  rw [vU,decide_eq_true (show (7:Int) - k ≥ 0 by omega),w64 (x:=8 * (i:Int)) (by omega),w64 (x:=8 * (i:Int) + (7 - k)) (by omega),decide_eq_true (show 0 ≤ 8 * (i:Int) + (7 - k) by omega),decide_eq_true (show 8 * (i:Int) + (7 - k) < ((bs b).length:Int) by simp; omega)]
  dsimp only [za,zb,zf,zpi,zj,zm,zq,zk,zs,zn,zK,zM,zL,pU8,zpg,zph,zi,zg,zc,zh,ze,zA,zv,zr,zo,zJ,zI,zF,zG,zH,len8,zD,zC,zt,zu]
  rw [show (8 * (i:Int) + (7 - k)).toNat = 8 * i + (7 - k) by omega,zc4 (by omega),← hx.1]
  dsimp only [za,zb,zf,zpi,zj,zm,zq,zk,zs,zn,zK,zM,zL,pU8,zpg,zph,zi,zg,zc,zh,ze,zA,zv,zr,zo,zJ,zI,zF,zG,zH,len8,zD,zC,zt,zu]
  rw [Zc (n:=Ze b (8 * i + (7 - k))) (by omega),show ((zfP (fun k => Ze b (8 * i + k)) k:Nat):Int) * 256 = ((zfP (fun k => Ze b (8 * i + k)) k * 256:Nat):Int) by rw [Int.natCast_mul]; rfl,Zc (n:=zfP (fun k => Ze b (8 * i + k)) k * 256) hq,← Int.natCast_add,Zc hq2,w64 (x:=(7:Int) - k - 1) (by omega)]
  have:=ih (k + 1) (by omega)
  rw [show (7:Int) - ((k + 1:Nat):Int) = 7 - k - 1 by omega] at this
  exact this
theorem zgg {b:List Int} (hb:∀ x ∈ b,yq x) {i:Nat} (hi:8 * i + 8 ≤ b.length) (hl:b.length ≤ 17592186044416):ev 94 [.pv (.sl 1 (bs b)),.pv (I (i:Int))] [] = ok (.tup [U (w8i (b.drop (8 * i))),Bo true]):=by
 rw [Yc,zV,Int.tdiv_eq_ediv_of_nonneg (by omega),w64 (x:=(b.length:Int) / 8) (by omega),w64 (x:=(b.length:Int) / 8 - 1) (by omega),decide_eq_false (show ¬ (i:Int) < 0 by omega),decide_eq_false (show ¬ (i:Int) > (b.length:Int) / 8 - 1 by omega)]
 exact zhP hb hi hl 8 0 rfl
theorem ze7:∀ (n i:Nat) (b:List Int),i < n → (xi n b)[i]? = some (w8i (b.drop (8 * i)))
 | 0,i,b,h => by omega
 | n + 1,0,b,h => by simp [xi]
 | n + 1,i + 1,b,h => by
  rw [xi,zph,ze7 n i (b.drop 8) (by omega),List.drop_drop]
  congr 3
  omega
theorem zcP {n i:Nat} (b:List Int) (h:i < n):(xi n b).take (i + 1) = (xi n b).take i ++ [w8i (b.drop (8 * i))]:=by
 have hl:i < (xi n b).length:=by rw [yp]; exact h
 rw [List.take_succ_eq_append_getElem hl]
 have:=ze7 n i b h
 rw [List.getElem?_eq_getElem hl] at this
 rw [Option.some.inj this]
theorem zmj (b:List Int) (z:Nat):w8i (b ++ List.replicate z 0) = w8i b:=by
 have h:∀ k,(b ++ List.replicate z 0).getD k 0 = b.getD k 0:=fun k => by
  rw [List.getD_eq_getElem?_getD,List.getD_eq_getElem?_getD]
  by_cases h1:k < b.length
  ·rw [List.getElem?_append_left h1]
  ·rw [List.getElem?_append_right (by omega),List.getElem?_replicate,List.getElem?_eq_none (by omega)]
   split <;> rfl
 unfold w8i
 simp only [h]
theorem ze8:∀ (n:Nat) (b:List Int) (z:Nat),xi n (b ++ List.replicate z 0) = xi n b
 | 0,b,z => rfl
 | n + 1,b,z => by
  rw [xi,xi,zmj,List.drop_append,List.drop_replicate,ze8 n]
theorem zfO {b:List Int} (hb:∀ x ∈ b,yq x) (hl:b.length ≤ 1099511627776) {n:Nat} (hn:8 * n = b.length):∀ (c i:Nat),i + c = n → Zl (bs b) (ws ((xi n b).take i)) n i = ok (.tup [.sl 1 (ws (xi n b)),Bo true]):=by
 intro c
 induction c with
 | zero =>
  intro i hi
  rw [Y1,decide_eq_false (by omega),List.take_of_length_le (by rw [yp]; omega)]
  rfl
 | succ c ih =>
  intro i hi
  rw [Y1,decide_eq_true (show (i:Int) < (n:Int) by omega),zn9 hb (by omega) (by omega)]
  dsimp only [za,zb,zf,zpi,zj,zm,zq,zk,zs,zn,zK,zM,zL,pU8,zpg,zph,zi,zg,zc,zh,ze,zA,zv,zr,zo,zJ,zI,zF,zG,zH,len8,zD,zC,zt,zu]
  rw [yb (by rw [ym,List.length_take]; omega) (by rw [ym,List.length_take]; omega),w64 (x:=(i:Int) + 1) (by omega),WI,← zcP b (by omega)]
  exact ih (i + 1) (by omega)
theorem zao {b:List Int} (hb:∀ x ∈ b,yq x) (hl:b.length ≤ 1099511627776) {n:Nat} (hn:8 * n = b.length):ev 64 [.pv (.sl 1 (bs b))] [] = ok (.tup [.sl 1 (ws (xi n b)),Bo true]):=by
 rw [zbj,zV,Int.tdiv_eq_ediv_of_nonneg (by omega),Int.tmod_eq_emod_of_nonneg (by omega),show (b.length:Int) / 8 = n by omega,w64 (by omega),show ((b.length:Int) % 8 != 0) = false from by simp; omega,decide_eq_true (show 0 ≤ (n:Int) by omega),decide_eq_true (show (n:Int) ≤ 140737488355328 by omega),Int.toNat_natCast,yb (by omega) (by omega)]
 have:=zfO hb hl hn n 0 (by omega)
 rw [List.take_zero] at this
 exact this
theorem zcu {b:List Int} (hb:∀ x ∈ b,yq x) (hl:b.length ≤ 1099511627776) {n:Nat} (hn:8 * n = b.length):∀ (c i:Nat),i + c = n → xL (bs b) (ws ((xi n b).take i)) i = some (.ret (.tup 0 (.slu 30 1 (ws (xi n b))) [.v .nilIface,Bo true]),[]):=by
 intro c
 induction c with
 | zero =>
  intro i hi
  rw [vo,zV,Int.tdiv_eq_ediv_of_nonneg (by omega),show (b.length:Int) / 8 = n by omega,w64 (x:=(n:Int)) (by omega),decide_eq_false (by omega),List.take_of_length_le (by rw [yp]; omega)]
  rfl
 | succ c ih =>
  intro i hi
  rw [vo,zV,Int.tdiv_eq_ediv_of_nonneg (by omega),show (b.length:Int) / 8 = n by omega,w64 (x:=(n:Int)) (by omega),decide_eq_true (show (i:Int) < (n:Int) by omega),zgg hb (by omega) (by omega)]
  dsimp only [za,zb,zf,zpi,zj,zm,zq,zk,zs,zn,zK,zM,zL,pU8,zpg,zph,zi,zg,zc,zh,ze,zA,zv,zr,zo,zJ,zI,zF,zG,zH,len8,zD,zC,zt,zu]
  rw [yb (by rw [ym,List.length_take]; omega) (by rw [ym,List.length_take]; omega),w64 (x:=(i:Int) + 1) (by omega),WI,← zcP b (by omega)]
  exact ih (i + 1) (by omega)
theorem zbv {b:List Int} (hb:∀ x ∈ b,yq x) (hl:b.length ≤ 1099511627776) {n:Nat} (hn:8 * n = b.length):ev 87 [.pv (.sl 1 (bs b))] [] = some (.ret (.tup 0 (.slu 30 1 (ws (xi n b))) [.v .nilIface,Bo true]),[]):=by
 rw [Ws,zV,Int.tmod_eq_emod_of_nonneg (by omega),show ((b.length:Int) % 8 != 0) = false from by simp; omega]
 have:=zcu hb hl hn n 0 (by omega)
 rw [List.take_zero] at this
 exact this
theorem zmV (b:List Int) (z:Nat):bs (b ++ List.replicate z 0) = bs b ++ List.replicate z (U8 0):=by simp [bs]
theorem ziR {b:List Int} (hb:∀ x ∈ b,yq x) (z:Nat):∀ x ∈ b ++ List.replicate z 0,yq x:=fun x hx => by
 rcases List.mem_append.1 hx with h | h
 ·exact hb x h
 ·rw [(List.mem_replicate.1 h).2]; exact ⟨by decide,by decide⟩
def wh (W:List Int):z6:=[[.slu 30 1 (ws W)]]
theorem zie (a b:List Int):ws (a ++ b) = ws a ++ ws b:=by simp [ws]
theorem znR (n:Nat):ws (List.replicate n 0) = List.replicate n (U 0):=by simp [ws]
theorem zap {W b:List Int} (hb:∀ x ∈ b,yq x) {n:Nat} (hn:n ≤ 137438953472) (h8:b.length ≤ 8 * n) (hW:W.length ≤ 137438953472):ev 293 [.ptr 0 0,.pv (.sl 1 (bs b)),.pv (I (n:Int))] (wh W) = some (.ret (.pv (.tup [])),wh (W ++ xi n b)):=by
 unfold wh
 rw [Zz,w64 (x:=8 * (n:Int)) (by omega),decide_eq_true (show 0 ≤ 8 * (n:Int) by omega),decide_eq_true (show 8 * (n:Int) ≤ 8 * (n:Int) by omega),decide_eq_true (show 8 * (n:Int) ≤ 140737488355328 by omega),show (8 * (n:Int)).toNat = 8 * n by omega,yb (by omega) (by omega),List.length_replicate,List.drop_replicate,zV,List.take_of_length_le (show (bs b).length ≤ 8 * n by rw [zV]; exact h8)]
 have:=zao (ziR hb (8 * n - b.length)) (by rw [zpj,List.length_replicate]; omega) (n:=n) (by rw [zpj,List.length_replicate]; omega)
 rw [zmV,ze8] at this
 dsimp only [za,zb,zf,zpi,zj,zm,zq,zk,zs,zn,zK,zM,zL,pU8,zpg,zph,zi,zg,zc,zh,ze,zA,zv,zr,zo,zJ,zI,zF,zG,zH,len8,zD,zC,zt,zu]
 rw [this]
 dsimp only [za,zb,zf,zpi,zj,zm,zq,zk,zs,zn,zK,zM,zL,pU8,zpg,zph,zi,zg,zc,zh,ze,zA,zv,zr,zo,zJ,zI,zF,zG,zH,len8,zD,zC,zt,zu]
 rw [ym,ym,yp,yb (by omega) (by omega),zie]
 rfl
theorem zaq {W:List Int} {n:Nat} (hn:n ≤ 137438953472) (hW:W.length ≤ 137438953472):ev 292 [.ptr 0 0,.pv (I (n:Int))] (wh W) = some (.ret (.pv (I (W.length:Int))),wh (W ++ List.replicate n 0)):=by
 unfold wh
 rw [ZA,decide_eq_true (show 0 ≤ (n:Int) by omega),decide_eq_true (show (n:Int) ≤ 140737488355328 by omega),Int.toNat_natCast,ym,List.length_replicate,yb (by omega) (by omega),zie,znR]
 rfl
def Yp (B:Nd → List Int) (a:Nat) (t:Nd) (W:List Int):List Int:=if t.kind = 0 then W else W.set a (W9 t ((W.length:Int) - a - 1)) ++ B t
def Qs (B:Nd → List Int):List (Nat × Nd) → List Int → List Int
 | [],W => W
 | (a,t) :: r,W => Qs B r (Yp B a t W)
def Qc (i:Nat):List Nd → List (Nat × Nd)
 | [] => []
 | t :: r => (i,t) :: Qc (i + 1) r
def zjr (a s i:Nat):List Nd → List (Nat × Nd)
 | [] => []
 | k :: r => Qc (i + a) k.kids ++ zjr a s (i + s) r
def els (a b:Nat) (l:List Nd):List Int:=l.flatMap fun k => xi a k.data ++ List.replicate b 0
theorem za2 (B:Nd → List Int):∀ (l m:List (Nat × Nd)) (W:List Int),Qs B (l ++ m) W = Qs B m (Qs B l W)
 | [],m,W => rfl
 | (a,t) :: l,m,W => za2 B l m _
theorem zco {t:Nd} (h:t.kind = 0) (o:Int):W9 t o = 0:=by unfold W9; rw [if_pos h]
theorem zn3 {B:Nd → List Int} (hB:∀ t:Nd,t.kind = 0 → B t = []):∀ (q:List Nd) (X Y:List Int) (i n:Nat),i = X.length → n = X.length + q.length + Y.length → Qs B (Qc i q) (X ++ (List.replicate q.length 0 ++ Y)) = X ++ (Qq B i n q ++ (Y ++ q.flatMap B))
 | [],X,Y,i,n,hi,hn => by simp [Qs,Qc,Qq]
 | t :: r,X,Y,i,n,hi,hn => by
  rw [Qc,Qs,Qq,List.flatMap_cons,zpk,List.replicate_succ]
  rw [zpk] at hn
  have e:Yp B i t (X ++ (0 :: List.replicate r.length 0 ++ Y)) = (X ++ [W9 t ((n:Int) - i - 1)]) ++ (List.replicate r.length 0 ++ (Y ++ B t)):=by
   unfold Yp
   by_cases h0:t.kind = 0
   ·rw [if_pos h0,zco h0,hB t h0]
    simp
   ·rw [if_neg h0]
    have hl:(X ++ (0 :: List.replicate r.length 0 ++ Y)).length = n:=by simp; omega
    rw [hl,hi,List.set_append_right _ _ (Nat.le_refl _),Nat.sub_self]
    simp
  rw [e,zn3 hB r (X ++ [W9 t ((n:Int) - i - 1)]) (Y ++ B t) (i + 1) (n + (B t).length) (by simp [hi]) (by simp; omega)]
  simp only [List.append_assoc,List.singleton_append,List.cons_append,List.nil_append]
theorem zea (a b:Nat) (k:Nd) (l:List Nd):els a b (k :: l) = xi a k.data ++ (List.replicate b 0 ++ els a b l):=by simp [els]
theorem zaI (a b:Nat):∀ l:List Nd,(els a b l).length = l.length * (a + b)
 | [] => by simp [els]
 | k :: l => by rw [zea,zpj,zpj,yp,List.length_replicate,zaI a b l,zpk,Nat.add_mul]; omega
theorem zoT {B:Nd → List Int} (hB:∀ t:Nd,t.kind = 0 → B t = []) (a b:Nat):∀ (ks:List Nd) (X Y:List Int) (i n:Nat),i = X.length → n = X.length + ks.length * (a + b) + Y.length → (∀ k ∈ ks,k.kids.length ≤ b) → Qs B (zjr a (a + b) i ks) (X ++ (els a b ks ++ Y)) = X ++ (zav B a b i n ks ++ (Y ++ ks.flatMap fun k => k.kids.flatMap B))
 | [],X,Y,i,n,hi,hn,_ => by simp [Qs,zjr,zav,els]
 | k :: r,X,Y,i,n,hi,hn,hk => by
  have hb:=hk k List.mem_cons_self
  rw [zpk,Nat.add_mul,Nat.one_mul] at hn
  rw [zjr,za2,zav,List.flatMap_cons,zea]
  have e1:X ++ (xi a k.data ++ (List.replicate b 0 ++ els a b r) ++ Y) = (X ++ xi a k.data) ++ (List.replicate k.kids.length 0 ++ (List.replicate (b - k.kids.length) 0 ++ (els a b r ++ Y))):=by
   have:List.replicate b (0:Int) = List.replicate k.kids.length 0 ++ List.replicate (b - k.kids.length) 0:=by rw [List.replicate_append_replicate]; congr 1; omega
   rw [this]
   simp only [List.append_assoc]
  rw [e1,zn3 hB k.kids (X ++ xi a k.data) (List.replicate (b - k.kids.length) 0 ++ (els a b r ++ Y)) (i + a) n (by simp [hi]) (by simp [zaI]; omega)]
  have e2:X ++ xi a k.data ++ (Qq B (i + a) n k.kids ++ (List.replicate (b - k.kids.length) 0 ++ (els a b r ++ Y) ++ k.kids.flatMap B)) = (X ++ (xi a k.data ++ (Qq B (i + a) n k.kids ++ List.replicate (b - k.kids.length) 0))) ++ (els a b r ++ (Y ++ k.kids.flatMap B)):=by
   simp only [List.append_assoc]
  have r2:=zoT hB a b r (X ++ (xi a k.data ++ (Qq B (i + a) n k.kids ++ List.replicate (b - k.kids.length) 0))) (Y ++ k.kids.flatMap B) (i + (a + b)) (n + zkc B k.kids) (by simp [hi]; omega) (by unfold zkc; simp; omega) (fun x hx => hk x (List.mem_cons_of_mem _ hx))
  rw [e2,r2]
  simp only [List.append_assoc]
theorem XJ (B:Nd → List Int) (s:Nat):∀ (l:List Nd) (i n:Nat),Qq B (i + s) (n + s) l = Qq B i n l
 | [],i,n => rfl
 | t :: r,i,n => by
  rw [Qq,Qq]
  have e:=XJ B s r (i + 1) (n + (B t).length)
  rw [show i + 1 + s = i + s + 1 by omega,show n + (B t).length + s = n + s + (B t).length by omega] at e
  rw [e]
  congr 2
  omega
theorem JP (B:Nd → List Int) (a b s:Nat):∀ (l:List Nd) (i n:Nat),zav B a b (i + s) (n + s) l = zav B a b i n l
 | [],i,n => rfl
 | k :: r,i,n => by
  rw [zav,zav]
  have e:=JP B a b s r (i + (a + b)) (n + zkc B k.kids)
  rw [show i + (a + b) + s = i + s + (a + b) by omega,show n + zkc B k.kids + s = n + s + zkc B k.kids by omega] at e
  rw [e]
  have e2:=XJ B s k.kids (i + a) n
  rw [show i + a + s = i + s + a by omega] at e2
  rw [e2]
def shW (x:Nd):List Int :=
 if x.kind = 1 then xi (x.data.length / 8) x.data ++ List.replicate x.kids.length 0
 else if x.elem = 7 then Zn x.n (yL x.kids) (yP x.kids) :: els (yL x.kids) (yP x.kids) x.kids
 else if x.elem = 6 then List.replicate x.kids.length 0
 else xi (z4 x.elem x.n).toNat x.data
def prs (x:Nd) (s:Nat):List (Nat × Nd) :=
 if x.kind = 1 then Qc (s + x.data.length / 8) x.kids
 else if x.elem = 7 then zjr (yL x.kids) (yL x.kids + yP x.kids) (s + 1) x.kids
 else Qc s x.kids
theorem zl2 {B:Nd → List Int} {x:Nd} (hv:VN x) (h0:x.kind ≠ 0):(shW x).length = (obW B x).length:=by
 obtain ⟨hs,_⟩:=ZY hv
 unfold shW obW
 by_cases h1:x.kind = 1
 ·rw [if_pos h1,if_pos h1]; simp
 ·rw [if_neg h1,if_neg h1]
  by_cases h7:x.elem = 7
  ·rw [if_pos h7,if_pos h7,zpk,zpk,zaI,QE _ _ _ _ _ _ (fun k hk => XP hk)]
  ·rw [if_neg h7,if_neg h7]
   by_cases h6:x.elem = 6
   ·rw [if_pos h6,if_pos h6]; simp
   ·rw [if_neg h6,if_neg h6]
theorem zny {B:Nd → List Int} (hB:∀ t:Nd,t.kind = 0 → B t = []) {x:Nd} (hv:VN x) (h0:x.kind ≠ 0) (W:List Int):Qs B (prs x W.length) (W ++ shW x) = W ++ (obW B x ++ (tgt x).flatMap B):=by
 obtain ⟨hs,_⟩:=ZY hv
 unfold prs shW obW
 by_cases h1:x.kind = 1
 ·rw [if_pos h1,if_pos h1,if_pos h1]
  have et:tgt x = x.kids:=if_neg (fun h => by rw [h1] at h; exact absurd h.1 (by decide))
  have r:=zn3 hB x.kids (W ++ xi (x.data.length / 8) x.data) [] (W.length + x.data.length / 8) (W.length + (x.data.length / 8 + x.kids.length)) (by simp) (by simp; omega)
  rw [List.append_nil] at r
  rw [← List.append_assoc,r,et,List.nil_append]
  have e:=XJ B W.length x.kids (x.data.length / 8) (x.data.length / 8 + x.kids.length)
  rw [Nat.add_comm _ W.length,Nat.add_comm _ W.length] at e
  rw [e]
  simp only [List.append_assoc]
 ·rw [if_neg h1,if_neg h1,if_neg h1]
  by_cases h7:x.elem = 7
  ·rw [if_pos h7,if_pos h7,if_pos h7]
   have hk2:x.kind = 2:=by rcases hs with h | h | h <;> omega
   have et:tgt x = x.kids.flatMap Nd.kids:=if_pos ⟨hk2,h7⟩
   have r:=zoT hB (yL x.kids) (yP x.kids) x.kids (W ++ [Zn x.n (yL x.kids) (yP x.kids)]) [] (W.length + 1) (W.length + (1 + x.kids.length * uni x)) (by simp) (by unfold uni; simp; omega) (fun k hk => XP hk)
   rw [List.append_nil] at r
   rw [et,Ky]
   have e1:W ++ Zn x.n (yL x.kids) (yP x.kids) :: els (yL x.kids) (yP x.kids) x.kids = W ++ [Zn x.n (yL x.kids) (yP x.kids)] ++ els (yL x.kids) (yP x.kids) x.kids:=by simp
   rw [e1,r,List.nil_append]
   have e:=JP B (yL x.kids) (yP x.kids) W.length x.kids 1 (1 + x.kids.length * uni x)
   rw [Nat.add_comm _ W.length,Nat.add_comm _ W.length] at e
   rw [e]
   simp
  ·rw [if_neg h7,if_neg h7,if_neg h7]
   have et:tgt x = x.kids:=if_neg (fun h => h7 h.2)
   rw [et]
   by_cases h6:x.elem = 6
   ·rw [if_pos h6,if_pos h6]
    have r:=zn3 hB x.kids W [] W.length (W.length + x.kids.length) rfl (by simp)
    rw [List.append_nil] at r
    rw [r,List.nil_append]
    have e:=XJ B W.length x.kids 0 x.kids.length
    rw [Nat.zero_add,Nat.add_comm] at e
    rw [e]
   ·rw [if_neg h6,if_neg h6]
    have hk:x.kids = []:=by
     rcases hs with h | h | h
     ·omega
     ·omega
     ·exact List.length_eq_zero_iff.1 (h.2.2.2.2 (by omega)).1
    rw [hk]
    simp [Qc,Qs]
theorem zbG (D:Nat) (t:Nd) (h:t.kind = 0):body D t = []:=by
 cases D with
 | zero => rfl
 | succ D => rw [body,if_pos h]
theorem zdr {D:Nat} {x:Nd} (hv:VN x) (h0:x.kind ≠ 0) {a:Nat} {W:List Int} (ha:a < W.length):Yp (body (D + 1)) a x W = Qs (body D) (prs x W.length) ((W ++ shW x).set a (W9 x ((W.length:Int) - a - 1))):=by
 unfold Yp
 rw [if_neg h0,List.set_append_left _ _ ha]
 have r:=zny (zbG D) hv h0 (W.set a (W9 x ((W.length:Int) - a - 1)))
 rw [List.length_set] at r
 rw [r,body,if_neg h0]
def Pt0 (off:Int) (d q:Nat):PV:=.agg [I 0,I off,I d,I q,I 0,I 0,Bo false,I 0,U32 0,U32 0]
def Pt1 (off e c:Int):PV:=.agg [I 1,I off,I 0,I 0,I e,I c,Bo false,I 0,U32 0,U32 0]
theorem zgl {W d:List Int} {ks:List Nd} (hb:∀ x ∈ d,yq x) (h8:d.length % 8 = 0) (hd:d.length ≤ 524280) (hk:ks.length ≤ 65535) (hW:W.length ≤ 268435456) (e n:Int):ev 269 [.ptr 0 0,.pv (.agg [I 1,I e,I n,.sl 1 (bs d),.sl 5 (pvs ks)])] (wh W) =
  some (.ret (.pv (.tup [Pt0 0 (d.length / 8) ks.length,.sl 1 [I ((W.length + d.length / 8:Nat):Int)]])),wh (W ++ (xi (d.length / 8) d ++ List.replicate ks.length 0))):=by
 have h1:=zap (W:=W) hb (n:=d.length / 8) (by omega) (by omega) (by omega)
 have h2:=zaq (W:=W ++ xi (d.length / 8) d) (n:=ks.length) (by omega) (by simp; omega)
 unfold wh at h1 h2 ⊢
 rw [vG,zV,w9,Int.tdiv_eq_ediv_of_nonneg (by omega),show (d.length:Int) / 8 = ((d.length / 8:Nat):Int) by omega,w64 (by omega),h1]
 dsimp only [za,zb,zf,zpi,zj,zm,zq,zk,zs,zn,zK,zM,zL,pU8,zpg,zph,zi,zg,zc,zh,ze,zA,zv,zr,zo,zJ,zI,zF,zG,zH,len8,zD,zC,zt,zu]
 rw [yO]
 dsimp only [za,zb,zf,zpi,zj,zm,zq,zk,zs,zn,zK,zM,zL,pU8,zpg,zph,zi,zg,zc,zh,ze,zA,zv,zr,zo,zJ,zI,zF,zG,zH,len8,zD,zC,zt,zu]
 rw [h2]
 dsimp only [za,zb,zf,zpi,zj,zm,zq,zk,zs,zn,zK,zM,zL,pU8,zpg,zph,zi,zg,zc,zh,ze,zA,zv,zr,zo,zJ,zI,zF,zG,zH,len8,zD,zC,zt,zu]
 rw [zpj,yp,List.append_assoc]
 rfl
theorem ziB {W:List Int} {ks:List Nd} {n:Nat} (hn:n ≤ 268435456) (hW:W.length ≤ 268435456) (d:List PV):ev 268 [.ptr 0 0,.pv (.agg [I 2,I 6,I (n:Int),.sl 1 d,.sl 5 (pvs ks)])] (wh W) =
  some (.ret (.pv (.tup [Pt1 0 6 n,.sl 1 [I (W.length:Int)]])),wh (W ++ List.replicate n 0)):=by
 have h2:=zaq (W:=W) (n:=n) (by omega) (by omega)
 unfold wh at h2 ⊢
 rw [wB,show ((6:Int) == 6) = true from rfl,h2]
 rfl
theorem zkX {W d:List Int} {ks:List Nd} {e n:Int} (he:0 ≤ e ∧ e < 6) (hn:0 ≤ n ∧ n ≤ 536870911) (hb:∀ x ∈ d,yq x) (hl:(d.length:Int) = yg e n) (hw:z4 e n ≤ 268435456) (hW:W.length ≤ 268435456) (hO:ev 262 [.pv (.agg [I 2,I e,I n,.sl 1 (bs d),.sl 5 (pvs ks)])] [] = ok (I (z4 e n))) :
  ev 268 [.ptr 0 0,.pv (.agg [I 2,I e,I n,.sl 1 (bs d),.sl 5 (pvs ks)])] (wh W) =
  some (.ret (.pv (.tup [Pt1 0 e n,.sl 1 []])),wh (W ++ xi (z4 e n).toNat d)):=by
 have hr:=xO (e:=e) hn
 have hbw:=Kf he hn
 have h1:=zap (W:=W) hb (n:=(z4 e n).toNat) (by omega) (by omega) (by omega)
 rw [show (((z4 e n).toNat:Nat):Int) = z4 e n by omega] at h1
 unfold wh at h1 ⊢
 rw [wB,beq_eq_false_iff_ne.2 (show e ≠ 6 by omega),hO]
 dsimp only [za,zb,zf,zpi,zj,zm,zq,zk,zs,zn,zK,zM,zL,pU8,zpg,zph,zi,zg,zc,zh,ze,zA,zv,zr,zo,zJ,zI,zF,zG,zH,len8,zD,zC,zt,zu]
 rw [h1]
 rfl
theorem zgS {W0:List Int} {ks:List Nd} {a b:Nat} (ha:a ≤ 65535) (hb:b ≤ 65535) (hk:ks.length ≤ 536870911) (hs:∀ k ∈ ks,(∀ x ∈ k.data,yq x) ∧ k.data.length ≤ 8 * a) (hl:W0.length + ks.length * (a + b) ≤ 268435456) (i7 i8 i9:Int) (xs10 xs11:List PV) (i12 i13 i14 i15 i16 i17:Int) (b18:Bool) (i19 i20 i21:Int):∀ (c i:Nat),i + c = ks.length →
  yA (I a) (I b) (((List.range i).map fun j => I ((W0.length + j * (a + b) + a:Nat):Int))) (pvs ks) ks.length i (ws (W0 ++ els a b (ks.take i))) i7 i8 i9 xs10 xs11 i12 i13 i14 i15 i16 i17 b18 i19 i20 i21 =
   some (.ret (.pv (.tup [Pt1 0 i8 (IntKind.wrap .i64 (i9 * ((a + b:Nat):Int))),.sl 1 ((List.range ks.length).map fun j => I ((W0.length + j * (a + b) + a:Nat):Int))])),wh (W0 ++ els a b ks)):=by
 intro c
 induction c with
 | zero =>
  intro i hi
  rw [xt,decide_eq_false (by omega),List.take_of_length_le (by omega),show i = ks.length by omega]
  dsimp only [za,zb,zf,zpi,zj,zm,zq,zk,zs,zn,zK,zM,zL,pU8,zpg,zph,zi,zg,zc,zh,ze,zA,zv,zr,zo,zJ,zI,zF,zG,zH,len8,zD,zC,zt,zu]
  rw [w64 (x:=(a:Int) + b) (by omega),show (a:Int) + b = ((a + b:Nat):Int) by push_cast; rfl]
  rfl
 | succ c ih =>
  intro i hi
  have hil:i < ks.length:=by omega
  obtain ⟨s1,s2⟩:=hs _ (List.getElem_mem hil)
  have hmul:i * (a + b) + (a + b) ≤ ks.length * (a + b):=by
   have:=Nat.mul_le_mul_right (a + b) (show i + 1 ≤ ks.length by omega)
   rw [Nat.add_mul,Nat.one_mul] at this
   exact this
  have hel:(els a b (ks.take i)).length = i * (a + b):=by rw [zaI,List.length_take,Nat.min_eq_left (by omega)]
  have h1:=zap (W:=W0 ++ els a b (ks.take i)) s1 (n:=a) (by omega) s2 (by rw [zpj,hel]; omega)
  have h2:=zaq (W:=W0 ++ els a b (ks.take i) ++ xi a ks[i].data) (n:=b) (by omega) (by rw [zpj,zpj,hel,yp]; omega)
  unfold wh at h1 h2
  rw [xt,decide_eq_true (show (i:Int) < (ks.length:Int) by omega),decide_eq_true (show 0 ≤ (i:Int) by omega),decide_eq_true (show (i:Int) < ((pvs ks).length:Int) by simp; omega)]
  dsimp only [za,zb,zf,zpi,zj,zm,zq,zk,zs,zn,zK,zM,zL,pU8,zpg,zph,zi,zg,zc,zh,ze,zA,zv,zr,zo,zJ,zI,zF,zG,zH,len8,zD,zC,zt,zu]
  rw [Int.toNat_natCast,Zx hil]
  dsimp only [za,zb,zf,zpi,zj,zm,zq,zk,zs,zn,zK,zM,zL,pU8,zpg,zph,zi,zg,zc,zh,ze,zA,zv,zr,zo,zJ,zI,zF,zG,zH,len8,zD,zC,zt,zu]
  rw [YH,ZS,show (ks[i].c.drop 0).take 5 = ks[i].c from rfl]
  dsimp only [Nd.c,za,zb,zf,zpi,zj,zm,zq,zk,zs,zn,zK,zM,zL,pU8,zpg,zph,zi,zg,zc,zh,ze,zA,zv,zr,zo,zJ,zI,zF,zG,zH,len8,zD,zC,zt,zu]
  rw [h1]
  dsimp only [za,zb,zf,zpi,zj,zm,zq,zk,zs,zn,zK,zM,zL,pU8,zpg,zph,zi,zg,zc,zh,ze,zA,zv,zr,zo,zJ,zI,zF,zG,zH,len8,zD,zC,zt,zu]
  rw [yO]
  dsimp only [za,zb,zf,zpi,zj,zm,zq,zk,zs,zn,zK,zM,zL,pU8,zpg,zph,zi,zg,zc,zh,ze,zA,zv,zr,zo,zJ,zI,zF,zG,zH,len8,zD,zC,zt,zu]
  rw [h2]
  dsimp only [za,zb,zf,zpi,zj,zm,zq,zk,zs,zn,zK,zM,zL,pU8,zpg,zph,zi,zg,zc,zh,ze,zA,zv,zr,zo,zJ,zI,zF,zG,zH,len8,zD,zC,zt,zu]
  rw [yO]
  dsimp only [za,zb,zf,zpi,zj,zm,zq,zk,zs,zn,zK,zM,zL,pU8,zpg,zph,zi,zg,zc,zh,ze,zA,zv,zr,zo,zJ,zI,zF,zG,zH,len8,zD,zC,zt,zu]
  rw [yb (by simp; omega) (by simp; omega),w64 (x:=(i:Int) + 1) (by omega)]
  have e1:(List.range i).map (fun j => I ((W0.length + j * (a + b) + a:Nat):Int)) ++ [I ((W0 ++ els a b (ks.take i) ++ xi a ks[i].data).length:Int)] = (List.range (i + 1)).map fun j => I ((W0.length + j * (a + b) + a:Nat):Int):=by
   rw [List.range_succ,List.map_append,List.map_singleton,zpj,zpj,hel,yp]
  have e2:W0 ++ els a b (ks.take i) ++ xi a ks[i].data ++ List.replicate b 0 = W0 ++ els a b (ks.take (i + 1)):=by
   rw [vc hil]
   unfold els
   rw [List.flatMap_append,List.flatMap_singleton]
   simp only [List.append_assoc]
  have:=ih (i + 1) (by omega)
  rw [← e1,← e2] at this
  exact this
theorem zkW {W:List Int} {ks:List Nd} {n:Int} (hn:0 ≤ n ∧ n ≤ 536870911) (hk:(ks.length:Int) = n) (hs:∀ k ∈ ks,(∀ x ∈ k.data,yq x) ∧ k.data.length % 8 = 0 ∧ k.data.length ≤ 524280 ∧ k.kids.length ≤ 65535) (hl:W.length + 1 + ks.length * (yL ks + yP ks) ≤ 268435456) :
  ev 270 [.ptr 0 0,.pv (.agg [I 2,I 7,I n,.sl 1 [],.sl 5 (pvs ks)])] (wh W) =
  some (.ret (.pv (.tup [Pt1 0 7 (n * ((yL ks + yP ks:Nat):Int)),.sl 1 ((List.range ks.length).map fun j => I ((W.length + 1 + j * (yL ks + yP ks) + yL ks:Nat):Int))])),wh (W ++ (Zn n (yL ks) (yP ks) :: els (yL ks) (yP ks) ks))):=by
 have hud:yL ks ≤ 65535:=VW fun x hx => by have:=(hs x hx).2.2.1; omega
 have huq:yP ks ≤ 65535:=VX fun x hx => (hs x hx).2.2.2
 have hU:=zbr (x:=.mk 2 7 n [] ks) (by show ks.length ≤ _; omega) (fun y hy => by have:=(hs y hy).2.2.1; omega)
 have hE:=QX (off:=n) (d:=yL ks) (q:=yP ks) (by omega) hud huq
 have hu:ev 219 [.pv (.agg [I 2,I 7,I n,.sl 1 [],.sl 5 (pvs ks)])] [] = ok (.tup [I (yL ks:Nat),I (yP ks:Nat)]):=hU
 have hL:=zgS (W0:=W ++ [Zn n (yL ks) (yP ks)]) (ks:=ks) hud huq (by omega) (fun k hk => ⟨(hs k hk).1,by have:=ze1 hk; have:=(hs k hk).2.1; omega⟩) (by rw [zpj,List.length_singleton]; omega) 2 7 n [] (pvs ks) 0 0 0 0 0 0 false 0 0 0 ks.length 0 (by omega)
 unfold wh at hL ⊢
 rw [vF,hu]
 dsimp only [za,zb,zf,zpi,zj,zm,zq,zk,zs,zn,zK,zM,zL,pU8,zpg,zph,zi,zg,zc,zh,ze,zA,zv,zr,zo,zJ,zI,zF,zG,zH,len8,zD,zC,zt,zu]
 rw [hE]
 dsimp only [za,zb,zf,zpi,zj,zm,zq,zk,zs,zn,zK,zM,zL,pU8,zpg,zph,zi,zg,zc,zh,ze,zA,zv,zr,zo,zJ,zI,zF,zG,zH,len8,zD,zC,zt,zu]
 rw [ym,yb (by omega) (by omega),w9,WI]
 have hL':=hL
 rw [List.take_zero,show els (yL ks) (yP ks) [] = [] from rfl,List.append_nil] at hL'
 refine Eq.trans (show _ = _ from hL') ?_
 have e1:W ++ [Zn n (yL ks) (yP ks)] ++ els (yL ks) (yP ks) ks = W ++ (Zn n (yL ks) (yP ks) :: els (yL ks) (yP ks) ks):=by simp
 have hnu:n * ((yL ks + yP ks:Nat):Int) = ((ks.length * (yL ks + yP ks):Nat):Int):=by rw [← hk]; push_cast; rfl
 rw [e1,zpj,List.length_singleton,w64 (by rw [hnu]; omega)]
theorem zbF {D:Nat} {x:Nd} (h:Ok D x):((body D x).length:Int) = yh D x:=zdY D h.vn h.dp
theorem VH {D:Nat} {t:Nd} (h:Ok D t) (a:Nat) (W:List Int):((Yp (body D) a t W).length:Int) = W.length + yh D t:=by
 unfold Yp
 split
 ·rename_i h0
  rw [Zo h.vn h0,Int.add_zero]
 ·rw [zpj,List.length_set,← zbF h]
  push_cast
  rfl
theorem zeP {D:Nat}:∀ (l:List (Nat × Nd)) (W:List Int),(∀ p ∈ l,Ok D p.2) → ((Qs (body D) l W).length:Int) = W.length + yK (l.map fun p => yh D p.2)
 | [],W,_ => by simp [Qs,xB]
 | (a,t) :: r,W,h => by
  rw [Qs,zeP r _ (fun p hp => h p (List.mem_cons_of_mem _ hp)),VH (h (a,t) List.mem_cons_self),List.map_cons,yR]
  dsimp only
  omega
theorem zeH:∀ (q:List Nd) (i:Nat) (p:Nat × Nd),p ∈ Qc i q → p.2 ∈ q
 | [],i,p,h => by cases h
 | t :: r,i,p,h => by
  rw [Qc] at h
  rcases List.mem_cons.1 h with rfl | h
  ·exact List.mem_cons_self
  ·exact List.mem_cons_of_mem _ (zeH r _ p h)
theorem zeI (f:Nd → Int):∀ (q:List Nd) (i:Nat),yK ((Qc i q).map fun p => f p.2) = yK (q.map f)
 | [],i => rfl
 | t :: r,i => by rw [Qc,List.map_cons,List.map_cons,yR,yR,zeI f r]
theorem zcQ (L:List Int) (i:Nat) (w:Int):(ws L).set i (U w) = ws (L.set i w):=by simp [ws,List.map_set]
def Plc (D:Nat) (t:Nd):Prop:=∀ (W:List Int) (a:Nat),a < W.length → (W.length:Int) + yh D t ≤ 268435456 → ev 228 [.ptr 0 0,.pv (I (a:Int)),.pv t.x] (wh W) = some (.ret (.pv (.tup [])),wh (Yp (body D) a t W))
theorem zeF {D:Nat} {t:Nd} (h:t.kind = 0):Plc D t:=fun W a ha hl => by
 unfold wh Yp
 rw [Nd.x,yx,beq_iff_eq.2 h,if_pos h]
 rfl
section
variable {D:Nat} {q:List Nd} (hq:q.length ≤ 268435456) (hP:∀ t ∈ q,Plc D t) (hO:∀ t ∈ q,Ok D t) (xs0:List PV) (p2:PV) (i3 i4 i9 i10 i11:Int) (xs12 xs13:List PV) (p14:PV) (i15:Int) (p16 p17 p18 p19 p20 p21 p22 p23:PV) {f:Nat}
include hq hP hO
theorem zn8:∀ (c j:Nat) (W:List Int),j + c = q.length → f + q.length ≤ W.length → (W.length:Int) + yK ((q.drop j).map (yh D)) ≤ 268435456 →
  yM xs0 (I (f:Int)) p2 i3 i4 (.sl 5 (pvs q)) q.length j (ws W) i9 i10 i11 xs12 xs13 p14 i15 p16 p17 p18 p19 p20 p21 p22 p23 = zW xs0 p2 i3 (IntKind.wrap .i64 (i4 + 1)) (ws (Qs (body D) (Qc (f + j) (q.drop j)) W)) i9 i10 i11 xs12 xs13 p14 i15 p16 p17 p18 p19 p20 p21 p22 p23:=by
 intro c
 induction c with
 | zero =>
  intro j W hj hf hl
  rw [xQ,decide_eq_false (by omega),List.drop_eq_nil_of_le (by omega)]
  rfl
 | succ c ih =>
  intro j W hj hf hl
  have hjl:j < q.length:=by omega
  have ho:=hO _ (List.getElem_mem hjl)
  rw [XG hjl] at hl
  have hnn:=xn D ho.vn
  have hr:0 ≤ yK ((q.drop (j + 1)).map (yh D)):=wg fun y hy => by
   obtain ⟨t,ht,rfl⟩:=List.mem_map.1 hy
   exact xn D (hO t (List.mem_of_mem_drop ht)).vn
  have h1:=hP _ (List.getElem_mem hjl) W (f + j) (by omega) (by omega)
  have hlen:=VH ho (f + j) W
  unfold wh at h1
  dsimp only [Nd.x] at h1
  rw [xQ,decide_eq_true (show (j:Int) < (q.length:Int) by omega)]
  dsimp only [za,zb,zf,zpi,zj,zm,zq,zk,zs,zn,zK,zM,zL,pU8,zpg,zph,zi,zg,zc,zh,ze,zA,zv,zr,zo,zJ,zI,zF,zG,zH,len8,zD,zC,zt,zu]
  rw [decide_eq_true (show (5:Nat) = 5 from rfl),decide_eq_true (show 0 ≤ (j:Int) by omega),decide_eq_true (show (j:Int) < ((pvs q).length:Int) by simp; omega)]
  dsimp only [za,zb,zf,zpi,zj,zm,zq,zk,zs,zn,zK,zM,zL,pU8,zpg,zph,zi,zg,zc,zh,ze,zA,zv,zr,zo,zJ,zI,zF,zG,zH,len8,zD,zC,zt,zu]
  rw [Int.toNat_natCast,Zx hjl]
  dsimp only [za,zb,zf,zpi,zj,zm,zq,zk,zs,zn,zK,zM,zL,pU8,zpg,zph,zi,zg,zc,zh,ze,zA,zv,zr,zo,zJ,zI,zF,zG,zH,len8,zD,zC,zt,zu]
  rw [YH,ZS,show (q[j].c.drop 0).take 5 = q[j].c from rfl]
  dsimp only [Nd.c,za,zb,zf,zpi,zj,zm,zq,zk,zs,zn,zK,zM,zL,pU8,zpg,zph,zi,zg,zc,zh,ze,zA,zv,zr,zo,zJ,zI,zF,zG,zH,len8,zD,zC,zt,zu]
  rw [w64 (x:=(f:Int) + j) (by omega),show (f:Int) + j = ((f + j:Nat):Int) by push_cast; rfl,h1]
  dsimp only [za,zb,zf,zpi,zj,zm,zq,zk,zs,zn,zK,zM,zL,pU8,zpg,zph,zi,zg,zc,zh,ze,zA,zv,zr,zo,zJ,zI,zF,zG,zH,len8,zD,zC,zt,zu]
  rw [yO,w64 (x:=(j:Int) + 1) (by omega)]
  dsimp only [za,zb,zf,zpi,zj,zm,zq,zk,zs,zn,zK,zM,zL,pU8,zpg,zph,zi,zg,zc,zh,ze,zA,zv,zr,zo,zJ,zI,zF,zG,zH,len8,zD,zC,zt,zu]
  have:=ih (j + 1) (Yp (body D) (f + j) q[j] W) (by omega) (by omega) (by omega)
  rw [List.drop_eq_getElem_cons hjl,Qc,Qs]
  exact this
theorem zmy:∀ (c j:Nat) (W:List Int),j + c = q.length → f + q.length ≤ W.length → (W.length:Int) + yK ((q.drop j).map (yh D)) ≤ 268435456 →
  yH xs0 (I (f:Int)) p2 i3 i4 (.sl 5 (pvs q)) q.length j (ws W) i9 i10 i11 xs12 xs13 p14 i15 p16 p17 p18 p19 p20 p21 p22 p23 = z8 xs0 p2 i3 (IntKind.wrap .i64 (i4 + 1)) (ws (Qs (body D) (Qc (f + j) (q.drop j)) W)) i9 i10 i11 xs12 xs13 p14 i15 p16 p17 p18 p19 p20 p21 p22 p23:=by
 intro c
 induction c with
 | zero =>
  intro j W hj hf hl
  rw [xD,decide_eq_false (by omega),List.drop_eq_nil_of_le (by omega)]
  rfl
 | succ c ih =>
  intro j W hj hf hl
  have hjl:j < q.length:=by omega
  have ho:=hO _ (List.getElem_mem hjl)
  rw [XG hjl] at hl
  have hnn:=xn D ho.vn
  have hr:0 ≤ yK ((q.drop (j + 1)).map (yh D)):=wg fun y hy => by
   obtain ⟨t,ht,rfl⟩:=List.mem_map.1 hy
   exact xn D (hO t (List.mem_of_mem_drop ht)).vn
  have h1:=hP _ (List.getElem_mem hjl) W (f + j) (by omega) (by omega)
  have hlen:=VH ho (f + j) W
  unfold wh at h1
  dsimp only [Nd.x] at h1
  rw [xD,decide_eq_true (show (j:Int) < (q.length:Int) by omega)]
  dsimp only [za,zb,zf,zpi,zj,zm,zq,zk,zs,zn,zK,zM,zL,pU8,zpg,zph,zi,zg,zc,zh,ze,zA,zv,zr,zo,zJ,zI,zF,zG,zH,len8,zD,zC,zt,zu]
  rw [decide_eq_true (show (5:Nat) = 5 from rfl),decide_eq_true (show 0 ≤ (j:Int) by omega),decide_eq_true (show (j:Int) < ((pvs q).length:Int) by simp; omega)]
  dsimp only [za,zb,zf,zpi,zj,zm,zq,zk,zs,zn,zK,zM,zL,pU8,zpg,zph,zi,zg,zc,zh,ze,zA,zv,zr,zo,zJ,zI,zF,zG,zH,len8,zD,zC,zt,zu]
  rw [Int.toNat_natCast,Zx hjl]
  dsimp only [za,zb,zf,zpi,zj,zm,zq,zk,zs,zn,zK,zM,zL,pU8,zpg,zph,zi,zg,zc,zh,ze,zA,zv,zr,zo,zJ,zI,zF,zG,zH,len8,zD,zC,zt,zu]
  rw [YH,ZS,show (q[j].c.drop 0).take 5 = q[j].c from rfl]
  dsimp only [Nd.c,za,zb,zf,zpi,zj,zm,zq,zk,zs,zn,zK,zM,zL,pU8,zpg,zph,zi,zg,zc,zh,ze,zA,zv,zr,zo,zJ,zI,zF,zG,zH,len8,zD,zC,zt,zu]
  rw [w64 (x:=(f:Int) + j) (by omega),show (f:Int) + j = ((f + j:Nat):Int) by push_cast; rfl,h1]
  dsimp only [za,zb,zf,zpi,zj,zm,zq,zk,zs,zn,zK,zM,zL,pU8,zpg,zph,zi,zg,zc,zh,ze,zA,zv,zr,zo,zJ,zI,zF,zG,zH,len8,zD,zC,zt,zu]
  rw [yO,w64 (x:=(j:Int) + 1) (by omega)]
  dsimp only [za,zb,zf,zpi,zj,zm,zq,zk,zs,zn,zK,zM,zL,pU8,zpg,zph,zi,zg,zc,zh,ze,zA,zv,zr,zo,zJ,zI,zF,zG,zH,len8,zD,zC,zt,zu]
  have:=ih (j + 1) (Yp (body D) (f + j) q[j] W) (by omega) (by omega) (by omega)
  rw [List.drop_eq_getElem_cons hjl,Qc,Qs]
  exact this
end
theorem zj5 {D:Nat} {x:Nd} (hq:x.kids.length ≤ 268435456) (hP:∀ t ∈ x.kids,Plc D t) (hO:∀ t ∈ x.kids,Ok D t) (i9 i10 i11:Int) (xs12 xs13:List PV) (p14:PV) (i15:Int) (p16 p17 p18 p19 p20 p21 p22 p23:PV) {f:Nat} {W:List Int} (hf:f + x.kids.length ≤ W.length) (hl:(W.length:Int) + yK (x.kids.map (yh D)) ≤ 268435456) :
  zW [.agg [I x.kind,I x.elem,I x.n,.sl 1 (bs x.data),.sl 5 (pvs x.kids)]] (.sl 1 [I (f:Int)]) 1 0 (ws W) i9 i10 i11 xs12 xs13 p14 i15 p16 p17 p18 p19 p20 p21 p22 p23 = some (.ret (.pv (.tup [])),wh (Qs (body D) (Qc f x.kids) W)):=by
 have h:=zn8 hq hP hO [.agg [I x.kind,I x.elem,I x.n,.sl 1 (bs x.data),.sl 5 (pvs x.kids)]] (.sl 1 [I (f:Int)]) 1 0 i9 i10 i11 xs12 xs13 p14 i15 p16 p17 p18 p19 p20 p21 p22 p23 (f:=f) x.kids.length 0 W (by omega) hf (by rw [List.drop_zero]; exact hl)
 rw [yY,decide_eq_true (show (0:Int) < 1 by decide)]
 dsimp only [za,zb,zf,zpi,zj,zm,zq,zk,zs,zn,zK,zM,zL,pU8,zpg,zph,zi,zg,zc,zh,ze,zA,zv,zr,zo,zJ,zI,zF,zG,zH,len8,zD,zC,zt,zu]
 rw [decide_eq_true (show (1:Nat) = 1 from rfl),decide_eq_true (show (0:Int) ≤ 0 by decide),decide_eq_true (show (0:Int) < (([I (f:Int)]:List PV).length:Int) by simp),decide_eq_true (show (0:Int) < (([.agg [I x.kind,I x.elem,I x.n,.sl 1 (bs x.data),.sl 5 (pvs x.kids)]]:List PV).length:Int) by simp),show (0:Int).toNat = 0 from rfl]
 dsimp only [za,zb,zf,zpi,zj,zm,zq,zk,zs,zn,zK,zM,zL,pU8,zpg,zph,zi,zg,zc,zh,ze,zA,zv,zr,zo,zJ,zI,zF,zG,zH,len8,zD,zC,zt,zu]
 rw [w9]
 refine (show _ = _ from h).trans ?_
 rw [yY,show IntKind.wrap .i64 (0 + 1) = 1 from rfl,decide_eq_false (by decide),List.drop_zero,Nat.add_zero]
 rfl
theorem zkE {D:Nat} {ks:List Nd} {a b s:Nat} (hq:ks.length ≤ 536870911) (hk:∀ k ∈ ks,k.kids.length ≤ b) (hP:∀ k ∈ ks,∀ t ∈ k.kids,Plc D t) (hO:∀ k ∈ ks,∀ t ∈ k.kids,Ok D t) (i9 i10 i11:Int) (xs12 xs13:List PV) (p14:PV) (i15:Int) (p16 p17 p18 p19 p20 p21 p22 p23:PV) (hb:b ≤ 65535):∀ (c i:Nat) (W:List Int),i + c = ks.length → s + ks.length * (a + b) ≤ W.length → (W.length:Int) + yK ((ks.drop i).map fun k => yK (k.kids.map (yh D))) ≤ 268435456 →
  z8 (pvs ks) (.sl 1 ((List.range ks.length).map fun j => I ((s + j * (a + b) + a:Nat):Int))) ks.length i (ws W) i9 i10 i11 xs12 xs13 p14 i15 p16 p17 p18 p19 p20 p21 p22 p23 = some (.ret (.pv (.tup [])),wh (Qs (body D) (zjr a (a + b) (s + i * (a + b)) (ks.drop i)) W)):=by
 intro c
 induction c with
 | zero =>
  intro i W hi hs hl
  rw [xC,decide_eq_false (by omega),List.drop_eq_nil_of_le (by omega)]
  rfl
 | succ c ih =>
  intro i W hi hs hl
  have hil:i < ks.length:=by omega
  have hmem:=List.getElem_mem hil
  have hmul:i * (a + b) + (a + b) ≤ ks.length * (a + b):=by
   have:=Nat.mul_le_mul_right (a + b) (show i + 1 ≤ ks.length by omega)
   rw [Nat.add_mul,Nat.one_mul] at this
   exact this
  have nn:∀ k ∈ ks,0 ≤ yK (k.kids.map (yh D)):=fun k hk => wg fun y hy => by
   obtain ⟨t,ht,rfl⟩:=List.mem_map.1 hy
   exact xn D (hO k hk t ht).vn
  rw [XG hil] at hl
  have hr:0 ≤ yK ((ks.drop (i + 1)).map fun k => yK (k.kids.map (yh D))):=wg fun y hy => by
   obtain ⟨t,ht,rfl⟩:=List.mem_map.1 hy
   exact nn t (List.mem_of_mem_drop ht)
  have hkb:=hk _ hmem
  have h:=zmy (q:=ks[i].kids) (by omega) (hP _ hmem) (hO _ hmem) (pvs ks) (.sl 1 ((List.range ks.length).map fun j => I ((s + j * (a + b) + a:Nat):Int))) ks.length i i9 i10 i11 xs12 xs13 p14 i15 p16 p17 p18 p19 p20 p21 p22 p23 (f:=s + i * (a + b) + a) ks[i].kids.length 0 W (by omega) (by omega) (by rw [List.drop_zero]; omega)
  rw [xC,decide_eq_true (show (i:Int) < (ks.length:Int) by omega)]
  dsimp only [za,zb,zf,zpi,zj,zm,zq,zk,zs,zn,zK,zM,zL,pU8,zpg,zph,zi,zg,zc,zh,ze,zA,zv,zr,zo,zJ,zI,zF,zG,zH,len8,zD,zC,zt,zu]
  rw [decide_eq_true (show (1:Nat) = 1 from rfl),decide_eq_true (show (0:Int) ≤ i by omega),decide_eq_true (show (i:Int) < (((List.range ks.length).map fun j => I ((s + j * (a + b) + a:Nat):Int)).length:Int) by simp; omega),decide_eq_true (show (i:Int) < ((pvs ks).length:Int) by simp; omega),Int.toNat_natCast,List.getElem?_map,List.getElem?_range hil,Zx hil]
  dsimp only [Option.map_some,za,zb,zf,zpi,zj,zm,zq,zk,zs,zn,zK,zM,zL,pU8,zpg,zph,zi,zg,zc,zh,ze,zA,zv,zr,zo,zJ,zI,zF,zG,zH,len8,zD,zC,zt,zu]
  rw [ZS]
  dsimp only [Nd.c,za,zb,zf,zpi,zj,zm,zq,zk,zs,zn,zK,zM,zL,pU8,zpg,zph,zi,zg,zc,zh,ze,zA,zv,zr,zo,zJ,zI,zF,zG,zH,len8,zD,zC,zt,zu]
  rw [w9]
  refine (show _ = _ from h).trans ?_
  rw [w64 (x:=(i:Int) + 1) (by omega),List.drop_zero,Nat.add_zero]
  have hsum:=zeI (yh D) ks[i].kids (s + i * (a + b) + a)
  have hlen:=zeP (Qc (s + i * (a + b) + a) ks[i].kids) W (fun p hp => hO _ hmem p.2 (zeH _ _ p hp))
  rw [hsum] at hlen
  have h0:=nn _ hmem
  have:=ih (i + 1) (Qs (body D) (Qc (s + i * (a + b) + a) ks[i].kids) W) (by omega) (by omega) (by omega)
  rw [show s + (i + 1) * (a + b) = s + i * (a + b) + (a + b) by rw [Nat.add_mul,Nat.one_mul]; omega] at this
  refine (show _ = _ from this).trans ?_
  rw [List.drop_eq_getElem_cons hil,zjr,za2]
theorem zpb (o d q:Int):yZ [false,false,false,false,false,false,true,false,false,false] [I 0,I o,I d,I q,I 0,I 0,Bo false,I 0,U32 0,U32 0] [I 0,I o,I 0,I 0,I 0,I 0,Bo false,I 0,U32 0,U32 0] = some ((d == 0) && (q == 0)):=by
 simp [yZ]
theorem zok (o e c:Int):yZ [false,false,false,false,false,false,true,false,false,false] [I 1,I o,I 0,I 0,I e,I c,Bo false,I 0,U32 0,U32 0] [I 0,I o,I 0,I 0,I 0,I 0,Bo false,I 0,U32 0,U32 0] = some false:=by
 simp [yZ]
theorem znw {L:List Int} {a:Nat} (ha:a < L.length) (w:Int):∃ y,(ws L)[a]? = some (U y):=⟨L[a],Y2 ha⟩
theorem zfL {D:Nat} {x:Nd} (h:Ok (D + 1) x) (h0:x.kind ≠ 0):0 ≤ yK ((tgt x).map (yh D)):=wg fun y hy => by
 obtain ⟨t,ht,rfl⟩:=List.mem_map.1 hy
 exact xn D (zez h h0 t ht).vn
theorem zeE:∀ (D:Nat) (x:Nd),Ok D x → Plc D x
 | 0,x,h => zeF h.dp
 | D + 1,x,h => by
  by_cases h0:x.kind = 0
  ·exact zeF h0
  ·intro W a ha hl
   have hT:=zez h h0
   have hP:∀ t ∈ tgt x,Plc D t:=fun t ht => zeE D t (hT t ht)
   have hsn:=zfL h h0
   have hon:=XI h.vn
   rw [yh] at hl
   rw [zdr h.vn h0 ha]
   have hsl:=zl2 (B:=body D) h.vn h0
   have hol:=zhs (body D) h.vn h0
   have hWl:(W ++ shW x).length = W.length + (obW (body D) x).length:=by rw [zpj,hsl]
   obtain ⟨hs,hkk⟩:=ZY h.vn
   have hal:a < (W ++ shW x).length:=by omega
   obtain ⟨y0,hy0⟩:=znw hal 0
   rcases hs with hs | hs | hs
   ·exact absurd hs.1 h0
   ·obtain ⟨d,ks,rfl,g1,g2,g3,g4,g5,g6⟩:=YN h.vn h.tr h.gd hs.1
    have et:tgt (.mk 1 0 0 d ks) = ks:=rfl
    rw [et] at hT hP hl hsn
    have ew:shW (.mk 1 0 0 d ks) = xi (d.length / 8) d ++ List.replicate ks.length 0:=rfl
    have ep:prs (.mk 1 0 0 d ks) W.length = Qc (W.length + d.length / 8) ks:=rfl
    have eo:xS (.mk 1 0 0 d ks) = ((d.length / 8 + ks.length:Nat):Int):=rfl
    rw [ew] at hal hWl hy0 ⊢
    rw [eo] at hol hl
    rw [ep]
    have hst:=zgl (W:=W) g3 g4 g5 g6 (by omega) 0 0 (ks:=ks)
    have hloop:∀ (w:Int) (p14:PV) (i15:Int) (p16 p17 p18 p19 p20 p21 p22 p23:PV),zW [.agg [I 1,I 0,I 0,.sl 1 (bs d),.sl 5 (pvs ks)]] (.sl 1 [I ((W.length + d.length / 8:Nat):Int)]) 1 0 (ws ((W ++ (xi (d.length / 8) d ++ List.replicate ks.length 0)).set a w)) 1 0 0 (bs d) (pvs ks) p14 i15 p16 p17 p18 p19 p20 p21 p22 p23 = some (.ret (.pv (.tup [])),wh (Qs (body D) (Qc (W.length + d.length / 8) ks) ((W ++ (xi (d.length / 8) d ++ List.replicate ks.length 0)).set a w))):=fun w p14 i15 p16 p17 p18 p19 p20 p21 p22 p23 =>
     zj5 (x:=.mk 1 0 0 d ks) (by show ks.length ≤ _; omega) hP hT 1 0 0 (bs d) (pvs ks) p14 i15 p16 p17 p18 p19 p20 p21 p22 p23 (by rw [List.length_set,hWl]; show _ + ks.length ≤ _; omega) (by rw [List.length_set,hWl]; show _ + yK (ks.map (yh D)) ≤ _; push_cast; omega)
    unfold wh at hst hloop ⊢
    show ev 228 [.ptr 0 0,.pv (I (a:Int)),.pv (.agg [I 1,I 0,I 0,.sl 1 (bs d),.sl 5 (pvs ks)])] _ = _
    rw [yx,show ((1:Int) == 0) = false from rfl,show ((1:Int) == 1) = true from rfl,hst]
    dsimp only [Pt0,za,zb,zf,zpi,zj,zm,zq,zk,zs,zn,zK,zM,zL,pU8,zpg,zph,zi,zg,zc,zh,ze,zA,zv,zr,zo,zJ,zI,zF,zG,zH,len8,zD,zC,zt,zu]
    rw [yO,ym,w64 (x:=(W.length:Int) - a) (by omega),w64 (x:=(W.length:Int) - a - 1) (by omega),zpb]
    dsimp only [za,zb,zf,zpi,zj,zm,zq,zk,zs,zn,zK,zM,zL,pU8,zpg,zph,zi,zg,zc,zh,ze,zA,zv,zr,zo,zJ,zI,zF,zG,zH,len8,zD,zC,zt,zu]
    by_cases hz:d.length / 8 = 0 ∧ ks.length = 0
    ·have hE:=QX (off:=-1) (d:=d.length / 8) (q:=ks.length) (by decide) (by omega) g6
     have e1:W9 (.mk 1 0 0 d ks) ((W.length:Int) - a - 1) = Zn (-1) (d.length / 8) ks.length:=by
      show (if (1:Int) = 0 then 0 else if (1:Int) = 1 then (if d.length / 8 = 0 ∧ ks.length = 0 then Zn (-1) 0 0 else _) else _) = _
      rw [if_neg (by decide),if_pos rfl,if_pos hz,hz.1,hz.2]
     rw [e1,show (((d.length / 8:Nat):Int) == 0) = true from by simp [hz.1],show ((ks.length:Int) == 0) = true from by simp [hz.2]]
     dsimp only [za,zb,zf,zpi,zj,zm,zq,zk,zs,zn,zK,zM,zL,pU8,zpg,zph,zi,zg,zc,zh,ze,zA,zv,zr,zo,zJ,zI,zF,zG,zH,len8,zD,zC,zt,zu]
     rw [hE]
     dsimp only [za,zb,zf,zpi,zj,zm,zq,zk,zs,zn,zK,zM,zL,pU8,zpg,zph,zi,zg,zc,zh,ze,zA,zv,zr,zo,zJ,zI,zF,zG,zH,len8,zD,zC,zt,zu]
     rw [decide_eq_true (show 0 ≤ (a:Int) by omega),decide_eq_true (show (a:Int) < ((ws (W ++ (xi (d.length / 8) d ++ List.replicate ks.length 0))).length:Int) by rw [ym]; omega),Int.toNat_natCast,hy0]
     dsimp only [setCells,zpk,List.length_nil,za,zb,zf,zpi,zj,zm,zq,zk,zs,zn,zK,zM,zL,pU8,zpg,zph,zi,zg,zc,zh,ze,zA,zv,zr,zo,zJ,zI,zF,zG,zH,len8,zD,zC,zt,zu]
     rw [zcQ]
     exact hloop _ _ _ _ _ _ _ _ _ _ _
    ·have hE:=QX (off:=(W.length:Int) - a - 1) (d:=d.length / 8) (q:=ks.length) (by omega) (by omega) g6
     have e1:W9 (.mk 1 0 0 d ks) ((W.length:Int) - a - 1) = Zn ((W.length:Int) - a - 1) (d.length / 8) ks.length:=by
      show (if (1:Int) = 0 then 0 else if (1:Int) = 1 then (if d.length / 8 = 0 ∧ ks.length = 0 then _ else Zn ((W.length:Int) - a - 1) (d.length / 8) ks.length) else _) = _
      rw [if_neg (by decide),if_pos rfl,if_neg hz]
     have e2:((((d.length / 8:Nat):Int) == 0) && ((ks.length:Int) == 0)) = false:=by
      rw [Bool.and_eq_false_iff]
      by_cases h1:d.length / 8 = 0
      ·right; exact beq_eq_false_iff_ne.2 (fun h2 => hz ⟨h1,by omega⟩)
      ·left; exact beq_eq_false_iff_ne.2 (fun h2 => h1 (by omega))
     rw [e1,e2]
     dsimp only [za,zb,zf,zpi,zj,zm,zq,zk,zs,zn,zK,zM,zL,pU8,zpg,zph,zi,zg,zc,zh,ze,zA,zv,zr,zo,zJ,zI,zF,zG,zH,len8,zD,zC,zt,zu]
     rw [hE]
     dsimp only [za,zb,zf,zpi,zj,zm,zq,zk,zs,zn,zK,zM,zL,pU8,zpg,zph,zi,zg,zc,zh,ze,zA,zv,zr,zo,zJ,zI,zF,zG,zH,len8,zD,zC,zt,zu]
     rw [decide_eq_true (show 0 ≤ (a:Int) by omega),decide_eq_true (show (a:Int) < ((ws (W ++ (xi (d.length / 8) d ++ List.replicate ks.length 0))).length:Int) by rw [ym]; omega),Int.toNat_natCast,hy0]
     dsimp only [setCells,zpk,List.length_nil,za,zb,zf,zpi,zj,zm,zq,zk,zs,zn,zK,zM,zL,pU8,zpg,zph,zi,zg,zc,zh,ze,zA,zv,zr,zo,zJ,zI,zF,zG,zH,len8,zD,zC,zt,zu]
     rw [zcQ]
     exact hloop _ _ _ _ _ _ _ _ _ _ _
   ·cases x with
    | mk k e n d ks =>
     obtain ⟨k2,hn,he,h6,hl6⟩:=hs
     have k2':k = 2:=k2
     subst k2'
     have hn':0 ≤ n ∧ n ≤ 536870911:=hn
     have he':0 ≤ e ∧ e ≤ 7:=he
     have hg:=h.gd
     rw [Z5] at hg
     by_cases e7:e = 7
     ·subst e7
      obtain ⟨a1,a2⟩:=h6 (show (6:Int) ≤ 7 by decide)
      obtain rfl:d = []:=List.length_eq_zero_iff.1 a1
      have a2':(ks.length:Int) = n:=a2
      have hst:∀ k ∈ ks,k.kind = 1:=by
       cases h.vn with
       | mk v1 v2 v3 => exact v2 rfl rfl
      have htr:∀ k ∈ ks,TrN k:=by
       cases h.tr with
       | mk t1 t2 => exact t2
      have hparts:∀ k ∈ ks,(∀ x ∈ k.data,yq x) ∧ k.data.length % 8 = 0 ∧ k.data.length ≤ 524280 ∧ k.kids.length ≤ 65535:=fun k hk => by
       obtain ⟨d,q,rfl,g1,g2,g3,g4,g5,g6⟩:=YN (hkk k hk) (htr k hk) (goods_iff.1 hg.2 k hk) (hst k hk)
       exact ⟨g3,g4,g5,g6⟩
      have et:tgt (.mk 2 7 n [] ks) = ks.flatMap Nd.kids:=rfl
      rw [et] at hT hP hl hsn
      rw [Xv] at hl hsn
      have ew:shW (.mk 2 7 n [] ks) = Zn n (yL ks) (yP ks) :: els (yL ks) (yP ks) ks:=rfl
      have ep:prs (.mk 2 7 n [] ks) W.length = zjr (yL ks) (yL ks + yP ks) (W.length + 1) ks:=rfl
      have eo:xS (.mk 2 7 n [] ks) = 1 + n * ((yL ks + yP ks:Nat):Int):=rfl
      have hnu:n * ((yL ks + yP ks:Nat):Int) = ((ks.length * (yL ks + yP ks):Nat):Int):=by rw [← a2']; push_cast; rfl
      rw [eo,hnu] at hol hl
      rw [ew] at hal hWl hy0 ⊢
      rw [ep]
      have hud:yL ks ≤ 65535:=VW fun x hx => by have:=(hparts x hx).2.2.1; omega
      have huq:yP ks ≤ 65535:=VX fun x hx => (hparts x hx).2.2.2
      have hkl2:ks.length ≤ 536870911:=by omega
      have hst':=zkW (W:=W) (n:=n) (ks:=ks) hn' a2' hparts (by omega)
      have hE:=zbp (off:=(W.length:Int) - a - 1) (e:=7) (c:=((ks.length * (yL ks + yP ks):Nat):Int)) (by omega) (by decide) (by omega)
      have e1:W9 (.mk 2 7 n [] ks) ((W.length:Int) - a - 1) = XS ((W.length:Int) - a - 1) 7 ((ks.length * (yL ks + yP ks):Nat):Int):=by rw [← hnu]; rfl
      have hloop:∀ (w:Int) (p14:PV) (i15:Int) (p16 p17 p18 p19 p20 p21 p22 p23:PV),z8 (pvs ks) (.sl 1 ((List.range ks.length).map fun j => I ((W.length + 1 + j * (yL ks + yP ks) + yL ks:Nat):Int))) ks.length 0 (ws ((W ++ (Zn n (yL ks) (yP ks) :: els (yL ks) (yP ks) ks)).set a w)) 2 7 n [] (pvs ks) p14 i15 p16 p17 p18 p19 p20 p21 p22 p23 = some (.ret (.pv (.tup [])),wh (Qs (body D) (zjr (yL ks) (yL ks + yP ks) (W.length + 1) ks) ((W ++ (Zn n (yL ks) (yP ks) :: els (yL ks) (yP ks) ks)).set a w))):=fun w p14 i15 p16 p17 p18 p19 p20 p21 p22 p23 => by
       have:=zkE (D:=D) (ks:=ks) (a:=yL ks) (b:=yP ks) (s:=W.length + 1) hkl2 (fun k hk => XP hk) (fun k hk t ht => hP t (List.mem_flatMap.2 ⟨k,hk,ht⟩)) (fun k hk t ht => hT t (List.mem_flatMap.2 ⟨k,hk,ht⟩)) 2 7 n [] (pvs ks) p14 i15 p16 p17 p18 p19 p20 p21 p22 p23 huq ks.length 0 ((W ++ (Zn n (yL ks) (yP ks) :: els (yL ks) (yP ks) ks)).set a w) (by omega) (by rw [List.length_set,hWl]; omega) (by rw [List.length_set,hWl,List.drop_zero]; push_cast; omega)
       rw [List.drop_zero,Nat.zero_mul,Nat.add_zero] at this
       exact this
      unfold wh at hst' hloop ⊢
      show ev 228 [.ptr 0 0,.pv (I (a:Int)),.pv (.agg [I 2,I 7,I n,.sl 1 [],.sl 5 (pvs ks)])] _ = _
      rw [yx,show ((2:Int) == 0) = false from rfl,show ((2:Int) == 1) = false from rfl,show ((7:Int) == 7) = true from rfl,hst']
      dsimp only [Pt1,za,zb,zf,zpi,zj,zm,zq,zk,zs,zn,zK,zM,zL,pU8,zpg,zph,zi,zg,zc,zh,ze,zA,zv,zr,zo,zJ,zI,zF,zG,zH,len8,zD,zC,zt,zu]
      rw [yO,ym,w64 (x:=(W.length:Int) - a) (by omega),w64 (x:=(W.length:Int) - a - 1) (by omega),zok]
      dsimp only [za,zb,zf,zpi,zj,zm,zq,zk,zs,zn,zK,zM,zL,pU8,zpg,zph,zi,zg,zc,zh,ze,zA,zv,zr,zo,zJ,zI,zF,zG,zH,len8,zD,zC,zt,zu]
      rw [e1,hnu,hE]
      dsimp only [za,zb,zf,zpi,zj,zm,zq,zk,zs,zn,zK,zM,zL,pU8,zpg,zph,zi,zg,zc,zh,ze,zA,zv,zr,zo,zJ,zI,zF,zG,zH,len8,zD,zC,zt,zu]
      rw [decide_eq_true (show 0 ≤ (a:Int) by omega),decide_eq_true (show (a:Int) < ((ws (W ++ (Zn n (yL ks) (yP ks) :: els (yL ks) (yP ks) ks))).length:Int) by rw [ym]; omega),Int.toNat_natCast,hy0]
      dsimp only [setCells,zpk,List.length_nil,za,zb,zf,zpi,zj,zm,zq,zk,zs,zn,zK,zM,zL,pU8,zpg,zph,zi,zg,zc,zh,ze,zA,zv,zr,zo,zJ,zI,zF,zG,zH,len8,zD,zC,zt,zu]
      rw [zcQ,List.length_map,List.length_range]
      exact hloop _ _ _ _ _ _ _ _ _ _ _
     ·have et:tgt (.mk 2 e n d ks) = ks:=by
       show (if (2:Int) = 2 ∧ e = 7 then _ else ks) = _
       rw [if_neg (fun h => e7 h.2)]
      have eo:xS (.mk 2 e n d ks) = z4 e n:=by
       unfold xS
       show (if (2:Int) = 0 then 0 else if (2:Int) = 1 then _ else if e = 7 then _ else z4 e n) = _
       rw [if_neg (by decide),if_neg (by decide),if_neg e7]
      rw [et] at hT hP hl hsn
      have ep:prs (.mk 2 e n d ks) W.length = Qc W.length ks:=by
       show (if (2:Int) = 1 then _ else if e = 7 then _ else Qc W.length ks) = _
       rw [if_neg (by decide),if_neg e7]
      have e1:W9 (.mk 2 e n d ks) ((W.length:Int) - a - 1) = XS ((W.length:Int) - a - 1) e n:=by
       show (if (2:Int) = 0 then 0 else if (2:Int) = 1 then _ else if e = 7 then _ else XS ((W.length:Int) - a - 1) e n) = _
       rw [if_neg (by decide),if_neg (by decide),if_neg e7]
      have hE:=zbp (off:=(W.length:Int) - a - 1) (e:=e) (c:=n) (by omega) he' hn'
      rw [ep,e1]
      rw [eo] at hol hl
      by_cases e6:e = 6
      ·subst e6
       obtain ⟨a1,a2⟩:=h6 (show (6:Int) ≤ 6 by decide)
       obtain rfl:d = []:=List.length_eq_zero_iff.1 a1
       have a2':(ks.length:Int) = n:=a2
       have hw6:z4 6 n = n:=by unfold z4 bitsOf; simp; omega
       rw [hw6] at hol hl
       have ew:shW (.mk 2 6 n [] ks) = List.replicate ks.length 0:=rfl
       rw [ew] at hal hWl hy0 ⊢
       have hst':=ziB (W:=W) (ks:=ks) (n:=ks.length) (by omega) (by omega) (bs [])
       rw [a2'] at hst'
       have hloop:∀ (w:Int) (p14:PV) (i15:Int) (p16 p17 p18 p19 p20 p21 p22 p23:PV),zW [.agg [I 2,I 6,I n,.sl 1 (bs []),.sl 5 (pvs ks)]] (.sl 1 [I (W.length:Int)]) 1 0 (ws ((W ++ List.replicate ks.length 0).set a w)) 2 6 n (bs []) (pvs ks) p14 i15 p16 p17 p18 p19 p20 p21 p22 p23 = some (.ret (.pv (.tup [])),wh (Qs (body D) (Qc W.length ks) ((W ++ List.replicate ks.length 0).set a w))):=fun w p14 i15 p16 p17 p18 p19 p20 p21 p22 p23 =>
        zj5 (x:=.mk 2 6 n [] ks) (by show ks.length ≤ _; omega) hP hT 2 6 n (bs []) (pvs ks) p14 i15 p16 p17 p18 p19 p20 p21 p22 p23 (by rw [List.length_set,hWl]; show _ + ks.length ≤ _; omega) (by rw [List.length_set,hWl]; show _ + yK (ks.map (yh D)) ≤ _; push_cast; omega)
       unfold wh at hst' hloop ⊢
       show ev 228 [.ptr 0 0,.pv (I (a:Int)),.pv (.agg [I 2,I 6,I n,.sl 1 (bs []),.sl 5 (pvs ks)])] _ = _
       rw [yx,show ((2:Int) == 0) = false from rfl,show ((2:Int) == 1) = false from rfl,show ((6:Int) == 7) = false from rfl,hst']
       dsimp only [Pt1,za,zb,zf,zpi,zj,zm,zq,zk,zs,zn,zK,zM,zL,pU8,zpg,zph,zi,zg,zc,zh,ze,zA,zv,zr,zo,zJ,zI,zF,zG,zH,len8,zD,zC,zt,zu]
       rw [yO,ym,w64 (x:=(W.length:Int) - a) (by omega),w64 (x:=(W.length:Int) - a - 1) (by omega),zok]
       dsimp only [za,zb,zf,zpi,zj,zm,zq,zk,zs,zn,zK,zM,zL,pU8,zpg,zph,zi,zg,zc,zh,ze,zA,zv,zr,zo,zJ,zI,zF,zG,zH,len8,zD,zC,zt,zu]
       rw [hE]
       dsimp only [za,zb,zf,zpi,zj,zm,zq,zk,zs,zn,zK,zM,zL,pU8,zpg,zph,zi,zg,zc,zh,ze,zA,zv,zr,zo,zJ,zI,zF,zG,zH,len8,zD,zC,zt,zu]
       rw [decide_eq_true (show 0 ≤ (a:Int) by omega),decide_eq_true (show (a:Int) < ((ws (W ++ List.replicate ks.length 0)).length:Int) by rw [ym]; omega),Int.toNat_natCast,hy0]
       dsimp only [setCells,zpk,List.length_nil,za,zb,zf,zpi,zj,zm,zq,zk,zs,zn,zK,zM,zL,pU8,zpg,zph,zi,zg,zc,zh,ze,zA,zv,zr,zo,zJ,zI,zF,zG,zH,len8,zD,zC,zt,zu]
       rw [zcQ]
       exact hloop _ _ _ _ _ _ _ _ _ _ _
      ·obtain ⟨b1,b2,b3⟩:=hl6 (show e < 6 by omega)
       obtain rfl:ks = []:=List.length_eq_zero_iff.1 b1
       have b2':(d.length:Int) = yg e n:=b2
       have hwr:=xO (e:=e) hn'
       have ew:shW (.mk 2 e n d []) = xi (z4 e n).toNat d:=by
        show (if (2:Int) = 1 then _ else if e = 7 then _ else if e = 6 then _ else xi (z4 e n).toNat d) = _
        rw [if_neg (by decide),if_neg e7,if_neg e6]
       rw [ew] at hal hWl hy0 ⊢
       have hO:=JL h.gd h.vn (by rw [eo]; omega) (by show 0 + 0 ≤ _; decide)
       rw [eo] at hO
       have hst':=zkX (W:=W) (ks:=[]) ⟨he'.1,by omega⟩ hn' hg.1.2.1 b2' (by simp only [List.map_nil,xB] at hl; omega) (by omega) hO
       unfold wh at hst' ⊢
       show ev 228 [.ptr 0 0,.pv (I (a:Int)),.pv (.agg [I 2,I e,I n,.sl 1 (bs d),.sl 5 (pvs [])])] _ = _
       rw [yx,show ((2:Int) == 0) = false from rfl,show ((2:Int) == 1) = false from rfl,beq_eq_false_iff_ne.2 e7,hst']
       dsimp only [Pt1,za,zb,zf,zpi,zj,zm,zq,zk,zs,zn,zK,zM,zL,pU8,zpg,zph,zi,zg,zc,zh,ze,zA,zv,zr,zo,zJ,zI,zF,zG,zH,len8,zD,zC,zt,zu]
       rw [yO,ym,w64 (x:=(W.length:Int) - a) (by omega),w64 (x:=(W.length:Int) - a - 1) (by omega),zok]
       dsimp only [za,zb,zf,zpi,zj,zm,zq,zk,zs,zn,zK,zM,zL,pU8,zpg,zph,zi,zg,zc,zh,ze,zA,zv,zr,zo,zJ,zI,zF,zG,zH,len8,zD,zC,zt,zu]
       rw [hE]
       dsimp only [za,zb,zf,zpi,zj,zm,zq,zk,zs,zn,zK,zM,zL,pU8,zpg,zph,zi,zg,zc,zh,ze,zA,zv,zr,zo,zJ,zI,zF,zG,zH,len8,zD,zC,zt,zu]
       rw [decide_eq_true (show 0 ≤ (a:Int) by omega),decide_eq_true (show (a:Int) < ((ws (W ++ xi (z4 e n).toNat d)).length:Int) by rw [ym]; omega),Int.toNat_natCast,hy0]
       dsimp only [setCells,zpk,List.length_nil,za,zb,zf,zpi,zj,zm,zq,zk,zs,zn,zK,zM,zL,pU8,zpg,zph,zi,zg,zc,zh,ze,zA,zv,zr,zo,zJ,zI,zF,zG,zH,len8,zD,zC,zt,zu]
       rw [zcQ,yY,decide_eq_false (by decide)]
       rfl
theorem zmb (D:Nat) (x:Nd):Yp (body D) 0 x [0] = QG D x:=by
 unfold Yp QG
 by_cases h0:x.kind = 0
 ·rw [if_pos h0,zco h0,zbG D x h0]
 ·rw [if_neg h0]
  rfl
theorem zf8 {D:Nat} {x:Nd} (h:Ok D x) (hb:yh D x ≤ 134217728):ev 165 [.pv x.x] [] = some (.ret (.slu 30 1 (ws (QG D x))),[]):=by
 have h1:=zf5 h.gd h.vn h.dp (by omega)
 have hn:=xn D h.vn
 have h2:=zeE D x h [0] 0 (by decide) (by simp; omega)
 rw [zmb] at h2
 unfold wh at h2
 dsimp only [Nd.x] at h1 h2
 rw [Nd.x,Wo,h1]
 dsimp only [za,zb,zf,zpi,zj,zm,zq,zk,zs,zn,zK,zM,zL,pU8,zpg,zph,zi,zg,zc,zh,ze,zA,zv,zr,zo,zJ,zI,zF,zG,zH,len8,zD,zC,zt,zu]
 rw [decide_eq_true (show 1 ≤ yh D x + 1 by omega),decide_eq_true (show yh D x + 1 ≤ 140737488355328 by omega),yb (by omega) (by omega)]
 dsimp only [za,zb,zf,zpi,zj,zm,zq,zk,zs,zn,zK,zM,zL,pU8,zpg,zph,zi,zg,zc,zh,ze,zA,zv,zr,zo,zJ,zI,zF,zG,zH,len8,zD,zC,zt,zu]
 rw [show ev 228 [.ptr 0 0,.pv (I 0),.pv (.agg [I x.kind,I x.elem,I x.n,.sl 1 (bs x.data),.sl 5 (pvs x.kids)])] [[.slu 30 1 [U 0]]] = _ from h2]
 dsimp only [za,zb,zf,zpi,zj,zm,zq,zk,zs,zn,zK,zM,zL,pU8,zpg,zph,zi,zg,zc,zh,ze,zA,zv,zr,zo,zJ,zI,zF,zG,zH,len8,zD,zC,zt,zu]
 rw [yO]
 rfl
@[simp] theorem zjs:∀ (q:List Nd) (i:Nat),(Qc i q).length = q.length
 | [],i => rfl
 | t :: r,i => by rw [Qc,zpk,zpk,zjs r]
section
variable (i3 i4 i5:Int) (xs6 xs7:List PV) (i8 i9 i10 i11 i12 i13:Int) (b14:Bool) (i15 i16 i17 i18 i19 i20 i22 i23:Int) (b24:Bool) (i25 i26 i27:Int)
end
section
variable (i5 i6 i7:Int) (xs8:List PV) (i10 i11 i12 i13 i14 i15:Int) (b16:Bool) (i17 i18 i19 i20 i21 i22 i23 i24 i25:Int) (b26:Bool) (i27 i28 i29:Int)
end
theorem zkm {l:List (List Int)} (hl:xZ l) (hs:Sm l) {d w:Int} (hw:w ≤ 4611686018427387904) (h0:(runT l d w).2.2 = 0):Ok d.toNat (Qb l d w) ∧ vI d.toNat (Qb l d w) ≤ zhm l d w:=by
 obtain ⟨a1,a2⟩:=zjG hl hs h0
 have hg:=(za3 hl hs (d:=d) (w:=w) hw).2
 unfold Qb zhm
 rw [if_pos h0,if_pos h0]
 refine ⟨⟨Jh _ a1,zl8 _ hg,zhe _ hg,zli _ _ a2⟩,?_⟩
 unfold runT at h0 ⊢
 split
 ·rw [zai]
  cases d.toNat with
  | zero => show (0:Int) ≤ max w 0 - max w 0; omega
  | succ D =>
   rw [vI]
   show (if (0:Int) = 0 then (0:Int) else _) ≤ max w 0 - max w 0
   rw [if_pos rfl]
   omega
 ·rename_i he
  rw [if_neg he] at h0
  exact (zlg hl hs _ _ _ _ h0).1
def nE:Nd:=.mk 1 0 0 [] []
theorem Kr {off:Int} {d q:Nat} (hd:d ≤ 65535) (hq:q ≤ 65535):xI (Zn off d q):=by
 have hm:=Int.emod_nonneg off (show (1073741824:Int) ≠ 0 by decide)
 have hl:=Int.emod_lt_of_pos off (show (0:Int) < 1073741824 by decide)
 exact ⟨by unfold Zn; omega,by unfold Zn; omega⟩
theorem zbR {off e c:Int} (he:0 ≤ e ∧ e ≤ 7) (hc:0 ≤ c ∧ c ≤ 536870911):xI (XS off e c):=by
 have hm:=Int.emod_nonneg off (show (1073741824:Int) ≠ 0 by decide)
 have hl:=Int.emod_lt_of_pos off (show (0:Int) < 1073741824 by decide)
 exact ⟨by unfold XS; omega,by unfold XS; omega⟩
theorem znO:xI 0:=⟨by decide,by decide⟩
theorem zhp {D:Nat} {x:Nd} (hv:VN x):xS x ≤ yh D x:=by
 cases D with
 | zero => exact Int.le_refl _
 | succ D =>
  rw [yh]
  have:0 ≤ yK ((tgt x).map (yh D)):=wg fun y hy => by
   obtain ⟨t,ht,rfl⟩:=List.mem_map.1 hy
   exact xn D (Wg hv t ht)
  omega
theorem zeJ {D:Nat} {t:Nd} (h:Ok D t) (hb:yh D t ≤ 268435456) (off:Int):xI (W9 t off):=by
 obtain ⟨hs,hk⟩:=ZY h.vn
 have hob:=zhp (D:=D) h.vn
 unfold W9
 by_cases h0:t.kind = 0
 ·rw [if_pos h0]; exact znO
 ·rw [if_neg h0]
  by_cases h1:t.kind = 1
  ·obtain ⟨d,q,rfl,g1,g2,g3,g4,g5,g6⟩:=YN h.vn h.tr h.gd h1
   rw [if_pos h1]
   split
   ·exact Kr (by omega) (by omega)
   ·exact Kr (by show d.length / 8 ≤ _; omega) g6
  ·rw [if_neg h1]
   have hs2:t.kind = 2 ∧ _:=(hs.resolve_left (fun h => h0 h.1)).resolve_left (fun h => h1 h.1)
   by_cases h7:t.elem = 7
   ·rw [if_pos h7]
    unfold xS at hob
    rw [if_neg h0,if_neg h1,if_pos h7] at hob
    have:=Int.mul_nonneg hs2.2.1.1 (Int.natCast_nonneg (uni t))
    unfold uni at this ⊢
    exact zbR (by decide) (by omega)
   ·rw [if_neg h7]
    exact zbR hs2.2.2.1 hs2.2.1
theorem Va {B:Nd → List Int}:∀ (l:List Nd) (i p:Nat),(∀ t ∈ l,∀ off,xI (W9 t off)) → ∀ w ∈ Qq B i p l,xI w
 | [],i,p,h,w,hw => by cases hw
 | t :: r,i,p,h,w,hw => by
  rw [Qq] at hw
  rcases List.mem_cons.1 hw with rfl | hw
  ·exact h t List.mem_cons_self _
  ·exact Va r _ _ (fun t ht => h t (List.mem_cons_of_mem _ ht)) w hw
theorem zbz {B:Nd → List Int} {a b:Nat}:∀ (l:List Nd) (i p:Nat),(∀ k ∈ l,(∀ x ∈ k.data,yq x) ∧ ∀ t ∈ k.kids,∀ off,xI (W9 t off)) → ∀ w ∈ zav B a b i p l,xI w
 | [],i,p,h,w,hw => by cases hw
 | k :: r,i,p,h,w,hw => by
  rw [zav] at hw
  obtain ⟨h1,h2⟩:=h k List.mem_cons_self
  rcases List.mem_append.1 hw with hw | hw
  ·rcases List.mem_append.1 hw with hw | hw
   ·exact vj _ h1 w hw
   ·rcases List.mem_append.1 hw with hw | hw
    ·exact Va _ _ _ h2 w hw
    ·rw [(List.mem_replicate.1 hw).2]; exact znO
  ·exact zbz r _ _ (fun t ht => h t (List.mem_cons_of_mem _ ht)) w hw
theorem zeW {f:Nd → Int}:∀ {l:List Nd},(∀ t ∈ l,0 ≤ f t) → ∀ t ∈ l,f t ≤ yK (l.map f)
 | [],h,t,ht => by cases ht
 | x :: l,h,t,ht => by
  rw [List.map_cons,yR]
  have h0:=h x List.mem_cons_self
  have hr:0 ≤ yK (l.map f):=wg fun y hy => by
   obtain ⟨z,hz,rfl⟩:=List.mem_map.1 hy
   exact h z (List.mem_cons_of_mem _ hz)
  rcases List.mem_cons.1 ht with rfl | ht
  ·omega
  ·have:=zeW (fun z hz => h z (List.mem_cons_of_mem _ hz)) t ht; omega
theorem zbH:∀ (D:Nat) (x:Nd),Ok D x → yh D x ≤ 268435456 → ∀ w ∈ body D x,xI w
 | 0,x,h,hb,w,hw => by cases hw
 | D + 1,x,h,hb,w,hw => by
  rw [body] at hw
  by_cases h0:x.kind = 0
  ·rw [if_pos h0] at hw; cases hw
  ·rw [if_neg h0] at hw
   rw [yh] at hb
   have hT:=zez h h0
   have hon:=XI h.vn
   have hTb:∀ t ∈ tgt x,yh D t ≤ 268435456:=fun t ht => by
    have:=zeW (f:=yh D) (fun t ht => xn D (hT t ht).vn) t ht
    omega
   have hP:∀ t ∈ tgt x,∀ off,xI (W9 t off):=fun t ht => zeJ (hT t ht) (hTb t ht)
   obtain ⟨hs,hkk⟩:=ZY h.vn
   rcases List.mem_append.1 hw with hw | hw
   ·unfold obW at hw
    by_cases h1:x.kind = 1
    ·obtain ⟨d,q,rfl,g1,g2,g3,g4,g5,g6⟩:=YN h.vn h.tr h.gd h1
     rw [if_pos h1] at hw
     rcases List.mem_append.1 hw with hw | hw
     ·exact vj _ g3 w hw
     ·exact Va _ _ _ hP w hw
    ·have hs2:=(hs.resolve_left (fun h => h0 h.1)).resolve_left (fun h => h1 h.1)
     rw [if_neg h1] at hw
     cases x with
     | mk k e n d ks =>
      have hg:=h.gd
      rw [Z5] at hg
      obtain ⟨k2,hn,he,h6,hl6⟩:=hs2
      have k2':k = 2:=k2
      subst k2'
      have hn':0 ≤ n ∧ n ≤ 536870911:=hn
      by_cases e7:e = 7
      ·subst e7
       have hw:w ∈ Zn n (yL ks) (yP ks) :: zav (body D) (yL ks) (yP ks) 1 (1 + ks.length * uni (.mk 2 7 n d ks)) ks:=hw
       have hst:∀ k ∈ ks,k.kind = 1:=by
        cases h.vn with
        | mk v1 v2 v3 => exact v2 rfl rfl
       have htr:∀ k ∈ ks,TrN k:=by
        cases h.tr with
        | mk t1 t2 => exact t2
       have hparts:∀ k ∈ ks,(∀ x ∈ k.data,yq x) ∧ k.data.length % 8 = 0 ∧ k.data.length ≤ 524280 ∧ k.kids.length ≤ 65535:=fun k hk => by
        obtain ⟨d,q,rfl,g1,g2,g3,g4,g5,g6⟩:=YN (hkk k hk) (htr k hk) (goods_iff.1 hg.2 k hk) (hst k hk)
        exact ⟨g3,g4,g5,g6⟩
       rcases List.mem_cons.1 hw with rfl | hw
       ·exact Kr (VW fun x hx => by have:=(hparts x hx).2.2.1; omega) (VX fun x hx => (hparts x hx).2.2.2)
       ·exact zbz ks _ _ (fun k hk => ⟨(hparts k hk).1,fun t ht => hP t (List.mem_flatMap.2 ⟨k,hk,ht⟩)⟩) w hw
      ·have et:tgt (.mk 2 e n d ks) = ks:=by
        show (if (2:Int) = 2 ∧ e = 7 then _ else ks) = _
        rw [if_neg (fun h => e7 h.2)]
       rw [et] at hP
       rw [if_neg (show ¬ (Nd.mk 2 e n d ks).elem = 7 from e7)] at hw
       split at hw
       ·exact Va _ _ _ hP w hw
       ·exact vj _ hg.1.2.1 w hw
   ·obtain ⟨t,ht,hw⟩:=List.mem_flatMap.1 hw
    exact zbH D t (hT t ht) (hTb t ht) w hw
theorem zgL {D:Nat} {x:Nd} (h:Ok D x) (hb:yh D x ≤ 268435456):∀ w ∈ QG D x,xI w:=fun w hw => by
 rcases List.mem_cons.1 hw with rfl | hw
 ·exact zeJ h hb 0
 ·exact zbH D x h hb w hw
theorem WN {D:Nat} {x:Nd} (h:Ok D x):((QG D x).length:Int) = yh D x + 1:=by
 rw [QG,zpk,← zbF h]; push_cast; rfl
theorem zgK {D:Nat} {x:Nd} (h:Ok D x) (hb:yh D x ≤ 268435456):xZ [QG D x]:=by
 have:=WN h
 refine ⟨by rw [List.length_singleton]; decide,fun s hs => ?_⟩
 rw [List.mem_singleton.1 hs]
 exact ⟨by omega,zgL h hb⟩
theorem zk7 {D:Nat} {x:Nd} (h:Ok D x) (hb:yh D x ≤ 268435456):Sm [QG D x]:=by
 have:=WN h
 intro s
 unfold rdL
 rcases Nat.eq_zero_or_pos s.toNat with h0 | h0
 ·rw [h0]; show ((QG D x).length:Int) ≤ _; omega
 ·rw [List.getD_eq_getElem?_getD,List.getElem?_eq_none (by rw [List.length_singleton]; omega)]
  simp
theorem zk9 {D:Nat} {x:Nd} (h:Ok D x) (hb:yh D x ≤ 134217728) {d w:Int} (hd:d.toNat = D) (hc:vI D x ≤ max w 0):∃ y,runT [QG D x] d w = (y,max w 0 - vI D x,0) ∧ zU y = x:=by
 have hl:=WN h
 have R:=zgW (W:=QG D x) (by omega) D
 obtain ⟨y,e,ht⟩:=R.one x 0 1 (max w 0) h ⟨[W9 x 0],[],by simp [QG],rfl⟩ ⟨[],body D x,by simp [QG],rfl⟩ hc
 refine ⟨y,?_,ht⟩
 unfold runT
 have hne:¬ emp [QG D x]:=fun he => by
  have h2:(rdL [QG D x] 0).length = 0:=he.2
  have h3:(rdL [QG D x] 0).length = (QG D x).length:=rfl
  have h4:=xn D h.vn
  omega
 rw [if_neg hne,hd]
 exact e
theorem zk8 {D:Nat} {x:Nd} (h:Ok D x) (hb:yh D x ≤ 134217728) {d w:Int} (hd:d.toNat = D) (hc:vI D x ≤ max w 0):W5 [QG D x] d w = 0 ∧ Qb [QG D x] d w = x ∧ zhm [QG D x] d w = vI D x:=by
 obtain ⟨y,e,ht⟩:=zk9 h hb hd hc
 refine ⟨by unfold W5; rw [e],?_,?_⟩
 ·unfold Qb; rw [e,if_pos rfl]; exact ht
 ·unfold zhm; rw [e,if_pos rfl]; show max w 0 - (max w 0 - vI D x) = _; exact Int.sub_sub_self _ _
noncomputable def zaz (l:List (List Int)) (d w:Int):List Int:=if W5 l d w = 0 then QG d.toNat (Qb l d w) else []
theorem W6 {l:List (List Int)} (hl:xZ l) (hs:Sm l) {d w:Int} (hw:w ≤ 134217728) (h0:W5 l d w = 0):Ok d.toNat (Qb l d w) ∧ yh d.toNat (Qb l d w) ≤ 134217728 ∧ vI d.toNat (Qb l d w) ≤ max w 0:=by
 obtain ⟨ho,hc⟩:=zkm hl hs (by omega) (show (runT l d w).2.2 = 0 from h0)
 have hr1:=(za3 hl hs (d:=d) (w:=w) (by omega)).1
 unfold Mt at hr1
 have hle:=zaT d.toNat ho.vn ho.dp
 have hmc:zhm l d w ≤ max w 0:=by
  unfold zhm
  split <;> omega
 exact ⟨ho,by omega,by omega⟩
theorem wsl (z:Nat) (x:List PV):(decide ((PV.sl z x).cells.length = 1) && (PV.sl z x).cells.all PV.isCell) = true:=rfl
def le4 (b:List Int) (i:Nat):Int:=b.getD (4 * i) 0 + 256 * b.getD (4 * i + 1) 0 + 65536 * b.getD (4 * i + 2) 0 + 16777216 * b.getD (4 * i + 3) 0
theorem W4 {b:List Int} (hb:∀ x ∈ b,yq x) (i:Nat):0 ≤ le4 b i ∧ le4 b i ≤ 4294967295:=by
 have h0:=z5 hb (4 * i)
 have h1:=z5 hb (4 * i + 1)
 have h2:=z5 hb (4 * i + 2)
 have h3:=z5 hb (4 * i + 3)
 unfold le4
 omega
theorem ZL {b:List Int} {x:Int} {i:Nat} (hx:x = i) (h:i < b.length):(bs b)[x.toNat]? = some (U8 (b.getD i 0)):=by
 subst hx
 rw [Int.toNat_natCast,zc4 h]
theorem zcZ {b:List Int} (hb:∀ x ∈ b,yq x) (hl:b.length ≤ 1099511627776) {i:Nat} (hi:4 * i + 4 ≤ b.length):ev 85 [.pv (.sl 1 (bs b)),.pv (I (i:Int))] [] = ok (I (le4 b i)):=by
 have h0:=z5 hb (4 * i)
 have h1:=z5 hb (4 * i + 1)
 have h2:=z5 hb (4 * i + 2)
 have h3:=z5 hb (4 * i + 3)
 rw [Wu,zV,w64 (x:=4 * (i:Int)) (by omega),w64 (x:=4 * (i:Int) + 1) (by omega),w64 (x:=4 * (i:Int) + 2) (by omega),w64 (x:=4 * (i:Int) + 3) (by omega)]
 rw [decide_eq_true (show 0 ≤ 4 * (i:Int) by omega),decide_eq_true (show 4 * (i:Int) < (b.length:Int) by omega),decide_eq_true (show 0 ≤ 4 * (i:Int) + 1 by omega),decide_eq_true (show 4 * (i:Int) + 1 < (b.length:Int) by omega),
  decide_eq_true (show 0 ≤ 4 * (i:Int) + 2 by omega),decide_eq_true (show 4 * (i:Int) + 2 < (b.length:Int) by omega),decide_eq_true (show 0 ≤ 4 * (i:Int) + 3 by omega),decide_eq_true (show 4 * (i:Int) + 3 < (b.length:Int) by omega)]
 rw [ZL (show 4 * (i:Int) = ((4 * i:Nat):Int) by push_cast; rfl) (by omega),ZL (show 4 * (i:Int) + 1 = ((4 * i + 1:Nat):Int) by push_cast; rfl) (by omega),ZL (show 4 * (i:Int) + 2 = ((4 * i + 2:Nat):Int) by push_cast; rfl) (by omega),ZL (show 4 * (i:Int) + 3 = ((4 * i + 3:Nat):Int) by push_cast; rfl) (by omega)]
 dsimp only [za,zb,zf,zpi,zj,zm,zq,zk,zs,zn,zK,zM,zL,pU8,zpg,zph,zi,zg,zc,zh,ze,zA,zv,zr,zo,zJ,zI,zF,zG,zH,len8,zD,zC,zt,zu]
 unfold le4
 generalize b.getD (4 * i) 0 = c0 at h0 ⊢
 generalize b.getD (4 * i + 1) 0 = c1 at h1 ⊢
 generalize b.getD (4 * i + 2) 0 = c2 at h2 ⊢
 generalize b.getD (4 * i + 3) 0 = c3 at h3 ⊢
 rw [w64 (x:=c0) (by omega),w64 (x:=c1) (by omega),w64 (x:=c2) (by omega),w64 (x:=c3) (by omega),w64 (x:=256 * c1) (by omega),w64 (x:=65536 * c2) (by omega),w64 (x:=16777216 * c3) (by omega),w64 (x:=c0 + 256 * c1) (by omega),w64 (x:=c0 + 256 * c1 + 65536 * c2) (by omega),w64 (x:=c0 + 256 * c1 + 65536 * c2 + 16777216 * c3) (by omega)]
theorem or8 {v x:Nat} (hv:v < 16777216) (hx:x < 256):IntKind.wrap .i64 (BitVec.ofInt 64 (IntKind.wrap .i64 ((v:Int) * 2 ^ (min 8 64))) ||| BitVec.ofInt 64 (IntKind.wrap .i64 (x:Int))).toNat = ((v * 256 + x:Nat):Int):=by
 have e1:IntKind.wrap .i64 ((v:Int) * 2 ^ (min 8 64)) = ((v * 256:Nat):Int):=by
  have hp:(2:Int) ^ (min 8 64) = 256:=by decide
  rw [hp,show (v:Int) * 256 = ((v * 256:Nat):Int) by omega,w64 (by omega)]
 rw [e1,w64 (x:=(x:Int)) (by omega)]
 have e3:(BitVec.ofInt 64 ((v * 256:Nat):Int) ||| BitVec.ofInt 64 (x:Int)).toNat = v * 256 + x:=by
  rw [BitVec.toNat_or,y6 (by omega),y6 (by omega),show v * 256 = 2 ^ 8 * v by omega,← Nat.two_pow_add_eq_or_of_lt (show x < 2 ^ 8 by omega)]
 rw [e3,zmh (by omega)]
theorem QM {b:List Int} (hb:∀ x ∈ b,yq x) (hl:b.length ≤ 1099511627776) {i k:Nat} (hk:k ≤ 3) (hi:4 * i + 4 ≤ b.length) {v:Nat} (hv:v < 16777216):wc (bs b) i v k = wc (bs b) i ((v * 256 + Ze b (4 * i + k):Nat):Int) ((k:Int) - 1):=by
 have hx:=yD hb (4 * i + k)
 rw [ZP,decide_eq_true (show (k:Int) ≥ 0 by omega),w64 (x:=4 * (i:Int)) (by omega),w64 (x:=4 * (i:Int) + k) (by omega),decide_eq_true (show 0 ≤ 4 * (i:Int) + k by omega),decide_eq_true (show 4 * (i:Int) + k < ((bs b).length:Int) by rw [zV]; omega),ZL (show 4 * (i:Int) + k = ((4 * i + k:Nat):Int) by push_cast; rfl) (by omega),← hx.1]
 dsimp only [za,zb,zf,zpi,zj,zm,zq,zk,zs,zn,zK,zM,zL,pU8,zpg,zph,zi,zg,zc,zh,ze,zA,zv,zr,zo,zJ,zI,zF,zG,zH,len8,zD,zC,zt,zu]
 rw [or8 hv hx.2,w64 (x:=(k:Int) - 1) (by omega)]
theorem Wk:ev 174 [.pv (Bo false)] [] = some (.pan (.ifc 225 (.agg [])),[]):=by rw [WX]; rfl
theorem Q2:ev 174 [.pv (Bo true)] [] = ok (.tup []):=by rw [WX]; rfl
theorem zdQ {b:List Int} (hb:∀ x ∈ b,yq x) (hl:b.length ≤ 1099511627776) {i:Nat} (hi:4 * i + 4 ≤ b.length):ev 173 [.pv (.sl 1 (bs b)),.pv (I (i:Int))] [] = ok (I (le4 b i)):=by
 rw [Xj,zV,w64 (x:=(i:Int) + 1) (by omega),w64 (x:=4 * ((i:Int) + 1)) (by omega),decide_eq_true (show 4 * ((i:Int) + 1) ≤ (b.length:Int) by omega),Q2]
 dsimp only [za,zb,zf,zpi,zj,zm,zq,zk,zs,zn,zK,zM,zL,pU8,zpg,zph,zi,zg,zc,zh,ze,zA,zv,zr,zo,zJ,zI,zF,zG,zH,len8,zD,zC,zt,zu]
 have h0:((Ze b (4 * i + 0):Nat):Int) = b.getD (4 * i) 0 ∧ Ze b (4 * i + 0) < 256:=yD hb (4 * i)
 have h1:=yD hb (4 * i + 1)
 have h2:=yD hb (4 * i + 2)
 have h3:=yD hb (4 * i + 3)
 have s3:=QM hb hl (k:=3) (by omega) hi (v:=0) (by omega)
 have s2:=QM hb hl (k:=2) (by omega) hi (v:=0 * 256 + Ze b (4 * i + 3)) (by omega)
 have s1:=QM hb hl (k:=1) (by omega) hi (v:=(0 * 256 + Ze b (4 * i + 3)) * 256 + Ze b (4 * i + 2)) (by omega)
 have s0:=QM hb hl (k:=0) (by omega) hi (v:=((0 * 256 + Ze b (4 * i + 3)) * 256 + Ze b (4 * i + 2)) * 256 + Ze b (4 * i + 1)) (by omega)
 have e3:(((3:Nat):Int) - 1) = ((2:Nat):Int):=rfl
 have e2:(((2:Nat):Int) - 1) = ((1:Nat):Int):=rfl
 have e1:(((1:Nat):Int) - 1) = ((0:Nat):Int):=rfl
 rw [e3] at s3
 rw [e2] at s2
 rw [e1] at s1
 refine (s3.trans (s2.trans (s1.trans s0))).trans ?_
 rw [ZP,show decide ((((0:Nat):Int) - 1) ≥ 0) = false from rfl]
 refine congrArg (fun z => ok (I z)) ?_
 unfold le4
 omega
theorem zgf {b:List Int} (hl:b.length < 4):ev 173 [.pv (.sl 1 (bs b)),.pv (I 0)] [] = some (.pan (.ifc 225 (.agg [])),[]):=by
 rw [Xj,zV,show IntKind.wrap .i64 ((0:Int) + 1) = 1 from rfl,show IntKind.wrap .i64 ((4:Int) * 1) = 4 from rfl,decide_eq_false (show ¬ (4:Int) ≤ (b.length:Int) by omega),Wk]
 rfl
def tbl (n:Nat):Nat:=if n % 2 = 0 then 4 * n + 8 else 4 * n + 4
theorem zgk {n:Nat} (hn:n ≤ 1099511627776):ev 167 [.pv (I (n:Int))] [] = ok (I (tbl n)):=by
 rw [WC,w64 (x:=(n:Int) + 1) (by omega),w64 (x:=4 * ((n:Int) + 1)) (by omega),w64 (x:=4 * ((n:Int) + 1) + 8) (by omega),w64 (x:=4 * ((n:Int) + 1) + 8 - 1) (by omega),Int.tdiv_eq_ediv_of_nonneg (by omega),w64 (x:=(4 * ((n:Int) + 1) + 8 - 1) / 8) (by omega),w64 (x:=(4 * ((n:Int) + 1) + 8 - 1) / 8 * 8) (by omega)]
 refine congrArg (fun z => ok (I z)) ?_
 unfold tbl
 split <;> (push_cast; omega)
theorem ziy {n:Nat} (hn:n ≤ 1099511627776):ev 86 [.pv (I (n:Int))] [] = ok (I (tbl n)):=by
 rw [Yd,w64 (x:=4 * (n:Int)) (by omega),w64 (x:=4 * (n:Int) + 8) (by omega),w64 (x:=4 * (n:Int) + 4) (by omega),Int.tmod_eq_emod_of_nonneg (by omega),z9]
 unfold tbl
 by_cases h:n % 2 = 0
 ·rw [if_pos (by omega),if_pos h]; push_cast; rfl
 ·rw [if_neg (by omega),if_neg h]; push_cast; rfl
theorem zig {b:List Int} (hl:b.length ≤ 1099511627776):∀ (c i:Nat),i + c = b.length → Zg (bs b) b.length i = ok (Bo ((b.drop i).all (· == 0))):=by
 intro c
 induction c with
 | zero =>
  intro i hi
  rw [YW,decide_eq_false (by omega),List.drop_eq_nil_of_le (by omega)]
  rfl
 | succ c ih =>
  intro i hi
  have hil:i < b.length:=by omega
  rw [YW,decide_eq_true (show (i:Int) < (b.length:Int) by omega),decide_eq_true (show 0 ≤ (i:Int) by omega),decide_eq_true (show (i:Int) < ((bs b).length:Int) by rw [zV]; omega),Int.toNat_natCast,Kb hil]
  dsimp only [za,zb,zf,zpi,zj,zm,zq,zk,zs,zn,zK,zM,zL,pU8,zpg,zph,zi,zg,zc,zh,ze,zA,zv,zr,zo,zJ,zI,zF,zG,zH,len8,zD,zC,zt,zu]
  rw [w64 (x:=(i:Int) + 1) (by omega),List.drop_eq_getElem_cons hil,List.all_cons]
  by_cases h0:b[i] = 0
  ·rw [h0,show ((0:Int) != 0) = false from rfl,show ((0:Int) == 0) = true from rfl]
   dsimp only [za,zb,zf,zpi,zj,zm,zq,zk,zs,zn,zK,zM,zL,pU8,zpg,zph,zi,zg,zc,zh,ze,zA,zv,zr,zo,zJ,zI,zF,zG,zH,len8,zD,zC,zt,zu]
   exact ih (i + 1) (by omega)
  ·rw [Yy h0,beq_eq_false_iff_ne.2 h0]
   rfl
theorem zmO {b:List Int} (hl:b.length ≤ 1099511627776):ev 175 [.pv (.sl 1 (bs b))] [] = ok (Bo (b.all (· == 0))):=by
 rw [zaR,zV]
 exact zig hl b.length 0 (by omega)
def e4 (v:Int):List Int:=[v % 256,v / 256 % 256,v / 65536 % 256,v / 16777216 % 256]
theorem QO {acc:List Int} (ha:acc.length ≤ 17592186044424) (v:Int) {k:Nat} (hk:k < 4):vL (bs acc) v k = vL (bs (acc ++ [v % 256])) (v / 256) ((k + 1:Nat):Int):=by
 rw [Xk,decide_eq_true (show (k:Int) < 4 by omega),yb (by rw [zV]; omega) (by rw [zV]; omega),YQ,w64 (x:=(k:Int) + 1) (by omega),Zr,show (min 8 64:Nat) = 8 from rfl,Int.fdiv_eq_ediv_of_nonneg _ (by decide)]
 rfl
theorem zmI {acc:List Int} (ha:acc.length ≤ 17592186044416) (v:Int):ev 166 [.slu 5 1 (bs acc),.pv (I v)] [] = some (.ret (.slu 5 1 (bs (acc ++ e4 v))),[]):=by
 rw [zbZ]
 have s0:=QO (acc:=acc) (by omega) v (k:=0) (by omega)
 have s1:=QO (acc:=acc ++ [v % 256]) (by simp; omega) (v / 256) (k:=1) (by omega)
 have s2:=QO (acc:=acc ++ [v % 256] ++ [v / 256 % 256]) (by simp; omega) (v / 256 / 256) (k:=2) (by omega)
 have s3:=QO (acc:=acc ++ [v % 256] ++ [v / 256 % 256] ++ [v / 256 / 256 % 256]) (by simp; omega) (v / 256 / 256 / 256) (k:=3) (by omega)
 refine (s0.trans (s1.trans (s2.trans s3))).trans ?_
 rw [Xk,show decide (((3 + 1:Nat):Int) < 4) = false from rfl]
 have e:acc ++ [v % 256] ++ [v / 256 % 256] ++ [v / 256 / 256 % 256] ++ [v / 256 / 256 / 256 % 256] = acc ++ e4 v:=by
  unfold e4
  rw [show v / 256 / 256 = v / 65536 by omega,show v / 65536 / 256 = v / 16777216 by omega]
  simp
 rw [e]
 rfl
def Jj (b:List Int):Nat → Nat → List Int → Option (List (List Int))
 | 0,_,rest => if rest = [] then some [] else none
 | c + 1,i,rest => if le4 b i < 536870912 ∧ 8 * le4 b i ≤ (rest.length:Int) then (Jj b c (i + 1) (rest.drop (8 * (le4 b i).toNat))).map (xi (le4 b i).toNat (rest.take (8 * (le4 b i).toNat)) :: ·) else none
def Xt (b:List Int):Option (List (List Int)) :=
 if b.length < 4 then none else if 512 < le4 b 0 + 1 then none else if b.length < tbl (le4 b 0 + 1).toNat then none
 else if (le4 b 0 + 1).toNat % 2 = 0 ∧ le4 b ((le4 b 0 + 1).toNat + 1) ≠ 0 then none
 else Jj b (le4 b 0 + 1).toNat 1 (b.drop (tbl (le4 b 0 + 1).toNat))
def zfE (o:Option (List (List Int))):List PV:=match o with
 | some l => [.sl 1 (sgs l),I 0]
 | none => [.sl 1 [],I 1]
theorem zeT (l:List (List Int)) (s:List Int):sgs l ++ [.sl 1 (ws s)] = sgs (l ++ [s]):=by simp [sgs]
theorem zew (o:Option (List (List Int))) (acc:List (List Int)) (s:List Int):(o.map (s :: ·)).map (acc ++ ·) = o.map ((acc ++ [s]) ++ ·):=by
 cases o <;> simp
theorem xr {b:List Int} (hb:∀ x ∈ b,yq x) (n:Nat):∀ x ∈ b.drop n,yq x:=fun x hx => hb x (List.mem_of_mem_drop hx)
theorem Ke {b:List Int} (hb:∀ x ∈ b,yq x) (n:Nat):∀ x ∈ b.take n,yq x:=fun x hx => hb x (List.mem_of_mem_take hx)
theorem zaw (b:List Int) (n:Nat):(bs b).drop n = bs (b.drop n):=by simp [bs]
theorem zfA {b:List Int} (hb:∀ x ∈ b,yq x) (hl:b.length ≤ 1099511627776) {n:Nat} (hn:n ≤ 512) (ht:4 * n + 4 ≤ b.length):∀ (c i:Nat) (rest:List Int) (acc:List (List Int)),i + c = n → (∀ x ∈ rest,yq x) → rest.length ≤ 1099511627776 → acc.length = i →
  xX (bs b) (bs rest) n i (sgs acc) 0 = ok (.tup (zfE ((Jj b c (i + 1) rest).map (acc ++ ·)))):=by
 intro c
 induction c with
 | zero =>
  intro i rest acc hi hr hrl hal
  rw [Yi,decide_eq_false (by omega),Jj]
  dsimp only [za,zb,zf,zpi,zj,zm,zq,zk,zs,zn,zK,zM,zL,pU8,zpg,zph,zi,zg,zc,zh,ze,zA,zv,zr,zo,zJ,zI,zF,zG,zH,len8,zD,zC,zt,zu]
  by_cases h0:rest = []
  ·subst h0
   rw [if_pos rfl,show (((bs []).length:Int) == 0) = true from rfl,Q2]
   simp [zfE]
  ·have:(((bs rest).length:Int) == 0) = false:=by
    rw [zV,beq_eq_false_iff_ne]
    have:=List.length_pos_iff.2 h0
    omega
   rw [if_neg h0,this,Wk]
   rfl
 | succ c ih =>
  intro i rest acc hi hr hrl hal
  have hv:=W4 hb (i + 1)
  have e1:(i:Int) + 1 = ((i + 1:Nat):Int):=by push_cast; rfl
  rw [Yi,decide_eq_true (show (i:Int) < n by omega),w64 (x:=(i:Int) + 1) (by omega),e1,zdQ hb hl (by omega),Jj]
  dsimp only [za,zb,zf,zpi,zj,zm,zq,zk,zs,zn,zK,zM,zL,pU8,zpg,zph,zi,zg,zc,zh,ze,zA,zv,zr,zo,zJ,zI,zF,zG,zH,len8,zD,zC,zt,zu]
  by_cases h1:le4 b (i + 1) < 536870912
  ·rw [decide_eq_true h1,w64 (x:=le4 b (i + 1) * 8) (by omega)]
   dsimp only [za,zb,zf,zpi,zj,zm,zq,zk,zs,zn,zK,zM,zL,pU8,zpg,zph,zi,zg,zc,zh,ze,zA,zv,zr,zo,zJ,zI,zF,zG,zH,len8,zD,zC,zt,zu]
   rw [zV]
   by_cases h2:8 * le4 b (i + 1) ≤ (rest.length:Int)
   ·rw [decide_eq_true (show le4 b (i + 1) * 8 ≤ (rest.length:Int) by omega),Q2,if_pos ⟨h1,h2⟩]
    have en:(le4 b (i + 1) * 8).toNat = 8 * (le4 b (i + 1)).toNat:=by omega
    have hW:=zao (Ke hr (8 * (le4 b (i + 1)).toNat)) (by rw [List.length_take]; omega) (n:=(le4 b (i + 1)).toNat) (by rw [List.length_take]; omega)
    dsimp only [za,zb,zf,zpi,zj,zm,zq,zk,zs,zn,zK,zM,zL,pU8,zpg,zph,zi,zg,zc,zh,ze,zA,zv,zr,zo,zJ,zI,zF,zG,zH,len8,zD,zC,zt,zu]
    rw [decide_eq_true (show 0 ≤ le4 b (i + 1) * 8 by omega)]
    dsimp only [za,zb,zf,zpi,zj,zm,zq,zk,zs,zn,zK,zM,zL,pU8,zpg,zph,zi,zg,zc,zh,ze,zA,zv,zr,zo,zJ,zI,zF,zG,zH,len8,zD,zC,zt,zu]
    rw [en,List.drop_zero,zax,hW]
    dsimp only [↓wsl,za,zb,zf,zpi,zj,zm,zq,zk,zs,zn,zK,zM,zL,pU8,zpg,zph,zi,zg,zc,zh,ze,zA,zv,zr,zo,zJ,zI,zF,zG,zH,len8,zD,zC,zt,zu]
    rw [yb (by simp; omega) (by simp; omega),decide_eq_true (show (rest.length:Int) ≤ (rest.length:Int) by omega),Int.toNat_natCast,List.take_of_length_le (show (bs rest).length ≤ rest.length by rw [zV]; exact Nat.le_refl _),zaw,zeT]
    dsimp only [za,zb,zf,zpi,zj,zm,zq,zk,zs,zn,zK,zM,zL,pU8,zpg,zph,zi,zg,zc,zh,ze,zA,zv,zr,zo,zJ,zI,zF,zG,zH,len8,zD,zC,zt,zu]
    have:=ih (i + 1) (rest.drop (8 * (le4 b (i + 1)).toNat)) (acc ++ [xi (le4 b (i + 1)).toNat (rest.take (8 * (le4 b (i + 1)).toNat))]) (by omega) (xr hr _) (by rw [List.length_drop]; omega) (by simp; omega)
    rw [zew]
    exact this
   ·rw [decide_eq_false (show ¬ le4 b (i + 1) * 8 ≤ (rest.length:Int) by omega),Wk,if_neg (fun h => h2 h.2)]
    rfl
  ·rw [decide_eq_false h1,Wk,if_neg (fun h => h1 h.1)]
   rfl
theorem WE (a:AV) (p q:PV):KN 0 2 (.tup 0 a [p,q]) = some (a,[p,q]):=rfl
noncomputable def zoz (l:List (List Int)) (d w:Int):List PV:=if W5 l d w = 0 then [.sl 1 (ws (zaz l d w))] else []
theorem zmC {l:List (List Int)} (hl:xZ l) (hs:Sm l) {d w b:Int} (hd:d ≤ 1099511627775) (hw:w ≤ 134217728):ev 103 [.pv (.sl 1 (sgs l)),.pv (.agg [I d,I w,I b])] [] = ok (.tup [.sl 1 (zoz l d w),I (W5 l d w)]):=by
 rw [Vp,Yz,QZ hl hs hd (by omega)]
 dsimp only [Nd.x,↓cl5,za,zb,zf,zpi,zj,zm,zq,zk,zs,zn,zK,zM,zL,pU8,zpg,zph,zi,zg,zc,zh,ze,zA,zv,zr,zo,zJ,zI,zF,zG,zH,len8,zD,zC,zt,zu]
 unfold zoz zaz
 by_cases h0:W5 l d w = 0
 ·obtain ⟨ho,hb,_⟩:=W6 hl hs hw h0
  have h1:=zf8 ho hb
  dsimp only [Nd.x] at h1
  rw [h0,show ((0:Int) != 0) = false from rfl,if_pos rfl,if_pos rfl]
  dsimp only [↓cl5,za,zb,zf,zpi,zj,zm,zq,zk,zs,zn,zK,zM,zL,pU8,zpg,zph,zi,zg,zc,zh,ze,zA,zv,zr,zo,zJ,zI,zF,zG,zH,len8,zD,zC,zt,zu]
  rw [Wl,h1]
  dsimp only [za,zb,zf,zpi,zj,zm,zq,zk,zs,zn,zK,zM,zL,pU8,zpg,zph,zi,zg,zc,zh,ze,zA,zv,zr,zo,zJ,zI,zF,zG,zH,len8,zD,zC,zt,zu]
  rw [yO]
  rfl
 ·rw [Yy h0,if_neg h0]
  rfl
theorem zoq {b:List Int} {j:Nat} (h:j + 4 ≤ b.length):(b.drop j).take 4 = [b.getD j 0,b.getD (j + 1) 0,b.getD (j + 2) 0,b.getD (j + 3) 0]:=by
 have g:∀ i,i < b.length → b.getD i 0 = b[i]!:=fun i hi => by simp [List.getD_eq_getElem?_getD,hi]
 rw [List.drop_eq_getElem_cons (show j < b.length by omega),List.drop_eq_getElem_cons (show j + 1 < b.length by omega),List.drop_eq_getElem_cons (show j + 1 + 1 < b.length by omega),List.drop_eq_getElem_cons (show j + 1 + 1 + 1 < b.length by omega)]
 simp only [List.take_succ_cons,List.take_zero,List.getD_eq_getElem?_getD]
 rw [List.getElem?_eq_getElem (show j < b.length by omega),List.getElem?_eq_getElem (show j + 1 < b.length by omega),List.getElem?_eq_getElem (show j + 2 < b.length by omega),List.getElem?_eq_getElem (show j + 3 < b.length by omega)]
 rfl
theorem Qi (b:List Int) (j k:Nat):(b.take (j + k)).drop j = (b.drop j).take k:=by
 rw [List.drop_take,Nat.add_sub_cancel_left]
theorem zjo {b:List Int} (hb:∀ x ∈ b,yq x) {n:Nat} (h:tbl n ≤ b.length):((b.take (tbl n)).drop (4 * n + 4)).all (· == 0) = !decide (n % 2 = 0 ∧ le4 b (n + 1) ≠ 0):=by
 by_cases hn:n % 2 = 0
 ·have ht:tbl n = (4 * n + 4) + 4:=by unfold tbl; rw [if_pos hn]
  have h0:=z5 hb (4 * n + 4)
  have h1:=z5 hb (4 * n + 4 + 1)
  have h2:=z5 hb (4 * n + 4 + 2)
  have h3:=z5 hb (4 * n + 4 + 3)
  have hl:le4 b (n + 1) = b.getD (4 * n + 4) 0 + 256 * b.getD (4 * n + 4 + 1) 0 + 65536 * b.getD (4 * n + 4 + 2) 0 + 16777216 * b.getD (4 * n + 4 + 3) 0:=rfl
  rw [ht,Qi,zoq (by omega),hl]
  generalize b.getD (4 * n + 4) 0 = c0 at h0 ⊢
  generalize b.getD (4 * n + 4 + 1) 0 = c1 at h1 ⊢
  generalize b.getD (4 * n + 4 + 2) 0 = c2 at h2 ⊢
  generalize b.getD (4 * n + 4 + 3) 0 = c3 at h3 ⊢
  rw [Bool.eq_iff_iff]
  simp only [List.all_cons,List.all_nil,Bool.and_true,Bool.and_eq_true,beq_iff_eq,Bool.not_eq_true',decide_eq_false_iff_not]
  omega
 ·have ht:tbl n = 4 * n + 4:=by unfold tbl; rw [if_neg hn]
  rw [ht,List.drop_eq_nil_of_le (by rw [List.length_take]; omega),decide_eq_false (fun h => hn h.1)]
  rfl
theorem zkH {b:List Int} (hb:∀ x ∈ b,yq x) (hl:b.length ≤ 1099511627776):ev 107 [.pv (.sl 1 (bs b))] [] = ok (.tup (zfE (Xt b))):=by
 rw [Jy]
 unfold Xt
 by_cases h4:b.length < 4
 ·rw [zgf h4,if_pos h4]
  rfl
 have hN:ev 173 [.pv (.sl 1 (bs b)),.pv (I 0)] [] = ok (I (le4 b 0)):=zdQ hb hl (i:=0) (by omega)
 have hr:=W4 hb 0
 rw [hN,if_neg h4]
 dsimp only [za,zb,zf,zpi,zj,zm,zq,zk,zs,zn,zK,zM,zL,pU8,zpg,zph,zi,zg,zc,zh,ze,zA,zv,zr,zo,zJ,zI,zF,zG,zH,len8,zD,zC,zt,zu]
 rw [w64 (x:=le4 b 0 + 1) (by omega)]
 obtain ⟨n,hn⟩:∃ n:Nat,le4 b 0 + 1 = n:=⟨(le4 b 0 + 1).toNat,by omega⟩
 rw [hn,Int.toNat_natCast n]
 by_cases h5:(512:Int) < n
 ·rw [if_pos h5,decide_eq_false (by omega),Wk]
  rfl
 have htb:tbl n ≤ 4 * n + 8 ∧ 4 * n + 4 ≤ tbl n:=by unfold tbl; split <;> omega
 rw [if_neg h5,decide_eq_true (show (n:Int) ≤ 512 by omega),Q2,zgk (by omega)]
 dsimp only [za,zb,zf,zpi,zj,zm,zq,zk,zs,zn,zK,zM,zL,pU8,zpg,zph,zi,zg,zc,zh,ze,zA,zv,zr,zo,zJ,zI,zF,zG,zH,len8,zD,zC,zt,zu]
 rw [zV]
 by_cases h6:b.length < tbl n
 ·rw [if_pos h6,decide_eq_false (by omega),Wk]
  rfl
 rw [if_neg h6,decide_eq_true (show (b.length:Int) ≥ (tbl n:Int) by omega),w64 (x:=(n:Int) + 1) (by omega),w64 (x:=4 * ((n:Int) + 1)) (by omega),decide_eq_true (show 0 ≤ 4 * ((n:Int) + 1) by omega),decide_eq_true (show 4 * ((n:Int) + 1) ≤ (tbl n:Int) by omega)]
 dsimp only [za,zb,zf,zpi,zj,zm,zq,zk,zs,zn,zK,zM,zL,pU8,zpg,zph,zi,zg,zc,zh,ze,zA,zv,zr,zo,zJ,zI,zF,zG,zH,len8,zD,zC,zt,zu]
 rw [Int.toNat_natCast (tbl n),show (4 * ((n:Int) + 1)).toNat = 4 * n + 4 by omega,zax,zaw,zmO (by rw [List.length_drop,List.length_take]; omega),zjo hb (by omega)]
 dsimp only [za,zb,zf,zpi,zj,zm,zq,zk,zs,zn,zK,zM,zL,pU8,zpg,zph,zi,zg,zc,zh,ze,zA,zv,zr,zo,zJ,zI,zF,zG,zH,len8,zD,zC,zt,zu]
 by_cases h7:n % 2 = 0 ∧ le4 b (n + 1) ≠ 0
 ·rw [decide_eq_true h7,if_pos h7,show (!true) = false from rfl,Wk]
  rfl
 rw [decide_eq_false h7,if_neg h7,show (!false) = true from rfl,Q2]
 dsimp only [za,zb,zf,zpi,zj,zm,zq,zk,zs,zn,zK,zM,zL,pU8,zpg,zph,zi,zg,zc,zh,ze,zA,zv,zr,zo,zJ,zI,zF,zG,zH,len8,zD,zC,zt,zu]
 rw [Int.toNat_natCast b.length,decide_eq_true (show 0 ≤ (tbl n:Int) by omega),decide_eq_true (show (b.length:Int) ≤ (b.length:Int) by omega),List.take_of_length_le (show (bs b).length ≤ b.length by rw [zV]; exact Nat.le_refl _),zaw]
 dsimp only [za,zb,zf,zpi,zj,zm,zq,zk,zs,zn,zK,zM,zL,pU8,zpg,zph,zi,zg,zc,zh,ze,zA,zv,zr,zo,zJ,zI,zF,zG,zH,len8,zD,zC,zt,zu]
 have:=zfA hb hl (n:=n) (by omega) (by omega) n 0 (b.drop (tbl n)) [] (by omega) (xr hb _) (by rw [List.length_drop]; omega) rfl
 have e:(Jj b n (0 + 1) (b.drop (tbl n))).map (([]:List (List Int)) ++ ·) = Jj b n 1 (b.drop (tbl n)):=by
  cases Jj b n 1 (b.drop (tbl n)) <;> rfl
 rw [e] at this
 exact this
theorem zdv {b:List Int} (hb:∀ x ∈ b,yq x) (hl:b.length ≤ 1099511627776) {n:Nat} (hn:n ≤ 512) (ht:4 * n + 4 ≤ b.length):∀ (c i at_:Nat) (acc:List (List Int)),i + c = n + 1 → at_ ≤ b.length → acc.length ≤ i →
  xe (bs b) n (sgs acc) (I (at_:Int)) i = ok (.tup (zfE ((Jj b c i (b.drop at_)).map (acc ++ ·)))):=by
 intro c
 induction c with
 | zero =>
  intro i at_ acc hi ha hal
  rw [vp,decide_eq_false (by omega),Jj]
  dsimp only [za,zb,zf,zpi,zj,zm,zq,zk,zs,zn,zK,zM,zL,pU8,zpg,zph,zi,zg,zc,zh,ze,zA,zv,zr,zo,zJ,zI,zF,zG,zH,len8,zD,zC,zt,zu]
  rw [zV]
  by_cases h0:at_ = b.length
  ·rw [if_pos (by rw [List.drop_eq_nil_iff]; omega),h0,show ((b.length:Int) != (b.length:Int)) = false by simp]
   simp [zfE]
  ·rw [if_neg (by rw [List.drop_eq_nil_iff]; omega),show ((at_:Int) != (b.length:Int)) = true from bne_iff_ne.2 (by omega)]
   rfl
 | succ c ih =>
  intro i at_ acc hi ha hal
  have hv:=W4 hb i
  rw [vp,decide_eq_true (show (i:Int) ≤ n by omega),zcZ hb hl (by omega),Jj]
  dsimp only [za,zb,zf,zpi,zj,zm,zq,zk,zs,zn,zK,zM,zL,pU8,zpg,zph,zi,zg,zc,zh,ze,zA,zv,zr,zo,zJ,zI,zF,zG,zH,len8,zD,zC,zt,zu]
  rw [zV,List.length_drop]
  by_cases h1:le4 b i < 536870912
  ·rw [decide_eq_false (show ¬ le4 b i ≥ 536870912 by omega),w64 (x:=8 * le4 b i) (by omega),w64 (x:=(at_:Int) + 8 * le4 b i) (by omega)]
   dsimp only [za,zb,zf,zpi,zj,zm,zq,zk,zs,zn,zK,zM,zL,pU8,zpg,zph,zi,zg,zc,zh,ze,zA,zv,zr,zo,zJ,zI,zF,zG,zH,len8,zD,zC,zt,zu]
   by_cases h2:8 * le4 b i ≤ ((b.length - at_:Nat):Int)
   ·rw [decide_eq_false (show ¬ (at_:Int) + 8 * le4 b i > (b.length:Int) by omega),if_pos ⟨h1,h2⟩]
    have en:((at_:Int) + 8 * le4 b i).toNat = at_ + 8 * (le4 b i).toNat:=by omega
    have hW:=zbv (Ke (xr hb at_) (8 * (le4 b i).toNat)) (by rw [List.length_take,List.length_drop]; omega) (n:=(le4 b i).toNat) (by rw [List.length_take,List.length_drop]; omega)
    dsimp only [za,zb,zf,zpi,zj,zm,zq,zk,zs,zn,zK,zM,zL,pU8,zpg,zph,zi,zg,zc,zh,ze,zA,zv,zr,zo,zJ,zI,zF,zG,zH,len8,zD,zC,zt,zu]
    rw [decide_eq_true (show 0 ≤ (at_:Int) by omega),decide_eq_true (show (at_:Int) ≤ (at_:Int) + 8 * le4 b i by omega),decide_eq_true (show (at_:Int) + 8 * le4 b i ≤ (b.length:Int) by omega)]
    dsimp only [za,zb,zf,zpi,zj,zm,zq,zk,zs,zn,zK,zM,zL,pU8,zpg,zph,zi,zg,zc,zh,ze,zA,zv,zr,zo,zJ,zI,zF,zG,zH,len8,zD,zC,zt,zu]
    rw [en,Int.toNat_natCast,zax,zaw,Qi,hW]
    dsimp only [za,zb,zf,zpi,zj,zm,zq,zk,zs,zn,zK,zM,zL,pU8,zpg,zph,zi,zg,zc,zh,ze,zA,zv,zr,zo,zJ,zI,zF,zG,zH,len8,zD,zC,zt,zu]
    rw [WE]
    dsimp only [za,zb,zf,zpi,zj,zm,zq,zk,zs,zn,zK,zM,zL,pU8,zpg,zph,zi,zg,zc,zh,ze,zA,zv,zr,zo,zJ,zI,zF,zG,zH,len8,zD,zC,zt,zu]
    rw [yO]
    dsimp only [za,zb,zf,zpi,zj,zm,zq,zk,zs,zn,zK,zM,zL,pU8,zpg,zph,zi,zg,zc,zh,ze,zA,zv,zr,zo,zJ,zI,zF,zG,zH,len8,zD,zC,zt,zu]
    rw [yb (by simp; omega) (by simp; omega),zeT,w64 (x:=(i:Int) + 1) (by omega)]
    dsimp only [za,zb,zf,zpi,zj,zm,zq,zk,zs,zn,zK,zM,zL,pU8,zpg,zph,zi,zg,zc,zh,ze,zA,zv,zr,zo,zJ,zI,zF,zG,zH,len8,zD,zC,zt,zu]
    have:=ih (i + 1) (at_ + 8 * (le4 b i).toNat) (acc ++ [xi (le4 b i).toNat ((b.drop at_).take (8 * (le4 b i).toNat))]) (by omega) (by omega) (by simp; omega)
    rw [zew,List.drop_drop,show (at_:Int) + 8 * le4 b i = ((at_ + 8 * (le4 b i).toNat:Nat):Int) by omega]
    exact this
   ·rw [decide_eq_true (show (at_:Int) + 8 * le4 b i > (b.length:Int) by omega),if_neg (fun h => h2 h.2)]
    rfl
  ·rw [decide_eq_true (show le4 b i ≥ 536870912 by omega),if_neg (fun h => h1 h.1)]
   rfl
theorem WL {b:List Int} (hb:∀ x ∈ b,yq x) (hl:b.length ≤ 1099511627776):ev 43 [.pv (.sl 1 (bs b))] [] = ok (.tup (zfE (Xt b))):=by
 rw [Wt,zV]
 unfold Xt
 by_cases h4:b.length < 4
 ·rw [decide_eq_true (show (b.length:Int) < 4 by omega),if_pos h4]
  rfl
 have hN:ev 85 [.pv (.sl 1 (bs b)),.pv (I 0)] [] = ok (I (le4 b 0)):=zcZ hb hl (i:=0) (by omega)
 have hr:=W4 hb 0
 rw [decide_eq_false (show ¬ (b.length:Int) < 4 by omega),hN,if_neg h4]
 dsimp only [za,zb,zf,zpi,zj,zm,zq,zk,zs,zn,zK,zM,zL,pU8,zpg,zph,zi,zg,zc,zh,ze,zA,zv,zr,zo,zJ,zI,zF,zG,zH,len8,zD,zC,zt,zu]
 rw [w64 (x:=le4 b 0 + 1) (by omega)]
 obtain ⟨n,hn⟩:∃ n:Nat,le4 b 0 + 1 = n:=⟨(le4 b 0 + 1).toNat,by omega⟩
 rw [hn,Int.toNat_natCast n]
 by_cases h5:(512:Int) < n
 ·rw [if_pos h5,decide_eq_true (show (n:Int) > 512 by omega)]
  rfl
 have htb:tbl n ≤ 4 * n + 8 ∧ 4 * n + 4 ≤ tbl n:=by unfold tbl; split <;> omega
 rw [if_neg h5,decide_eq_false (show ¬ (n:Int) > 512 by omega),ziy (by omega)]
 dsimp only [za,zb,zf,zpi,zj,zm,zq,zk,zs,zn,zK,zM,zL,pU8,zpg,zph,zi,zg,zc,zh,ze,zA,zv,zr,zo,zJ,zI,zF,zG,zH,len8,zD,zC,zt,zu]
 by_cases h6:b.length < tbl n
 ·rw [if_pos h6,decide_eq_true (show (b.length:Int) < (tbl n:Int) by omega)]
  rfl
 rw [if_neg h6,decide_eq_false (show ¬ (b.length:Int) < (tbl n:Int) by omega),Int.tmod_eq_emod_of_nonneg (by omega),w64 (x:=(n:Int) + 1) (by omega)]
 dsimp only [za,zb,zf,zpi,zj,zm,zq,zk,zs,zn,zK,zM,zL,pU8,zpg,zph,zi,zg,zc,zh,ze,zA,zv,zr,zo,zJ,zI,zF,zG,zH,len8,zD,zC,zt,zu]
 have loop:=zdv hb hl (n:=n) (by omega) (by omega) n 1 (tbl n) [] (by omega) (by omega) (by simp)
 have e:(Jj b n 1 (b.drop (tbl n))).map (([]:List (List Int)) ++ ·) = Jj b n 1 (b.drop (tbl n)):=by
  cases Jj b n 1 (b.drop (tbl n)) <;> rfl
 rw [e] at loop
 by_cases h7:n % 2 = 0
 ·have hE:ev 85 [.pv (.sl 1 (bs b)),.pv (I ((n:Int) + 1))] [] = ok (I (le4 b (n + 1))):=by
   have ht:tbl n = 4 * n + 8:=by unfold tbl; rw [if_pos h7]
   have:=zcZ hb hl (i:=n + 1) (by omega)
   rw [show ((n + 1:Nat):Int) = (n:Int) + 1 by push_cast; rfl] at this
   exact this
  rw [show ((n:Int) % 2 == 0) = true by rw [beq_iff_eq]; omega,hE]
  dsimp only [za,zb,zf,zpi,zj,zm,zq,zk,zs,zn,zK,zM,zL,pU8,zpg,zph,zi,zg,zc,zh,ze,zA,zv,zr,zo,zJ,zI,zF,zG,zH,len8,zD,zC,zt,zu]
  by_cases h8:le4 b (n + 1) = 0
  ·rw [h8,if_neg (fun h => h.2 rfl),show ((0:Int) != 0) = false from rfl]
   exact loop
  ·rw [if_pos ⟨h7,h8⟩,Yy h8]
   rfl
 ·rw [show ((n:Int) % 2 == 0) = false by rw [beq_eq_false_iff_ne]; omega,if_neg (fun h => h7 h.1)]
  exact loop
def zoU (w:List Int):List Int:=e4 0 ++ e4 w.length ++ byt w
theorem zmA {w:List Int} (hw:w.length < 536870912):ev 105 [.pv (.sl 1 [.sl 1 (ws w)])] [] = some (.ret (.tup 0 (.slu 5 1 (bs (zoU w))) [.v .nilIface,I 0]),[]):=by
 have p1:=zmI (acc:=[]) (by simp) 0
 have p2:=zmI (acc:=e4 0) (by decide) (w.length:Int)
 have hb:=Wj w (by omega)
 have ht:ev 167 [.pv (I 1)] [] = ok (I 8):=zgk (n:=1) (by omega)
 have hl:((bs (e4 0 ++ e4 (w.length:Int))).length:Int) = 8:=by rw [zV]; rfl
 rw [WW,show decide (((([.sl 1 (ws w)]:List PV).length:Nat):Int) < 1) = false from rfl,show decide (((([.sl 1 (ws w)]:List PV).length:Nat):Int) > 512) = false from rfl,show IntKind.wrap .i64 (((([.sl 1 (ws w)]:List PV).length:Nat):Int) - 1) = 0 from rfl]
 dsimp only [za,zb,zf,zpi,zj,zm,zq,zk,zs,zn,zK,zM,zL,pU8,zpg,zph,zi,zg,zc,zh,ze,zA,zv,zr,zo,zJ,zI,zF,zG,zH,len8,zD,zC,zt,zu]
 have p1':ev 166 [.slu 5 1 [],.pv (I 0)] [] = some (.ret (.slu 5 1 (bs (e4 0))),[]):=p1
 rw [p1']
 dsimp only [za,zb,zf,zpi,zj,zm,zq,zk,zs,zn,zK,zM,zL,pU8,zpg,zph,zi,zg,zc,zh,ze,zA,zv,zr,zo,zJ,zI,zF,zG,zH,len8,zD,zC,zt,zu]
 rw [yO]
 dsimp only [za,zb,zf,zpi,zj,zm,zq,zk,zs,zn,zK,zM,zL,pU8,zpg,zph,zi,zg,zc,zh,ze,zA,zv,zr,zo,zJ,zI,zF,zG,zH,len8,zD,zC,zt,zu]
 rw [vJ,show decide ((0:Int) < ((([.sl 1 (ws w)]:List PV).length:Nat):Int)) = true from rfl,show decide ((0:Int) ≤ 0) = true from rfl,show ([.sl 1 (ws w)]:List PV)[(0:Int).toNat]? = some (.sl 1 (ws w)) from rfl]
 dsimp only [za,zb,zf,zpi,zj,zm,zq,zk,zs,zn,zK,zM,zL,pU8,zpg,zph,zi,zg,zc,zh,ze,zA,zv,zr,zo,zJ,zI,zF,zG,zH,len8,zD,zC,zt,zu]
 rw [ym,decide_eq_false (show ¬ (w.length:Int) ≥ 536870912 by omega),p2]
 dsimp only [za,zb,zf,zpi,zj,zm,zq,zk,zs,zn,zK,zM,zL,pU8,zpg,zph,zi,zg,zc,zh,ze,zA,zv,zr,zo,zJ,zI,zF,zG,zH,len8,zD,zC,zt,zu]
 rw [yO]
 dsimp only [za,zb,zf,zpi,zj,zm,zq,zk,zs,zn,zK,zM,zL,pU8,zpg,zph,zi,zg,zc,zh,ze,zA,zv,zr,zo,zJ,zI,zF,zG,zH,len8,zD,zC,zt,zu]
 rw [vJ,show decide (IntKind.wrap .i64 ((0:Int) + 1) < ((([.sl 1 (ws w)]:List PV).length:Nat):Int)) = false from rfl,show ((([.sl 1 (ws w)]:List PV).length:Nat):Int) = 1 from rfl,ht]
 dsimp only [za,zb,zf,zpi,zj,zm,zq,zk,zs,zn,zK,zM,zL,pU8,zpg,zph,zi,zg,zc,zh,ze,zA,zv,zr,zo,zJ,zI,zF,zG,zH,len8,zD,zC,zt,zu]
 rw [hl,show IntKind.wrap .i64 ((8:Int) - 8) = 0 from rfl,show (decide ((0:Int) ≤ 0) && decide ((0:Int) ≤ 140737488355328)) = true from rfl,show List.replicate (0:Int).toNat (PV.v (.int .u8 0)) = [] from rfl,List.append_nil,show yr ((bs (e4 0 ++ e4 (w.length:Int))).length + ([]:List PV).length) 1 = true from by rw [zV]; rfl]
 dsimp only [za,zb,zf,zpi,zj,zm,zq,zk,zs,zn,zK,zM,zL,pU8,zpg,zph,zi,zg,zc,zh,ze,zA,zv,zr,zo,zJ,zI,zF,zG,zH,len8,zD,zC,zt,zu]
 rw [vK,show decide ((0:Int) < 1) = true from rfl,show decide ((0:Int) < ((([.sl 1 (ws w)]:List PV).length:Nat):Int)) = true from rfl,show decide ((0:Int) ≤ 0) = true from rfl,show ([.sl 1 (ws w)]:List PV)[(0:Int).toNat]? = some (.sl 1 (ws w)) from rfl]
 dsimp only [za,zb,zf,zpi,zj,zm,zq,zk,zs,zn,zK,zM,zL,pU8,zpg,zph,zi,zg,zc,zh,ze,zA,zv,zr,zo,zJ,zI,zF,zG,zH,len8,zD,zC,zt,zu]
 rw [hb]
 dsimp only [za,zb,zf,zpi,zj,zm,zq,zk,zs,zn,zK,zM,zL,pU8,zpg,zph,zi,zg,zc,zh,ze,zA,zv,zr,zo,zJ,zI,zF,zG,zH,len8,zD,zC,zt,zu]
 rw [show decide ((1:Nat) = 1) = true from rfl,yb (by rw [zV,zV,yX,zpj]; show (4 + 4 + _) * 1 ≤ _; omega) (by rw [zV,zV,yX,zpj]; show 4 + 4 + _ ≤ _; omega)]
 dsimp only [za,zb,zf,zpi,zj,zm,zq,zk,zs,zn,zK,zM,zL,pU8,zpg,zph,zi,zg,zc,zh,ze,zA,zv,zr,zo,zJ,zI,zF,zG,zH,len8,zD,zC,zt,zu]
 rw [vK,show decide (IntKind.wrap .i64 ((0:Int) + 1) < 1) = false from rfl,← Zr]
 rfl
def stp (s b:Int):Int:=IntKind.wrap .u64 ((IntKind.wrap .u64 ((BitVec.ofInt 64 s ^^^ BitVec.ofInt 64 (IntKind.wrap .u64 b)).toNat:Nat)) * 1099511628211)
def zcS (s:Int) (l:List Int):Int:=l.foldl stp s
theorem wrap64 (x:Int):IntKind.wrap .u64 x = x % 18446744073709551616:=by
 simp [IntKind.wrap,IntKind.bits,IntKind.signed]
theorem zjK (s b:Int):xI (stp s b):=by
 unfold stp
 rw [wrap64]
 exact ⟨by omega,by omega⟩
theorem step_loop {l:List Int} (hl:l.length ≤ 4611686018427387904):∀ (c i:Nat) (s:Int),i + c = l.length → YC s (bs l) l.length i = ok (U (zcS s (l.drop i))):=by
 intro c
 induction c with
 | zero =>
  intro i s hi
  rw [X6,decide_eq_false (by omega),List.drop_eq_nil_of_le (by omega)]
  rfl
 | succ c ih =>
  intro i s hi
  have hil:i < l.length:=by omega
  rw [X6,decide_eq_true (show (i:Int) < (l.length:Int) by omega),decide_eq_true (show 0 ≤ (i:Int) by omega),decide_eq_true (show (i:Int) < ((bs l).length:Int) by rw [zV]; omega)]
  dsimp only [za,zb,zf,zpi,zj,zm,zq,zk,zs,zn,zK,zM,zL,pU8,zpg,zph,zi,zg,zc,zh,ze,zA,zv,zr,zo,zJ,zI,zF,zG,zH,len8,zD,zC,zt,zu]
  rw [Int.toNat_natCast,show (bs l)[i]? = some (U8 l[i]) by simp [bs,hil]]
  dsimp only [za,zb,zf,zpi,zj,zm,zq,zk,zs,zn,zK,zM,zL,pU8,zpg,zph,zi,zg,zc,zh,ze,zA,zv,zr,zo,zJ,zI,zF,zG,zH,len8,zD,zC,zt,zu]
  rw [w64 (x:=(i:Int) + 1) (by omega)]
  have:=ih (i + 1) (stp s l[i]) (by omega)
  rw [List.drop_eq_getElem_cons hil]
  exact this
theorem zmN {l:List Int} (hl:l.length ≤ 4611686018427387904) (s:Int):ev 232 [.pv (U s),.pv (.sl 1 (bs l))] [] = ok (U (zcS s l)):=by
 rw [zdf,zV]
 exact step_loop hl l.length 0 s (by omega)
theorem zja (s:Int) (a b:List Int):zcS s (a ++ b) = zcS (zcS s a) b:=List.foldl_append ..
theorem XD (w:Int) (l:List Int):byt (w :: l) = w8 w ++ byt l:=rfl
theorem zhc {l:List Int} (hl:l.length ≤ 17592186044416):∀ (c i:Nat) (s:Int),i + c = l.length → ZO (U s) (ws l) l.length i = ok (U (zcS s (byt (l.drop i)))):=by
 intro c
 induction c with
 | zero =>
  intro i s hi
  rw [Xh,decide_eq_false (by omega),List.drop_eq_nil_of_le (by omega)]
  rfl
 | succ c ih =>
  intro i s hi
  have hil:i < l.length:=by omega
  have hb:=Wj [l[i]] (by simp)
  have hs:=zmN (l:=byt [l[i]]) (by rw [yX]; simp) s
  rw [Xh,decide_eq_true (show (i:Int) < (l.length:Int) by omega),decide_eq_true (show 0 ≤ (i:Int) by omega),decide_eq_true (show (i:Int) < ((ws l).length:Int) by rw [ym]; omega)]
  dsimp only [za,zb,zf,zpi,zj,zm,zq,zk,zs,zn,zK,zM,zL,pU8,zpg,zph,zi,zg,zc,zh,ze,zA,zv,zr,zo,zJ,zI,zF,zG,zH,len8,zD,zC,zt,zu]
  rw [Int.toNat_natCast,Y2 hil]
  have hb':ev 117 [.pv (.sl 1 [U l[i]])] [] = ok (.sl 1 (bs (byt [l[i]]))):=hb
  dsimp only [↓zoD,za,zb,zf,zpi,zj,zm,zq,zk,zs,zn,zK,zM,zL,pU8,zpg,zph,zi,zg,zc,zh,ze,zA,zv,zr,zo,zJ,zI,zF,zG,zH,len8,zD,zC,zt,zu]
  rw [hb']
  dsimp only [za,zb,zf,zpi,zj,zm,zq,zk,zs,zn,zK,zM,zL,pU8,zpg,zph,zi,zg,zc,zh,ze,zA,zv,zr,zo,zJ,zI,zF,zG,zH,len8,zD,zC,zt,zu]
  rw [hs]
  dsimp only [za,zb,zf,zpi,zj,zm,zq,zk,zs,zn,zK,zM,zL,pU8,zpg,zph,zi,zg,zc,zh,ze,zA,zv,zr,zo,zJ,zI,zF,zG,zH,len8,zD,zC,zt,zu]
  rw [w64 (x:=(i:Int) + 1) (by omega)]
  have:=ih (i + 1) (zcS s (byt [l[i]])) (by omega)
  have e:byt [l[i]] = w8 l[i]:=by simp [byt]
  refine (show _ = _ from this).trans ?_
  rw [e,List.drop_eq_getElem_cons hil,XD,zja]
def off:Int:=14695981039346656037
theorem zod {l:List Int} (hl:l.length ≤ 17592186044416):ev 177 [.pv (.sl 1 (ws l))] [] = ok (U (zcS off (byt l))):=by
 rw [zbY,zbX]
 dsimp only [za,zb,zf,zpi,zj,zm,zq,zk,zs,zn,zK,zM,zL,pU8,zpg,zph,zi,zg,zc,zh,ze,zA,zv,zr,zo,zJ,zI,zF,zG,zH,len8,zD,zC,zt,zu]
 rw [ym,show (14695981039346656037:Int) = off from rfl]
 exact zhc hl l.length 0 off (by omega)
theorem zj3 (a c k:Nat):(a ^^^ c) % 2 ^ (k + 1) = (a ^^^ c) % 2 ^ k + (if a / 2 ^ k % 2 ≠ c / 2 ^ k % 2 then 2 ^ k else 0):=by
 rw [Nat.mod_pow_succ,Nat.xor_div_two_pow]
 have h0:(a / 2 ^ k ^^^ c / 2 ^ k) % 2 ^ 1 = (a / 2 ^ k) % 2 ^ 1 ^^^ (c / 2 ^ k) % 2 ^ 1:=Nat.xor_mod_two_pow
 rw [Nat.pow_one] at h0
 have h1:=Nat.mod_two_eq_zero_or_one (a / 2 ^ k)
 have h2:=Nat.mod_two_eq_zero_or_one (c / 2 ^ k)
 rw [h0]
 rcases h1 with h1 | h1 <;> rcases h2 with h2 | h2 <;> simp [h1,h2]
theorem zmn (s c:Nat) (hc:c < 256):s - s % 256 + (s % 256 ^^^ c) = s ^^^ c:=by
 have h1:(s ^^^ c) % 2 ^ 8 = (s % 2 ^ 8) ^^^ (c % 2 ^ 8):=Nat.xor_mod_two_pow
 have h2:(s ^^^ c) / 2 ^ 8 = s / 2 ^ 8 ^^^ c / 2 ^ 8:=Nat.xor_div_two_pow
 have e1:c % 2 ^ 8 = c:=Nat.mod_eq_of_lt hc
 have e2:c / 2 ^ 8 = 0:=Nat.div_eq_of_lt hc
 rw [e1] at h1
 rw [e2,Nat.xor_zero] at h2
 have h3:(2:Nat) ^ 8 = 256:=rfl
 rw [h3] at h1 h2
 omega
theorem znS (s c:Nat) (hs:s < 18446744073709551616) (hc:c < 256):(BitVec.ofInt 64 (s:Int) ^^^ BitVec.ofInt 64 (IntKind.wrap .u64 (c:Int))).toNat = s ^^^ c:=by
 have e1:∀ m:Nat,m < 18446744073709551616 → (BitVec.ofInt 64 (m:Int)).toNat = m:=fun m hm => by simp; omega
 rw [zcU (by omega),BitVec.toNat_xor,e1 s hs,e1 c (by omega)]
theorem zj4 (s c:Nat) (hs:s < 18446744073709551616) (hc:c < 256):s ^^^ c < 18446744073709551616:=Nat.xor_lt_two_pow (n:=64) hs (by omega)
theorem zk0 (s c:Nat) (hs:s < 18446744073709551616) (hc:c < 256):(IntKind.wrap .u64 ((IntKind.wrap .u64 ((IntKind.wrap .u64 ((IntKind.wrap .u64 ((IntKind.wrap .u64 ((s:Int) - ((s % 256:Nat):Int))) + ((s % 256 ^^^ c:Nat):Int))) * 1099511627776)) + (IntKind.wrap .u64 ((IntKind.wrap .u64 ((IntKind.wrap .u64 ((s:Int) - ((s % 256:Nat):Int))) + ((s % 256 ^^^ c:Nat):Int))) * 256)))) + (IntKind.wrap .u64 ((IntKind.wrap .u64 ((IntKind.wrap .u64 ((s:Int) - ((s % 256:Nat):Int))) + ((s % 256 ^^^ c:Nat):Int))) * 179)))) = stp s c:=by
 have h:=zmn s c hc
 have h2:=zj4 s c hs hc
 have hl:s % 256 ≤ s:=Nat.mod_le _ _
 have e1:IntKind.wrap .u64 ((s:Int) - ((s % 256:Nat):Int)) = ((s - s % 256:Nat):Int):=by rw [zcU (by omega)]; omega
 have e2:IntKind.wrap .u64 (((s - s % 256:Nat):Int) + ((s % 256 ^^^ c:Nat):Int)) = ((s ^^^ c:Nat):Int):=by
  rw [zcU (by omega)]; omega
 unfold stp
 rw [e1,e2,znS s c hs hc,zcU (x:=((s ^^^ c:Nat):Int)) (by omega)]
 generalize s ^^^ c = t at h2
 simp only [wrap64]
 omega
theorem zmR {l:List Int} {s c:Nat} (hs:s < 18446744073709551616) (hc:c < 256) (i:Int) (hi:0 ≤ i ∧ i ≤ 9000000000000000000):∀ (d k:Nat),k + d = 8 → xE s (bs l) i ((s % 256:Nat):Int) (((s % 256 ^^^ c) % 2 ^ k:Nat):Int) c k = xb (stp s c) (bs l) (i + 1):=by
 have hx:s % 256 ^^^ c < 256:=Nat.xor_lt_two_pow (n:=8) (by omega) (by omega)
 intro d
 induction d with
 | zero =>
  intro k hk
  obtain rfl:k = 8:=by omega
  rw [vX,show decide (((8:Nat):Int) < 8) = false from rfl,Nat.mod_eq_of_lt (show s % 256 ^^^ c < 2 ^ 8 from hx),zk0 s c hs hc,w64 (x:=i + 1) (by omega)]
  rfl
 | succ d ih =>
  intro k hk
  have hp:0 < 2 ^ k:=Nat.pow_pos (by decide)
  have hp2:2 ^ k ≤ 2 ^ 7:=Nat.pow_le_pow_right (by decide) (by omega)
  have hpow:=zoa k (by omega)
  have q:∀ a:Nat,a < 256 → Int.tmod (IntKind.wrap .u64 (Int.tdiv (a:Int) ((2 ^ k:Nat):Int))) 2 = ((a / 2 ^ k % 2:Nat):Int):=fun a ha => by
   have h1:Int.tdiv (a:Int) ((2 ^ k:Nat):Int) = ((a / 2 ^ k:Nat):Int):=by
    rw [Int.tdiv_eq_ediv_of_nonneg (by omega)]; exact (Int.natCast_ediv a (2 ^ k)).symm
   have h2:a / 2 ^ k ≤ a:=Nat.div_le_self _ _
   generalize a / 2 ^ k = z at h1 h2
   rw [h1,zcU (by omega),Int.tmod_eq_emod_of_nonneg (by omega)]
   omega
  have ok:wI .quo ((2 ^ k:Nat):Int) = true:=by
   have:((2 ^ k:Nat):Int) ≠ 0:=by omega
   simp only [wI]
   simpa using this
  have hm:(s % 256 ^^^ c) % 2 ^ k < 2 ^ k:=Nat.mod_lt _ hp
  have hn:=ih (k + 1) (by omega)
  rw [zj3] at hn
  rw [vX,decide_eq_true (show (k:Int) < 8 by omega),hpow]
  dsimp only [za,zb,zf,zpi,zj,zm,zq,zk,zs,zn,zK,zM,zL,pU8,zpg,zph,zi,zg,zc,zh,ze,zA,zv,zr,zo,zJ,zI,zF,zG,zH,len8,zD,zC,zt,zu]
  rw [ok]
  dsimp only [za,zb,zf,zpi,zj,zm,zq,zk,zs,zn,zK,zM,zL,pU8,zpg,zph,zi,zg,zc,zh,ze,zA,zv,zr,zo,zJ,zI,zF,zG,zH,len8,zD,zC,zt,zu]
  rw [q _ (Nat.mod_lt _ (by decide)),q c hc,w64 (x:=(k:Int) + 1) (by omega)]
  by_cases g:s % 256 / 2 ^ k % 2 = c / 2 ^ k % 2
  ·rw [if_neg (fun h => h g),Nat.add_zero] at hn
   rw [show (((s % 256 / 2 ^ k % 2:Nat):Int) != ((c / 2 ^ k % 2:Nat):Int)) = false from by rw [g]; simp]
   exact hn
  ·rw [if_pos g] at hn
   rw [bne_iff_ne.2 (show ((s % 256 / 2 ^ k % 2:Nat):Int) ≠ ((c / 2 ^ k % 2:Nat):Int) by omega)]
   dsimp only [za,zb,zf,zpi,zj,zm,zq,zk,zs,zn,zK,zM,zL,pU8,zpg,zph,zi,zg,zc,zh,ze,zA,zv,zr,zo,zJ,zI,zF,zG,zH,len8,zD,zC,zt,zu]
   rw [zcU (by omega)]
   exact hn
theorem ziJ {l:List Int} (hb:∀ b ∈ l,yq b) (hl:l.length ≤ 4611686018427387904):∀ (d i:Nat) (s:Int),xI s → i + d = l.length → xb s (bs l) i = ok (U (zcS s (l.drop i))):=by
 intro d
 induction d with
 | zero =>
  intro i s hs hi
  rw [vW,decide_eq_false (by rw [zV]; omega),List.drop_eq_nil_of_le (by omega)]
  rfl
 | succ d ih =>
  intro i s hs hi
  have hil:i < l.length:=by omega
  obtain ⟨b1,b2⟩:=hb _ (List.getElem_mem hil)
  obtain ⟨s1,s2⟩:=hs
  obtain ⟨n,hn⟩:=Int.eq_ofNat_of_zero_le s1
  obtain ⟨c,hc⟩:=Int.eq_ofNat_of_zero_le b1
  have h:=zmR (l:=l) (s:=n) (c:=c) (by omega) (by omega) (i:Int) (by omega) 8 0 rfl
  have hm:Int.tmod s 256 = ((n % 256:Nat):Int):=by rw [hn,Int.tmod_eq_emod_of_nonneg (by omega)]; omega
  rw [vW,decide_eq_true (show (i:Int) < ((bs l).length:Int) by rw [zV]; omega),decide_eq_true (show 0 ≤ (i:Int) by omega)]
  dsimp only [za,zb,zf,zpi,zj,zm,zq,zk,zs,zn,zK,zM,zL,pU8,zpg,zph,zi,zg,zc,zh,ze,zA,zv,zr,zo,zJ,zI,zF,zG,zH,len8,zD,zC,zt,zu]
  rw [Int.toNat_natCast,show (bs l)[i]? = some (U8 l[i]) by simp [bs,hil]]
  dsimp only [za,zb,zf,zpi,zj,zm,zq,zk,zs,zn,zK,zM,zL,pU8,zpg,zph,zi,zg,zc,zh,ze,zA,zv,zr,zo,zJ,zI,zF,zG,zH,len8,zD,zC,zt,zu]
  rw [hm,zcU (x:=l[i]) (by omega)]
  rw [Nat.pow_zero,Nat.mod_one] at h
  have hih:=ih (i + 1) (stp s l[i]) (zjK _ _) (by omega)
  rw [List.drop_eq_getElem_cons hil]
  rw [hn,hc] at hih ⊢
  exact (show _ = _ from h).trans hih
theorem zob {l:List Int} (hb:∀ b ∈ l,yq b) (hl:l.length ≤ 4611686018427387904):ev 42 [.pv (.sl 1 (bs l))] [] = ok (U (zcS off l)):=by
 have h:=ziJ hb hl l.length 0 off ⟨by decide,by decide⟩ (by omega)
 rw [List.drop_zero] at h
 have h':xb 14695981039346656037 (bs l) 0 = ok (U (zcS off l)):=h
 rw [Vt,Vs,h']
 rfl
theorem eqB_true {α:Type} {x y:α}:eqB x y = true ↔ x = y:=by
 by_cases h:x = y
 ·exact ⟨fun _ => h,fun _ => Ks h⟩
 ·exact ⟨fun e => by (rw [WU h] at e; cases e),fun e => absurd e h⟩
theorem zk3 (b:ByteArray):∀ (c i:Nat) (r:List UInt8),i + c = b.size → ByteArray.toList.loop b i r = r.reverse ++ b.data.toList.drop i:=by
 intro c
 induction c with
 | zero =>
  intro i r hi
  unfold ByteArray.toList.loop
  rw [if_neg (by omega),List.drop_of_length_le (by rw [Array.length_toList]; have:b.size = b.data.size:=rfl; omega),List.append_nil]
 | succ c ih =>
  intro i r hi
  have hib:i < b.data.size:=by show i < b.size; omega
  unfold ByteArray.toList.loop
  rw [if_pos (by omega),ih (i + 1) _ (by omega),List.reverse_cons,List.append_assoc]
  congr 1
  conv => rhs; rw [List.drop_eq_getElem_cons (by rw [Array.length_toList]; exact hib)]
  have:b.get! i = b.data[i]:=by
   show b.data[i]! = b.data[i]
   rw [getElem!_pos b.data i hib]
  rw [this,Array.getElem_toList]
  rfl
theorem zbA (b:ByteArray):b.toList = b.data.toList:=by
 unfold ByteArray.toList
 rw [zk3 b b.size 0 [] (by omega)]
 rfl
theorem zhZ {a b:List Int} (ha:∀ x ∈ a,yq x) (hb:∀ x ∈ b,yq x) (h:(strOfNums a).toList = (strOfNums b).toList):a = b:=by
 rw [zbA,zbA,strOfNums_data,strOfNums_data] at h
 have hl:a.length = b.length:=by have:=congrArg List.length h; simpa using this
 apply List.ext_getElem hl
 intro i h1 h2
 have e:=congrArg (fun l:List UInt8 => l[i]?) h
 simp only [List.getElem?_map,List.getElem?_eq_getElem h1,List.getElem?_eq_getElem h2,Option.map_some,Option.some.injEq] at e
 obtain ⟨p1,p2⟩:=ha _ (List.getElem_mem h1)
 obtain ⟨q1,q2⟩:=hb _ (List.getElem_mem h2)
 have:=congrArg UInt8.toNat e
 rw [UInt8.toNat_ofNat',UInt8.toNat_ofNat',Nat.mod_eq_of_lt (by omega),Nat.mod_eq_of_lt (by omega)] at this
 omega
theorem KK:∀ a:List Int,Wb (bs a) = some a
 | [] => rfl
 | x :: a => by
  show (Wb (bs a)).map (fun l => x :: l) = some (x :: a)
  rw [KK a]; rfl
theorem zga {a b:List Int} (ha:∀ x ∈ a,yq x) (hb:∀ x ∈ b,yq x):ev 212 [.pv (.sl 1 (bs a)),.pv (.sl 1 (bs b))] [] = ok (Bo (eqB a b)):=by
 rw [Jr,KK,zpi,KK,zpi]
 by_cases h:a = b
 ·rw [Ks h,beq_iff_eq.2 (by rw [h])]
 ·rw [WU h,beq_eq_false_iff_ne.2 (fun e => h (zhZ ha hb e))]
def ziZ (l:List (List Int)) (D:Nat) (m:Int) (o:Ob):Nd × Int × Int:=if o.kind = 1 then yG (den l D) l m o else Ju (den l D) l m o
def K1 (o:Ob):Prop:=o.kind = 1 → o.elem = 0 ∧ o.n = 0
theorem znj (l:List (List Int)) (s a:Int):K1 (obj l s a).1:=by
 have hb:∀ e,K1 (bad e).1:=fun e h => ⟨rfl,rfl⟩
 unfold obj zfU zfV zfT zdl
 repeat' split
 all_goals first
  | exact hb _
  | exact fun _ => ⟨rfl,rfl⟩
  | exact fun h => absurd h (show ¬ ((2:Int) = 1) by decide)
def Dn (l:List (List Int)) (D:Nat) (o:Ob) (n:Nd):Prop:=(o = ob0 ∧ n = nd0) ∨ ∃ D',D = D' + 1 ∧ zii l o ∧ Np o ∧ K1 o ∧ ∃ m,(ziZ l D' m o).2.2 = 0 ∧ (ziZ l D' m o).1 = n
theorem zd7 {l:List (List Int)} (hl:xZ l) (hs:Sm l) {D:Nat} {m s a:Int} (h:(den l D m s a).2.2 = 0):Dn l D (obj l s a).1 (den l D m s a).1:=by
 by_cases he:(fol l s a).2.2.2 = 0
 ·by_cases h0:(fol l s a).1 = 0
  ·rw [Km he h0]
   refine .inl ⟨?_,rfl⟩
   unfold obj
   rw [if_pos he,if_pos h0]
   rfl
  ·cases D with
   | zero => rw [zaE he h0] at h; exact absurd h (by show ¬ ((7:Int) = 0); decide)
   | succ D =>
    rw [zdb he h0] at h ⊢
    unfold zda at h ⊢
    by_cases hf:(obj l s a).2 = 0
    ·rw [if_pos hf] at h ⊢
     by_cases h8:(obj l s a).1.cost > m
     ·rw [if_pos h8] at h; exact absurd h (by show ¬ ((8:Int) = 0); decide)
     ·rw [if_neg h8] at h ⊢
      exact .inr ⟨D,rfl,J2 hl hs h0 he hf,zko hl hs h0 he hf,znj l s a,m - (obj l s a).1.cost,h,rfl⟩
    ·rw [if_neg hf] at h; exact absurd h hf
 ·rw [Vv he] at h; exact absurd h he
theorem zgZ {l:List (List Int)} {D:Nat} {o:Ob} {n:Nd} (h:Dn l D o n):n.kind = o.kind ∧ n.elem = o.elem ∧ n.n = o.n:=by
 rcases h with ⟨rfl,rfl⟩ | ⟨D',_,hok,_,hk1,m,hz,rfl⟩
 ·exact ⟨rfl,rfl,rfl⟩
 ·obtain ⟨_,_,_,_,_,_,hk,_⟩:=hok
  unfold ziZ at hz ⊢
  by_cases h1:o.kind = 1
  ·rw [if_pos h1] at hz ⊢
   have hz':(yB (fun m (i:Nat) => den l D' m o.seg (o.at_ + o.data + i)) o.ptrs.toNat 0 m []).2.2 = 0:=hz
   unfold yG
   rw [wi hz']
   exact ⟨h1.symm,(hk1 h1).1.symm,(hk1 h1).2.symm⟩
  ·rw [if_neg h1] at hz ⊢
   have h2:o.kind = 2:=by omega
   unfold Ju at hz ⊢
   by_cases h6:o.elem < 6
   ·rw [if_pos h6]; exact ⟨h2.symm,rfl,rfl⟩
   ·rw [if_neg h6] at hz ⊢
    have hz':(yB (fun m (i:Nat) => if o.elem = 6 then den l D' m o.seg (o.at_ + i) else yG (den l D') l m (elt o i)) o.n.toNat 0 m []).2.2 = 0:=hz
    rw [wi hz']
    exact ⟨h2.symm,rfl,rfl⟩
def zfS (l:List (List Int)) (o:Ob) (i:Nat):Ob:=if (i:Int) ≥ zds o then ob0 else (obj l o.seg (Vh o + i)).1
theorem zaf {l:List (List Int)} (hl:xZ l) (hs:Sm l) {D:Nat} {m:Int} {o:Ob} (hk:o.kind = 1) (hq:0 ≤ o.ptrs) (h:(yG (den l D) l m o).2.2 = 0):∃ ks,(yG (den l D) l m o).1 = .mk 1 0 0 (byt (cutB l o.seg o.at_ o.data)) ks ∧ ks.length = o.ptrs.toNat ∧ ∀ i,Dn l D (zfS l o i) (ks.getD i nd0):=by
 have hz:(yB (fun m (i:Nat) => den l D m o.seg (o.at_ + o.data + i)) o.ptrs.toNat 0 m []).2.2 = 0:=h
 obtain ⟨ks,e1,e2,e3⟩:=zes (G:=fun m (i:Nat) => den l D m o.seg (o.at_ + o.data + i)) o.ptrs.toNat 0 m [] hz
 refine ⟨ks,?_,e2,fun i => ?_⟩
 ·unfold yG
  rw [wi hz]
  dsimp only
  rw [e1,List.nil_append]
 ·have hN:zds o = o.ptrs:=by
   unfold zds
   by_cases h0:0 < o.ptrs
   ·rw [if_pos ⟨hk,h0⟩]
   ·rw [if_neg (fun x => h0 x.2),if_neg (fun x => absurd x.1 (by omega))]; omega
  unfold zfS
  rw [hN]
  by_cases hi:(i:Int) ≥ o.ptrs
  ·rw [if_pos hi,List.getD_eq_getElem?_getD,List.getElem?_eq_none (by omega)]
   exact .inl ⟨rfl,rfl⟩
  ·rw [if_neg hi]
   have hik:i < ks.length:=by omega
   obtain ⟨m1,f1,f2⟩:=e3 i hik
   rw [List.getD_eq_getElem?_getD,List.getElem?_eq_getElem hik,Option.getD_some,← f2,Nat.zero_add]
   rw [Nat.zero_add] at f1
   have hA:Vh o = o.at_ + o.data:=by unfold Vh; rw [if_pos ⟨hk,by omega⟩]
   rw [hA]
   exact zd7 hl hs f1
abbrev zhy (la lb:List (List Int)):AV:=.pv (.agg [.sl 1 (sgs la),.sl 1 (sgs lb)])
theorem zdR {l:List (List Int)} (hl:xZ l) (hs:Sm l) {o:Ob} (hat:0 ≤ o.at_ ∧ o.at_ ≤ 1125899906842624) (hdt:0 ≤ o.data ∧ o.data ≤ 65535) (hA:0 ≤ Vh o ∧ Vh o ≤ 2251799813685248) {i:Nat} (hi:i ≤ 1073741824):ev 239 [.pv (.sl 1 (sgs l)),.pv (.agg o.c),.pv (I i)] [] = ok (.agg (zfS l o i).c):=by
 have hp:=JM o (by omega)
 rw [Ob.c] at hp ⊢
 rw [Kt,hp]
 dsimp only [za,zb,zf,zpi,zj,zm,zq,zk,zs,zn,zK,zM,zL,pU8,zpg,zph,zi,zg,zc,zh,ze,zA,zv,zr,zo,zJ,zI,zF,zG,zH,len8,zD,zC,zt,zu]
 unfold zfS
 by_cases h:(i:Int) ≥ zds o
 ·rw [decide_eq_true h,if_pos h]; rfl
 ·rw [decide_eq_false h,if_neg h,w64 (x:=Vh o + i) (by omega),zan hl hs]
  rfl
theorem QC {l:List (List Int)} (hl:xZ l) (o:Ob) {n:Int} (hn:n ≤ 17592186044416):ev 236 [.pv (.sl 1 (sgs l)),.pv (.agg o.c),.pv (I n)] [] = ok (.sl 1 (ws (cutB l o.seg o.at_ n))):=by
 rw [Ob.c,Jv,zdL hl _ _ _ hn]
 rfl
theorem zjv {la lb:List (List Int)} {x y:Ob} {q:Nat} (hq:q ≤ 1073741824) (f:Nat → Bool)
  (hx:∀ i,i < q → ev 239 [.pv (.sl 1 (sgs la)),.pv (.agg x.c),.pv (I i)] [] = ok (.agg (zfS la x i).c)) (hy:∀ i,i < q → ev 239 [.pv (.sl 1 (sgs lb)),.pv (.agg y.c),.pv (I i)] [] = ok (.agg (zfS lb y i).c))
  (hf:∀ i,i < q → ev 111 [zhy la lb,.pv (.agg (zfS la x i).c),.pv (.agg (zfS lb y i).c)] [] = ok (Bo (f i))):∀ (c i:Nat),i + c = q → (∀ j,j < i → f j = true) →
  xm q i (sgs la) (sgs lb) x.kind x.seg x.at_ x.data x.ptrs x.elem x.n x.cost y.kind y.seg y.at_ y.data y.ptrs y.elem y.n y.cost = ok (Bo ((List.range q).all f)):=by
 intro c
 induction c with
 | zero =>
  intro i hi hj
  rw [wC,decide_eq_false (by omega),List.all_eq_true.2 (fun j h => hj j (by have:=List.mem_range.1 h; omega))]
  rfl
 | succ c ih =>
  intro i hi hj
  have e1:=hx i (by omega)
  have e2:=hy i (by omega)
  have e3:=hf i (by omega)
  rw [Ob.c] at e1 e2
  rw [wC,decide_eq_true (by omega),e1]
  dsimp only [za,zb,zf,zpi,zj,zm,zq,zk,zs,zn,zK,zM,zL,pU8,zpg,zph,zi,zg,zc,zh,ze,zA,zv,zr,zo,zJ,zI,zF,zG,zH,len8,zD,zC,zt,zu]
  rw [e2]
  dsimp only [za,zb,zf,zpi,zj,zm,zq,zk,zs,zn,zK,zM,zL,pU8,zpg,zph,zi,zg,zc,zh,ze,zA,zv,zr,zo,zJ,zI,zF,zG,zH,len8,zD,zC,zt,zu]
  rw [e3]
  dsimp only [za,zb,zf,zpi,zj,zm,zq,zk,zs,zn,zK,zM,zL,pU8,zpg,zph,zi,zg,zc,zh,ze,zA,zv,zr,zo,zJ,zI,zF,zG,zH,len8,zD,zC,zt,zu]
  cases hfi:f i with
  | true =>
   dsimp only [za,zb,zf,zpi,zj,zm,zq,zk,zs,zn,zK,zM,zL,pU8,zpg,zph,zi,zg,zc,zh,ze,zA,zv,zr,zo,zJ,zI,zF,zG,zH,len8,zD,zC,zt,zu]
   rw [w64 (x:=(i:Int) + 1) (by omega)]
   exact ih (i + 1) (by omega) fun j h => by
    rcases Nat.lt_or_ge j i with h1 | h1
    ·exact hj j h1
    ·rw [show j = i by omega]; exact hfi
  | false =>
   rw [show (List.range q).all f = false from by
    rw [Bool.eq_false_iff]
    intro h
    have:=List.all_eq_true.1 h i (List.mem_range.2 (by omega))
    rw [hfi] at this; cases this]
   rfl
theorem getD_map (l:List Nd) (i:Nat):(l.map zU).getD i nd0 = zU (l.getD i nd0):=by
 simp only [List.getD_eq_getElem?_getD,List.getElem?_map]
 cases l[i]? with
 | none => rfl
 | some x => rfl
theorem zmU {p q:Bool} (h:p = true ↔ q = true):p = q:=Bool.eq_iff_iff.2 h
def zbo (la lb:List (List Int)) (D:Nat):Prop:=∀ x y nx ny,Dn la D x nx → Dn lb D y ny → ev 111 [zhy la lb,.pv (.agg x.c),.pv (.agg y.c)] [] = ok (Bo (eqB (zU nx) (zU ny)))
def Wi (o:Ob):Prop:=(0 ≤ o.at_ ∧ o.at_ ≤ 1125899906842624) ∧ (0 ≤ o.data ∧ o.data ≤ 65535) ∧ (0 ≤ o.ptrs ∧ o.ptrs ≤ 65535)
theorem zkC {o:Ob} (h:Wi o) (hk:o.kind = 1):0 ≤ Vh o ∧ Vh o ≤ 2251799813685248:=by
 obtain ⟨h1,h2,h3⟩:=h
 unfold Vh
 split
 ·omega
 ·rw [if_neg (fun x => absurd x.1 (by omega))]; omega
theorem zmH {la lb:List (List Int)} (hla:xZ la) (hsa:Sm la) (hlb:xZ lb) (hsb:Sm lb) {D:Nat} (ih:zbo la lb D) {x y:Ob} (hx1:0 ≤ x.at_ ∧ x.at_ ≤ 1125899906842624) (hx2:0 ≤ x.data ∧ x.data ≤ 65535) (hx3:0 ≤ Vh x ∧ Vh x ≤ 2251799813685248) (hy1:0 ≤ y.at_ ∧ y.at_ ≤ 1125899906842624) (hy2:0 ≤ y.data ∧ y.data ≤ 65535) (hy3:0 ≤ Vh y ∧ Vh y ≤ 2251799813685248) {q:Nat} (hq:q ≤ 1073741824) {kx ky:List Nd}
  (dx:∀ i,i < q → Dn la D (zfS la x i) (kx.getD i nd0)) (dy:∀ i,i < q → Dn lb D (zfS lb y i) (ky.getD i nd0)):ev 183 [zhy la lb,.pv (.agg x.c),.pv (.agg y.c),.pv (I q)] [] = ok (Bo ((List.range q).all fun i => eqB (zU (kx.getD i nd0)) (zU (ky.getD i nd0)))):=by
 have:=zjv (la:=la) (lb:=lb) (x:=x) (y:=y) hq (fun i => eqB (zU (kx.getD i nd0)) (zU (ky.getD i nd0))) (fun i hi => zdR hla hsa hx1 hx2 hx3 (by omega)) (fun i hi => zdR hlb hsb hy1 hy2 hy3 (by omega)) (fun i hi => ih _ _ _ _ (dx i hi) (dy i hi)) q 0 (by omega) (fun j h => absurd h (by omega))
 rw [Ob.c,Ob.c,Y5]
 exact this
theorem zgA {q:Nat} {kx ky:List Nd}:((List.range q).all fun i => eqB (zU (kx.getD i nd0)) (zU (ky.getD i nd0))) = true ↔ ∀ i,i < q → (kx.map zU).getD i nd0 = (ky.map zU).getD i nd0:=by
 rw [List.all_eq_true]
 constructor
 ·intro h i hi
  rw [getD_map,getD_map]
  exact eqB_true.1 (h i (List.mem_range.2 hi))
 ·intro h i hi
  have:=h i (List.mem_range.1 hi)
  rw [getD_map,getD_map] at this
  exact eqB_true.2 this
theorem zmf {k e n:Int} {d:List Int} {ks:List Nd} (h:VN (.mk k e n d ks)):∀ y ∈ ks,VN y:=by
 cases h with
 | mk v1 v2 v3 => exact v1
theorem Jc (d:List Int) (ks:List Nd):zU (.mk 1 0 0 d ks) = .mk 1 0 0 (d.take (8 * yz d)) ((ks.map zU).take (xq (ks.map zU))):=by
 rw [zU,if_pos rfl,yw]
 have:=KR ks
 rw [yw] at this
 rw [this]
theorem zia {k e n:Int} {d:List Int} {ks:List Nd} (h:VN (.mk k e n d ks)):∀ y ∈ ks,VN y:=(zmf h)
theorem zbw {la lb:List (List Int)} (hla:xZ la) (hsa:Sm la) (hlb:xZ lb) (hsb:Sm lb) {D:Nat} (ih:zbo la lb D) {x y:Ob} (hx:Wi x) (hy:Wi y) (kx:x.kind = 1) (ky:y.kind = 1) {m m':Int} (zx:(yG (den la D) la m x).2.2 = 0) (zy:(yG (den lb D) lb m' y).2.2 = 0):ev 181 [zhy la lb,.pv (.agg x.c),.pv (.agg y.c)] [] = ok (Bo (eqB (zU (yG (den la D) la m x).1) (zU (yG (den lb D) lb m' y).1))):=by
 obtain ⟨cx,e1,e2,e3⟩:=zaf hla hsa kx hx.2.2.1 zx
 obtain ⟨cy,f1,f2,f3⟩:=zaf hlb hsb ky hy.2.2.1 zy
 have vx:=(Vd (zaF hla hsa D) la m hx.2.1.2 hx.2.2 zx).1
 have vy:=(Vd (zaF hlb hsb D) lb m' hy.2.1.2 hy.2.2 zy).1
 rw [e1] at vx ⊢
 rw [f1] at vy ⊢
 have px:=zmH (D:=D) hla hsa hlb hsb ih (x:=x) (y:=y) hx.1 hx.2.1 (zkC hx kx) hy.1 hy.2.1 (zkC hy ky) (q:=max cx.length cy.length) (by obtain ⟨_,_,a⟩:=hx; obtain ⟨_,_,b⟩:=hy; omega) (kx:=cx) (ky:=cy) (fun i _ => e3 i) (fun i _ => f3 i)
 have hq:(if y.ptrs > x.ptrs then y.ptrs else x.ptrs) = ((max cx.length cy.length:Nat):Int):=by
  obtain ⟨_,_,a⟩:=hx
  obtain ⟨_,_,b⟩:=hy
  split <;> omega
 have wx:=QC hla x (n:=x.data) (by obtain ⟨_,a,_⟩:=hx; omega)
 have wy:=QC hlb y (n:=y.data) (by obtain ⟨_,a,_⟩:=hy; omega)
 have lx:=Zf la x.seg x.at_ x.data
 have ly:=Zf lb y.seg y.at_ y.data
 have dd:=zmz (a:=cutB la x.seg x.at_ x.data) (b:=cutB lb y.seg y.at_ y.data) (by obtain ⟨_,a,_⟩:=hx; omega) (by obtain ⟨_,a,_⟩:=hy; omega)
 have hwx:=(JS hla x.seg x.at_ x.data).2
 have hwy:=(JS hlb y.seg y.at_ y.data).2
 rw [Jc,Jc,zeY hwx,zeY hwy]
 generalize cutB la x.seg x.at_ x.data = ux at *
 generalize cutB lb y.seg y.at_ y.data = uy at *
 have kxv:∀ z ∈ cx.map zU,VN z:=fun z hz => by
  obtain ⟨u,hu,rfl⟩:=List.mem_map.1 hz
  exact Jh u ((zia vx) u hu)
 have kyv:∀ z ∈ cy.map zU,VN z:=fun z hz => by
  obtain ⟨u,hu,rfl⟩:=List.mem_map.1 hz
  exact Jh u ((zia vy) u hu)
 have hcut:=ziV kxv kyv (q:=max cx.length cy.length) (by rw [List.length_map]; omega) (by rw [List.length_map]; omega)
 rw [Ob.c] at wx wy px
 rw [Ob.c] at px
 rw [Ob.c,Ob.c,Xg,wx]
 dsimp only [za,zb,zf,zpi,zj,zm,zq,zk,zs,zn,zK,zM,zL,pU8,zpg,zph,zi,zg,zc,zh,ze,zA,zv,zr,zo,zJ,zI,zF,zG,zH,len8,zD,zC,zt,zu]
 rw [wy]
 dsimp only [za,zb,zf,zpi,zj,zm,zq,zk,zs,zn,zK,zM,zL,pU8,zpg,zph,zi,zg,zc,zh,ze,zA,zv,zr,zo,zJ,zI,zF,zG,zH,len8,zD,zC,zt,zu]
 rw [dd,hq]
 dsimp only [za,zb,zf,zpi,zj,zm,zq,zk,zs,zn,zK,zM,zL,pU8,zpg,zph,zi,zg,zc,zh,ze,zA,zv,zr,zo,zJ,zI,zF,zG,zH,len8,zD,zC,zt,zu]
 by_cases hd:Jt ux = Jt uy
 ·rw [Ks hd]
  dsimp only [za,zb,zf,zpi,zj,zm,zq,zk,zs,zn,zK,zM,zL,pU8,zpg,zph,zi,zg,zc,zh,ze,zA,zv,zr,zo,zJ,zI,zF,zG,zH,len8,zD,zC,zt,zu]
  rw [px]
  dsimp only [za,zb,zf,zpi,zj,zm,zq,zk,zs,zn,zK,zM,zL,pU8,zpg,zph,zi,zg,zc,zh,ze,zA,zv,zr,zo,zJ,zI,zF,zG,zH,len8,zD,zC,zt,zu]
  refine congrArg (fun b => ok (Bo b)) (zmU ?_)
  rw [zgA,eqB_true,← hcut,hd]
  simp
 ·have hne:¬ (Nd.mk 1 0 0 (byt (Jt ux)) ((cx.map zU).take (xq (cx.map zU))) = Nd.mk 1 0 0 (byt (Jt uy)) ((cy.map zU).take (xq (cy.map zU)))):=fun h => hd (zgI (fun z hz => hwx z (List.mem_of_mem_take hz)) (fun z hz => hwy z (List.mem_of_mem_take hz)) (by injection h))
  rw [WU hd,WU hne]
  rfl
theorem zgR {la lb:List (List Int)} {x y:Ob} {q:Nat} (hq:q ≤ 536870911) (f:Nat → Bool)
  (hx:∀ i:Nat,i < q → ev 238 [.pv (.agg x.c),.pv (I i)] [] = ok (.agg (elt x i).c)) (hy:∀ i:Nat,i < q → ev 238 [.pv (.agg y.c),.pv (I i)] [] = ok (.agg (elt y i).c))
  (hf:∀ i:Nat,i < q → ev 181 [zhy la lb,.pv (.agg (elt x i).c),.pv (.agg (elt y i).c)] [] = ok (Bo (f i))):∀ (c i:Nat),i + c = q → (∀ j,j < i → f j = true) →
  yu q i (sgs la) (sgs lb) x.kind x.seg x.at_ x.data x.ptrs x.elem x.n x.cost y.kind y.seg y.at_ y.data y.ptrs y.elem y.n y.cost = ok (Bo ((List.range q).all f)):=by
 intro c
 induction c with
 | zero =>
  intro i hi hj
  rw [wb,decide_eq_false (by omega),List.all_eq_true.2 (fun j h => hj j (by have:=List.mem_range.1 h; omega))]
  rfl
 | succ c ih =>
  intro i hi hj
  have e1:=hx i (by omega)
  have e2:=hy i (by omega)
  have e3:=hf i (by omega)
  rw [Ob.c] at e1 e2
  rw [wb,decide_eq_true (by omega),e1]
  dsimp only [za,zb,zf,zpi,zj,zm,zq,zk,zs,zn,zK,zM,zL,pU8,zpg,zph,zi,zg,zc,zh,ze,zA,zv,zr,zo,zJ,zI,zF,zG,zH,len8,zD,zC,zt,zu]
  rw [e2]
  dsimp only [za,zb,zf,zpi,zj,zm,zq,zk,zs,zn,zK,zM,zL,pU8,zpg,zph,zi,zg,zc,zh,ze,zA,zv,zr,zo,zJ,zI,zF,zG,zH,len8,zD,zC,zt,zu]
  rw [e3]
  dsimp only [za,zb,zf,zpi,zj,zm,zq,zk,zs,zn,zK,zM,zL,pU8,zpg,zph,zi,zg,zc,zh,ze,zA,zv,zr,zo,zJ,zI,zF,zG,zH,len8,zD,zC,zt,zu]
  cases hfi:f i with
  | true =>
   dsimp only [za,zb,zf,zpi,zj,zm,zq,zk,zs,zn,zK,zM,zL,pU8,zpg,zph,zi,zg,zc,zh,ze,zA,zv,zr,zo,zJ,zI,zF,zG,zH,len8,zD,zC,zt,zu]
   rw [w64 (x:=(i:Int) + 1) (by omega)]
   exact ih (i + 1) (by omega) fun j h => by
    rcases Nat.lt_or_ge j i with h1 | h1
    ·exact hj j h1
    ·rw [show j = i by omega]; exact hfi
  | false =>
   rw [show (List.range q).all f = false from by
    rw [Bool.eq_false_iff]
    intro h
    have:=List.all_eq_true.1 h i (List.mem_range.2 (by omega))
    rw [hfi] at this; cases this]
   rfl
theorem zcb {l:List (List Int)} {D:Nat} {m:Int} {o:Ob} (h6:¬ o.elem < 6) (h:(Ju (den l D) l m o).2.2 = 0):∃ ks,(Ju (den l D) l m o).1 = .mk 2 o.elem o.n [] ks ∧ ks.length = o.n.toNat ∧ ∀ (j:Nat) (hj:j < ks.length),∃ m1,(if o.elem = 6 then den l D m1 o.seg (o.at_ + j) else yG (den l D) l m1 (elt o j)).2.2 = 0 ∧ (if o.elem = 6 then den l D m1 o.seg (o.at_ + j) else yG (den l D) l m1 (elt o j)).1 = ks[j]:=by
 unfold Ju at h ⊢
 rw [if_neg h6] at h ⊢
 have hz:(yB (fun m (i:Nat) => if o.elem = 6 then den l D m o.seg (o.at_ + i) else yG (den l D) l m (elt o i)) o.n.toNat 0 m []).2.2 = 0:=h
 obtain ⟨ks,e1,e2,e3⟩:=zes (G:=fun m (i:Nat) => if o.elem = 6 then den l D m o.seg (o.at_ + i) else yG (den l D) l m (elt o i)) o.n.toNat 0 m [] hz
 refine ⟨ks,?_,e2,fun j hj => ?_⟩
 ·rw [wi hz]
  dsimp only
  rw [e1,List.nil_append]
 ·have:=e3 j hj
  rw [Nat.zero_add] at this
  exact this
theorem Vg {k e n:Int} (hk:k = 2) (d:List Int) (ks:List Nd):zU (.mk k e n d ks) = .mk k e n d (ks.map zU):=by
 rw [zU,if_neg (by omega),yw]
theorem zlq {a b:List Nd} {q:Nat} (ha:a.length = q) (hb:b.length = q):a = b ↔ ∀ i,i < q → a.getD i nd0 = b.getD i nd0:=by
 constructor
 ·intro h i _; rw [h]
 ·intro h
  apply List.ext_getElem (by omega)
  intro i h1 h2
  have:=h i (by omega)
  simp only [List.getD_eq_getElem?_getD,List.getElem?_eq_getElem h1,List.getElem?_eq_getElem h2,Option.getD_some] at this
  exact this
theorem zh2 (x:Nd):(zU x).n = x.n:=by
 cases x with
 | mk k e n d ks => rw [zU]; split <;> rfl
theorem zju {o:Ob} (hk:o.kind = 2) (h7:o.elem = 6):(0 < o.n → Vh o = o.at_ ∧ zds o = o.n) ∧ (Vh o = o.at_ ∨ Vh o = 0):=by
 have hA:Vh o = if 0 < o.n then o.at_ else 0:=by
  unfold Vh
  rw [if_neg (fun x => absurd x.1 (by omega))]
  by_cases h:0 < o.n
  ·rw [if_pos ⟨hk,h7,h⟩,if_pos h]
  ·rw [if_neg (fun x => h x.2.2),if_neg h]
 have hN:zds o = if 0 < o.n then o.n else 0:=by
  unfold zds
  rw [if_neg (fun x => absurd x.1 (by omega))]
  by_cases h:0 < o.n
  ·rw [if_pos ⟨hk,h7,h⟩,if_pos h]
  ·rw [if_neg (fun x => h x.2.2),if_neg h]
 rw [hA,hN]
 by_cases h:0 < o.n
 ·rw [if_pos h,if_pos h]; exact ⟨fun _ => ⟨rfl,rfl⟩,.inl rfl⟩
 ·rw [if_neg h]; exact ⟨fun h' => absurd h' h,.inr rfl⟩
theorem zlY {la lb:List (List Int)} (hla:xZ la) (hsa:Sm la) (hlb:xZ lb) (hsb:Sm lb):∀ D,zbo la lb D:=by
 have main:∀ D,(∀ D',D = D' + 1 → zbo la lb D') → zbo la lb D:=by
  intro D ih x y nx ny dx dy
  obtain ⟨a1,a2,a3⟩:=zgZ dx
  obtain ⟨b1,b2,b3⟩:=zgZ dy
  rw [Ob.c,Ob.c,WV]
  by_cases hk:x.kind = y.kind
  ·by_cases he:x.elem = y.elem
   ·by_cases hn:x.n = y.n
    ·rw [show (x.kind != y.kind) = false from by simpa using hk,show (x.elem != y.elem) = false from by simpa using he,show (x.n != y.n) = false from by simpa using hn]
     dsimp only [za,zb,zf,zpi,zj,zm,zq,zk,zs,zn,zK,zM,zL,pU8,zpg,zph,zi,zg,zc,zh,ze,zA,zv,zr,zo,zJ,zI,zF,zG,zH,len8,zD,zC,zt,zu]
     by_cases h0:x.kind = 0
     ·rw [beq_iff_eq.2 h0]
      have nul:∀ {l:List (List Int)} {o:Ob} {n:Nd},Dn l D o n → o.kind = 0 → n = nd0:=fun {l o n} h hk0 => by
       rcases h with ⟨_,h⟩ | ⟨D',_,hok,_⟩
       ·exact h
       ·obtain ⟨_,_,_,_,_,_,hkk,_⟩:=hok; omega
      rw [nul dx h0,nul dy (by omega),Ks rfl]
      rfl
     ·rw [beq_eq_false_iff_ne.2 h0]
      rcases dx with ⟨rfl,_⟩ | ⟨D',hD,okx,npx,_,m,zx,rfl⟩
      ·exact absurd rfl h0
      rcases dy with ⟨rfl,_⟩ | ⟨D'',hD',oky,npy,_,m',zy,rfl⟩
      ·exact absurd hk h0
      obtain rfl:D' = D'':=by omega
      have ih':=ih D' hD
      obtain ⟨hat,hdt,hq,hel,hnn,hc,hkk,hw,hz⟩:=id okx
      obtain ⟨hat',hdt',hq',hel',hnn',hc',hkk',hw',hz'⟩:=id oky
      unfold ziZ at zx zy ⊢
      dsimp only [za,zb,zf,zpi,zj,zm,zq,zk,zs,zn,zK,zM,zL,pU8,zpg,zph,zi,zg,zc,zh,ze,zA,zv,zr,zo,zJ,zI,zF,zG,zH,len8,zD,zC,zt,zu]
      by_cases h1:x.kind = 1
      ·rw [beq_iff_eq.2 h1]
       rw [if_pos h1] at zx ⊢
       rw [if_pos (show y.kind = 1 by omega)] at zy ⊢
       have:=zbw hla hsa hlb hsb ih' (x:=x) (y:=y) ⟨⟨hat.1,by omega⟩,hdt,hq⟩ ⟨⟨hat'.1,by omega⟩,hdt',hq'⟩ h1 (by omega) zx zy
       rw [Ob.c,Ob.c] at this
       dsimp only [za,zb,zf,zpi,zj,zm,zq,zk,zs,zn,zK,zM,zL,pU8,zpg,zph,zi,zg,zc,zh,ze,zA,zv,zr,zo,zJ,zI,zF,zG,zH,len8,zD,zC,zt,zu]
       rw [this]
       rfl
      ·rw [beq_eq_false_iff_ne.2 h1]
       rw [if_neg h1] at zx ⊢
       rw [if_neg (show ¬ y.kind = 1 by omega)] at zy ⊢
       dsimp only [za,zb,zf,zpi,zj,zm,zq,zk,zs,zn,zK,zM,zL,pU8,zpg,zph,zi,zg,zc,zh,ze,zA,zv,zr,zo,zJ,zI,zF,zG,zH,len8,zD,zC,zt,zu]
       by_cases h6:x.elem < 6
       ·rw [beq_eq_false_iff_ne.2 (show x.elem ≠ 7 by omega),beq_eq_false_iff_ne.2 (show x.elem ≠ 6 by omega)]
        dsimp only [za,zb,zf,zpi,zj,zm,zq,zk,zs,zn,zK,zM,zL,pU8,zpg,zph,zi,zg,zc,zh,ze,zA,zv,zr,zo,zJ,zI,zF,zG,zH,len8,zD,zC,zt,zu]
        have h6':y.elem < 6:=by omega
        unfold Ju
        rw [if_pos h6,if_pos h6']
        dsimp only
        have wx:=QC hla x (n:=x.cost) (by omega)
        have wy:=QC hlb y (n:=y.cost) (by omega)
        have lx:=Zf la x.seg x.at_ x.cost
        have ly:=Zf lb y.seg y.at_ y.cost
        have rx:=XE hnn (hw (by omega) h6) h6
        have ry:=XE hnn' (hw' (by omega) h6') h6'
        rw [Vg rfl,Vg rfl]
        rw [Ob.c] at wx wy
        rw [WB,wx]
        dsimp only [za,zb,zf,zpi,zj,zm,zq,zk,zs,zn,zK,zM,zL,pU8,zpg,zph,zi,zg,zc,zh,ze,zA,zv,zr,zo,zJ,zI,zF,zG,zH,len8,zD,zC,zt,zu]
        rw [Wj _ (by omega)]
        dsimp only [za,zb,zf,zpi,zj,zm,zq,zk,zs,zn,zK,zM,zL,pU8,zpg,zph,zi,zg,zc,zh,ze,zA,zv,zr,zo,zJ,zI,zF,zG,zH,len8,zD,zC,zt,zu]
        rw [zf6 hel hnn (Zd _) rx]
        dsimp only [za,zb,zf,zpi,zj,zm,zq,zk,zs,zn,zK,zM,zL,pU8,zpg,zph,zi,zg,zc,zh,ze,zA,zv,zr,zo,zJ,zI,zF,zG,zH,len8,zD,zC,zt,zu]
        rw [yO]
        dsimp only [za,zb,zf,zpi,zj,zm,zq,zk,zs,zn,zK,zM,zL,pU8,zpg,zph,zi,zg,zc,zh,ze,zA,zv,zr,zo,zJ,zI,zF,zG,zH,len8,zD,zC,zt,zu]
        rw [wy]
        dsimp only [za,zb,zf,zpi,zj,zm,zq,zk,zs,zn,zK,zM,zL,pU8,zpg,zph,zi,zg,zc,zh,ze,zA,zv,zr,zo,zJ,zI,zF,zG,zH,len8,zD,zC,zt,zu]
        rw [Wj _ (by omega)]
        dsimp only [za,zb,zf,zpi,zj,zm,zq,zk,zs,zn,zK,zM,zL,pU8,zpg,zph,zi,zg,zc,zh,ze,zA,zv,zr,zo,zJ,zI,zF,zG,zH,len8,zD,zC,zt,zu]
        rw [zf6 hel' hnn' (Zd _) ry]
        dsimp only [za,zb,zf,zpi,zj,zm,zq,zk,zs,zn,zK,zM,zL,pU8,zpg,zph,zi,zg,zc,zh,ze,zA,zv,zr,zo,zJ,zI,zF,zG,zH,len8,zD,zC,zt,zu]
        rw [yO]
        dsimp only [za,zb,zf,zpi,zj,zm,zq,zk,zs,zn,zK,zM,zL,pU8,zpg,zph,zi,zg,zc,zh,ze,zA,zv,zr,zo,zJ,zI,zF,zG,zH,len8,zD,zC,zt,zu]
        rw [zga (VT _ _ _ (Zd _)) (VT _ _ _ (Zd _))]
        dsimp only [za,zb,zf,zpi,zj,zm,zq,zk,zs,zn,zK,zM,zL,pU8,zpg,zph,zi,zg,zc,zh,ze,zA,zv,zr,zo,zJ,zI,zF,zG,zH,len8,zD,zC,zt,zu]
        refine congrArg (fun b => ok (Bo b)) (zdd ?_)
        rw [he,hn]
        simp
       ·obtain ⟨cx,e1,e2,e3⟩:=zcb h6 zx
        obtain ⟨cy,f1,f2,f3⟩:=zcb (show ¬ y.elem < 6 by omega) zy
        rw [e1,f1,Vg rfl,Vg rfl]
        have hlen:cx.length = cy.length:=by omega
        have hxn:x.n = ((cx.length:Nat):Int):=by omega
        have fin:eqB (cx.map zU) (cy.map zU) = eqB (Nd.mk 2 x.elem x.n [] (cx.map zU)) (Nd.mk 2 y.elem y.n [] (cy.map zU)):=zdd (by rw [he,hn]; simp)
        have getx:∀ i,(h:i < cx.length) → cx.getD i nd0 = cx[i]:=fun i h => by rw [List.getD_eq_getElem?_getD,List.getElem?_eq_getElem h,Option.getD_some]
        have gety:∀ i,(h:i < cy.length) → cy.getD i nd0 = cy[i]:=fun i h => by rw [List.getD_eq_getElem?_getD,List.getElem?_eq_getElem h,Option.getD_some]
        have res:∀ {e:Option (Out × z6)},e = ok (Bo ((List.range cx.length).all fun i => eqB (zU (cx.getD i nd0)) (zU (cy.getD i nd0)))) → e = ok (Bo (eqB (cx.map zU) (cy.map zU))):=fun {e} h => by
         rw [h]
         refine congrArg (fun b => ok (Bo b)) (zmU ?_)
         rw [zgA,eqB_true,zlq (q:=cx.length) (by simp) (by simp; omega)]
        rw [← fin]
        by_cases h7:x.elem = 7
        ·rw [beq_iff_eq.2 h7]
         dsimp only [za,zb,zf,zpi,zj,zm,zq,zk,zs,zn,zK,zM,zL,pU8,zpg,zph,zi,zg,zc,zh,ze,zA,zv,zr,zo,zJ,zI,zF,zG,zH,len8,zD,zC,zt,zu]
         have mul:∀ (o:Ob) (i:Nat),zii la o ∨ zii lb o → i < cx.length → 0 ≤ (i:Int) * (o.data + o.ptrs) ∧ (i:Int) * (o.data + o.ptrs) ≤ 536870911 * 131070:=fun o i ho hi => by
          have hd:0 ≤ o.data ∧ o.data ≤ 65535 ∧ 0 ≤ o.ptrs ∧ o.ptrs ≤ 65535:=by
           rcases ho with ho | ho
           ·obtain ⟨_,d,q,_⟩:=ho; omega
           ·obtain ⟨_,d,q,_⟩:=ho; omega
          exact VQ (by omega) (by omega)
         have lp:=zgR (la:=la) (lb:=lb) (x:=x) (y:=y) (q:=cx.length) (by omega) (fun i => eqB (zU (cx.getD i nd0)) (zU (cy.getD i nd0))) (fun i hi => by have:=mul x i (.inl okx) hi; exact QW x i (by omega) (by omega) (by omega)) (fun i hi => by have:=mul y i (.inr oky) hi; exact QW y i (by omega) (by omega) (by omega)) (fun i hi => by
          obtain ⟨m1,g1,g2⟩:=e3 i hi
          obtain ⟨m2,k1,k2⟩:=f3 i (by omega)
          rw [if_neg (by omega)] at g1 g2
          rw [if_neg (by omega)] at k1 k2
          have mx:=mul x i (.inl okx) hi
          have my:=mul y i (.inr oky) hi
          have:=zbw hla hsa hlb hsb ih' (x:=elt x i) (y:=elt y i) ⟨⟨by dsimp only [elt]; omega,by dsimp only [elt]; omega⟩,hdt,hq⟩ ⟨⟨by dsimp only [elt]; omega,by dsimp only [elt]; omega⟩,hdt',hq'⟩ rfl rfl g1 k1
          rw [g2,k2] at this
          rw [getx i hi,gety i (by omega)]
          exact this) cx.length 0 (by omega) (fun j h => absurd h (by omega))
         rw [Yh]
         conv => lhs; rw [show yu x.n 0 = yu ((cx.length:Nat):Int) ((0:Nat):Int) from by rw [hxn]; rfl]
         rw [lp]
         exact res rfl
        ·have h66:x.elem = 6:=by omega
         rw [beq_eq_false_iff_ne.2 h7,beq_iff_eq.2 h66]
         dsimp only [za,zb,zf,zpi,zj,zm,zq,zk,zs,zn,zK,zM,zL,pU8,zpg,zph,zi,zg,zc,zh,ze,zA,zv,zr,zo,zJ,zI,zF,zG,zH,len8,zD,zC,zt,zu]
         have hAx:∀ (o:Ob),o.kind = 2 → o.elem = 6 → (0 < o.n → Vh o = o.at_ ∧ zds o = o.n) ∧ (Vh o = o.at_ ∨ Vh o = 0):=fun o k e => zju k e
         have kx2:x.kind = 2:=by omega
         have ky2:y.kind = 2:=by omega
         obtain ⟨pa,pb⟩:=hAx x kx2 h66
         obtain ⟨qa,qb⟩:=hAx y ky2 (by omega)
         have lp:=zmH (D:=D') hla hsa hlb hsb ih' (x:=x) (y:=y) ⟨hat.1,by omega⟩ hdt (by omega) ⟨hat'.1,by omega⟩ hdt' (by omega) (q:=cx.length) (by omega) (kx:=cx) (ky:=cy) (fun i hi => by
          obtain ⟨m1,g1,g2⟩:=e3 i hi
          rw [if_pos h66] at g1 g2
          obtain ⟨p1,p2⟩:=pa (by omega)
          rw [getx i hi,← g2]
          unfold zfS
          rw [p1,p2,if_neg (by omega)]
          exact zd7 hla hsa g1) (fun i hi => by
          obtain ⟨m1,g1,g2⟩:=f3 i (by omega)
          rw [if_pos (show y.elem = 6 by omega)] at g1 g2
          obtain ⟨p1,p2⟩:=qa (by omega)
          rw [gety i (by omega),← g2]
          unfold zfS
          rw [p1,p2,if_neg (by omega)]
          exact zd7 hlb hsb g1)
         rw [← hxn,Ob.c,Ob.c] at lp
         rw [lp]
         exact res rfl
    ·rw [show (x.kind != y.kind) = false from by simpa using hk,show (x.elem != y.elem) = false from by simpa using he,show (x.n != y.n) = true from by simpa using hn,WU (fun h => hn (by have:=congrArg Nd.n h; rw [zh2,zh2] at this; omega))]
     rfl
   ·rw [show (x.kind != y.kind) = false from by simpa using hk,show (x.elem != y.elem) = true from by simpa using he,WU (fun h => he (by have:=congrArg Nd.elem h; rw [VU,VU] at this; omega))]
    rfl
  ·rw [show (x.kind != y.kind) = true from by simpa using hk,WU (fun h => hk (by have:=congrArg Nd.kind h; rw [vA,vA] at this; omega))]
   rfl
 intro D
 induction D with
 | zero => exact main 0 fun D' h => absurd h (by omega)
 | succ D ih => exact main (D + 1) fun D' h => by rw [show D' = D by omega]; exact ih
def zhQ (l:List (List Int)):Ob:=if (rdL l 0).length = 0 then ob0 else (obj l 0 0).1
theorem zj9 {l:List (List Int)} (hl:xZ l) (hs:Sm l) (h0:0 < l.length):ev 112 [.pv (.sl 1 (sgs l))] [] = ok (.agg (zhQ l).c):=by
 rw [zaL,decide_eq_true (show 0 < ((sgs l).length:Int) by rw [za7]; omega),zoV h0]
 dsimp only [za,zb,zf,zpi,zj,zm,zq,zk,zs,zn,zK,zM,zL,pU8,zpg,zph,zi,zg,zc,zh,ze,zA,zv,zr,zo,zJ,zI,zF,zG,zH,len8,zD,zC,zt,zu]
 unfold zhQ
 by_cases he:(rdL l 0).length = 0
 ·rw [ym,he,if_pos rfl]; rfl
 ·rw [ym,beq_eq_false_iff_ne.2 (show ((rdL l 0).length:Int) ≠ 0 by omega),if_neg he,zan hl hs]
  rfl
theorem zhR {l:List (List Int)} (hl:xZ l) (hs:Sm l) {d w:Int} (h:(runT l d w).2.2 = 0):0 < l.length ∧ Dn l d.toNat (zhQ l) (runT l d w).1:=by
 by_cases he:emp l
 ·refine ⟨he.1,?_⟩
  rw [runT,if_pos he]
  exact .inl ⟨by unfold zhQ; rw [if_pos he.2],rfl⟩
 ·have e1:runT l d w = den l d.toNat (max w 0) 0 0:=by rw [runT,if_neg he]
  rw [e1] at h ⊢
  have hpos:0 < l.length:=by
   by_cases h0:0 < l.length
   ·exact h0
   ·exfalso
    have hf:(fol l 0 0).2.2.2 = 2:=by
     unfold fol
     rw [if_neg (by unfold inB; omega)]
    rw [Vv (by rw [hf]; decide),hf] at h
    exact absurd h (by show ¬ ((2:Int) = 0); decide)
  refine ⟨hpos,?_⟩
  unfold zhQ
  rw [if_neg (fun h' => he ⟨hpos,h'⟩)]
  exact zd7 hl hs h
def cE (la lb:List (List Int)) (d w:Int):Int:=if W5 la d w = 0 then W5 lb d w else W5 la d w
noncomputable def cB (la lb:List (List Int)) (d w:Int):Bool:=if cE la lb d w = 0 then eqB (Qb la d w) (Qb lb d w) else false
theorem zir {la lb:List (List Int)} (hla:xZ la) (hsa:Sm la) (hlb:xZ lb) (hsb:Sm lb) {d w b:Int} (hd:d ≤ 1099511627775) (hw:w ≤ 4611686018427387904):ev 60 [.pv (.sl 1 (sgs la)),.pv (.sl 1 (sgs lb)),.pv (.agg [I d,I w,I b])] [] = ok (.tup [Bo (cB la lb d w),I (cE la lb d w)]):=by
 rw [Vy,XT,show decide ((0:Int) < 2) = true from rfl,show (decide ((0:Int) ≤ 0) && decide ((0:Int) < (([.sl 1 (sgs la),.sl 1 (sgs lb)]:List PV).length:Int))) = true from rfl,show ([.sl 1 (sgs la),.sl 1 (sgs lb)]:List PV)[(0:Int).toNat]? = some (.sl 1 (sgs la)) from rfl]
 dsimp only [za,zb,zf,zpi,zj,zm,zq,zk,zs,zn,zK,zM,zL,pU8,zpg,zph,zi,zg,zc,zh,ze,zA,zv,zr,zo,zJ,zI,zF,zG,zH,len8,zD,zC,zt,zu]
 rw [QY hla hsa hd hw]
 dsimp only [za,zb,zf,zpi,zj,zm,zq,zk,zs,zn,zK,zM,zL,pU8,zpg,zph,zi,zg,zc,zh,ze,zA,zv,zr,zo,zJ,zI,zF,zG,zH,len8,zD,zC,zt,zu]
 unfold cB cE
 by_cases ha:W5 la d w = 0
 ·rw [ha,show ((0:Int) != 0) = false from rfl,if_pos rfl]
  dsimp only [za,zb,zf,zpi,zj,zm,zq,zk,zs,zn,zK,zM,zL,pU8,zpg,zph,zi,zg,zc,zh,ze,zA,zv,zr,zo,zJ,zI,zF,zG,zH,len8,zD,zC,zt,zu]
  rw [show IntKind.wrap .i64 (0 + 1) = 1 from rfl,vv,show decide ((1:Int) < 2) = true from rfl,show (decide ((0:Int) ≤ 1) && decide ((1:Int) < (([.sl 1 (sgs la),.sl 1 (sgs lb)]:List PV).length:Int))) = true from rfl,show ([.sl 1 (sgs la),.sl 1 (sgs lb)]:List PV)[(1:Int).toNat]? = some (.sl 1 (sgs lb)) from rfl]
  dsimp only [za,zb,zf,zpi,zj,zm,zq,zk,zs,zn,zK,zM,zL,pU8,zpg,zph,zi,zg,zc,zh,ze,zA,zv,zr,zo,zJ,zI,zF,zG,zH,len8,zD,zC,zt,zu]
  rw [QY hlb hsb hd hw]
  dsimp only [za,zb,zf,zpi,zj,zm,zq,zk,zs,zn,zK,zM,zL,pU8,zpg,zph,zi,zg,zc,zh,ze,zA,zv,zr,zo,zJ,zI,zF,zG,zH,len8,zD,zC,zt,zu]
  by_cases hb:W5 lb d w = 0
  ·obtain ⟨pa,da⟩:=zhR hla hsa ha
   obtain ⟨pb,db⟩:=zhR hlb hsb hb
   rw [hb,show ((0:Int) != 0) = false from rfl,if_pos rfl]
   dsimp only [za,zb,zf,zpi,zj,zm,zq,zk,zs,zn,zK,zM,zL,pU8,zpg,zph,zi,zg,zc,zh,ze,zA,zv,zr,zo,zJ,zI,zF,zG,zH,len8,zD,zC,zt,zu]
   rw [show IntKind.wrap .i64 (1 + 1) = 2 from rfl,vv,show decide ((2:Int) < 2) = false from rfl,zj9 hla hsa pa]
   dsimp only [za,zb,zf,zpi,zj,zm,zq,zk,zs,zn,zK,zM,zL,pU8,zpg,zph,zi,zg,zc,zh,ze,zA,zv,zr,zo,zJ,zI,zF,zG,zH,len8,zD,zC,zt,zu]
   rw [zj9 hlb hsb pb]
   dsimp only [za,zb,zf,zpi,zj,zm,zq,zk,zs,zn,zK,zM,zL,pU8,zpg,zph,zi,zg,zc,zh,ze,zA,zv,zr,zo,zJ,zI,zF,zG,zH,len8,zD,zC,zt,zu]
   have hs:=zlY hla hsa hlb hsb d.toNat _ _ _ _ da db
   rw [hs,Qb,Qb,if_pos (show (runT la d w).2.2 = 0 from ha),if_pos (show (runT lb d w).2.2 = 0 from hb)]
   rfl
  ·rw [Yy hb,if_neg hb]
   rfl
 ·rw [Yy ha,if_neg ha,if_neg ha]
  rfl
theorem zcz {l:List (List Int)} (h:∀ s ∈ l,s.length ≤ 300) (hw:∀ s ∈ l,∀ x ∈ s,xI x) (hn:l.length ≤ 20):xZ l ∧ Sm l:=by
 refine ⟨⟨by omega,fun s hs => ⟨by have:=h s hs; omega,hw s hs⟩⟩,znD fun j hj => ?_⟩
 unfold rdL
 rw [Int.toNat_natCast,List.getD_eq_getElem?_getD,List.getElem?_eq_getElem hj]
 exact h _ (List.getElem_mem hj)
theorem g1:xZ [[4294967292]] ∧ Sm [[4294967292]]:=w5 (by decide) (by intro x hx; simp at hx; unfold xI; omega)
theorem g2:xZ [[4294967296,0]] ∧ Sm [[4294967296,0]]:=w5 (by decide) (by intro x hx; simp at hx; unfold xI; omega)
theorem g3:xZ [[0]] ∧ Sm [[0]]:=w5 (by decide) (by intro x hx; simp at hx; unfold xI; omega)
theorem g4:xZ [[3]] ∧ Sm [[3]]:=w5 (by decide) (by intro x hx; simp at hx; unfold xI; omega)
theorem g5:xZ [[7]] ∧ Sm [[7]]:=w5 (by decide) (by intro x hx; simp at hx; unfold xI; omega)
theorem g6:xZ [[4294967298],[4294967296,5]] ∧ Sm [[4294967298],[4294967296,5]]:=zcz (by intro s hs; simp at hs; rcases hs with rfl | rfl <;> decide) (by intro s hs x hx; simp at hs; unfold xI; rcases hs with rfl | rfl <;> (simp at hx; omega)) (by decide)
theorem zoN {la lb:List (List Int)} {d w:Int} {b:Bool} (h:cE la lb d w = 0) (hb:eqB (Qb la d w) (Qb lb d w) = b):ok (.tup [Bo (cB la lb d w),I (cE la lb d w)]) = ok (.tup [Bo b,I 0]):=by rw [cB,if_pos h,h,hb]
theorem zo9 {la lb:List (List Int)} {d w e:Int} (h:cE la lb d w = e) (he:e ≠ 0):ok (.tup [Bo (cB la lb d w),I (cE la lb d w)]) = ok (.tup [Bo false,I e]):=by rw [cB,if_neg (by rw [h]; exact he),h]
theorem x1:ev 60 [.pv (.sl 1 [.sl 1 [U 4294967292]]),.pv (.sl 1 [.sl 1 [U 4294967296,U 0]]),.pv (.agg [I 5,I 50,I 0])] [] = ok (.tup [Bo true,I 0]):=by
 have h:=zir g1.1 g1.2 g2.1 g2.2 (d:=5) (w:=50) (b:=0) (by decide) (by decide)
 exact h.trans (zoN (by kernel_rfl) (Ks (by kernel_rfl)))
theorem x2:ev 60 [.pv (.sl 1 [.sl 1 [U 4294967292]]),.pv (.sl 1 [.sl 1 [U 0]]),.pv (.agg [I 5,I 50,I 0])] [] = ok (.tup [Bo false,I 0]):=by
 have h:=zir g1.1 g1.2 g3.1 g3.2 (d:=5) (w:=50) (b:=0) (by decide) (by decide)
 have k1:(Qb [[4294967292]] 5 50).kind = 1:=by kernel_rfl
 have k2:(Qb [[0]] 5 50).kind = 0:=by kernel_rfl
 exact h.trans (zoN (by kernel_rfl) (WU (fun e => by rw [e,k2] at k1; exact absurd k1 (by decide))))
theorem x3:ev 60 [.pv (.sl 1 [.sl 1 [U 0]]),.pv (.sl 1 [.sl 1 [U 3]]),.pv (.agg [I 5,I 50,I 0])] [] = ok (.tup [Bo false,I 6]):=by
 have h:=zir g3.1 g3.2 g4.1 g4.2 (d:=5) (w:=50) (b:=0) (by decide) (by decide)
 exact h.trans (zo9 (by kernel_rfl) (by decide))
theorem k1:xZ [[8589934596,99,5,0]] ∧ Sm [[8589934596,99,5,0]]:=w5 (by decide) (by intro x hx; simp at hx; unfold xI; omega)
theorem k2:xZ [[4294967298],[4294967296,5]] ∧ Sm [[4294967298],[4294967296,5]]:=zcz (by intro s hs; simp at hs; rcases hs with rfl | rfl <;> decide) (by intro s hs x hx; simp at hs; unfold xI; rcases hs with rfl | rfl <;> (simp at hx; omega)) (by decide)
theorem k3:xZ [[3]] ∧ Sm [[3]]:=w5 (by decide) (by intro x hx; simp at hx; unfold xI; omega)
theorem k4:xZ [[]] ∧ Sm [[]]:=w5 (by decide) (by intro x hx; cases hx)
theorem zgM {l:List (List Int)} (hl:xZ l) (hs:Sm l) {d w:Int} (hw:w ≤ 134217728) (h0:W5 l d w = 0):xZ [zaz l d w] ∧ Sm [zaz l d w] ∧ W5 [zaz l d w] d w = 0 ∧ Qb [zaz l d w] d w = Qb l d w ∧ zhm [zaz l d w] d w ≤ zhm l d w ∧ zaz [zaz l d w] d w = zaz l d w ∧ ((zaz l d w).length:Int) = yh d.toNat (Qb l d w) + 1 ∧ yh d.toNat (Qb l d w) ≤ zhm l d w:=by
 obtain ⟨ho,hb,hx⟩:=W6 hl hs hw h0
 obtain ⟨_,hc⟩:=zkm hl hs (show w ≤ 4611686018427387904 by omega) (show (runT l d w).2.2 = 0 from h0)
 have e3:zaz l d w = QG d.toNat (Qb l d w):=by unfold zaz; rw [if_pos h0]
 obtain ⟨m1,m2,m3⟩:=zk8 ho hb (d:=d) (w:=w) rfl hx
 have hle:=zaT d.toNat ho.vn ho.dp
 rw [e3]
 refine ⟨zgK ho (by omega),zk7 ho (by omega),m1,m2,by rw [m3]; exact hc,?_,WN ho,by omega⟩
 unfold zaz
 rw [if_pos m1,m2]
end Go.Proofs.YtjbjeeoifhegfaaGreatDoor.E
