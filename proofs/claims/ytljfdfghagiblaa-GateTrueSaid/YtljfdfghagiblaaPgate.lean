/- The gate's functions,in plain words. -/
import Derived.Test.YtljfdfghagiblaaPlock
import Derived.Test.YtljfdfghagiblaaP22
import Derived.Test.YtljfdfghagiblaaPmk2
import Derived.Test.YtljfdfghagiblaaGgate
set_option linter.unusedVariables false
set_option linter.unusedSimpArgs false
namespace Go.Proofs.Ytljfdfghagiblaa.S2.Mk
open Go Go.Proofs.Ytljfdfghagiblaa.S2
def gm (k v d:Int) (o:Or) (S:List ByteArray):M_k21:=((k,v,d,()),(o.draws,o.drawn,o.bad,()),(),o.issued,o.met,o.hashes,o.tags,o.seals,o.opens,o.plains,(256,()),S,[],())
def beginsE (r:TrT×Bool) (sector d:Int):Int:=if r.2 = false then 235 else if r.1.2.2.1 = 1 then 234 else if sector≥2 ^ d.toNat then 230 else 0
theorem e_begins (o:Or) {k v d sector:Int} {S:List ByteArray} (h0:0≤d) (h4:d≤4) (hD:DInv 256 S []) :
    F_k21 (sector,()) (gm k v d o S) = some (((trustD S []).1,beginsE (trustD S []) sector d,()),()):=by
  unfold F_k21 R_k21 tree_k21 gm
  dsimp only
  rw [e_Trust hD]
  simp only [Option.bind_some]
  generalize trustD S [] = r
  obtain ⟨⟨a,b,c,e,f,g,⟨⟩⟩,t⟩:=r
  unfold beginsE
  cases t with
  | false=>rfl
  | true =>
    dsimp only
    simp only [Bool.not_true,cond_false]
    by_cases hc:c = 1
    · rw [c_t (beq_iff_eq.2 hc),if_neg (by decide),if_pos hc]; rfl
    · rw [c_f (beq_false_of_ne hc),cd_t h0,if_neg (by decide),if_neg hc]
      have hw:IntKind.u64.wrap (1 * 2 ^ Min.min d.toNat 64) = 2 ^ d.toNat:=by
        have:d = 0∨d = 1∨d = 2∨d = 3∨d = 4:=by omega
        rcases this with rfl | rfl | rfl | rfl | rfl <;> decide
      rw [hw]
      by_cases hs:sector≥2 ^ d.toNat
      · rw [cd_t hs,if_pos hs]; rfl
      · rw [cd_f hs,if_neg hs]; rfl
def pendE (r:TrT×Bool):Int:=if r.2 = false then 235 else if r.1.2.2.1 = 0 then 237 else 0
theorem e_pending (o:Or) {k v d:Int} {S:List ByteArray} (hD:DInv 256 S []) :
    F_k25 () (gm k v d o S) = some (((trustD S []).1,pendE (trustD S []),()),()):=by
  unfold F_k25 R_k25 tree_k25 gm
  dsimp only
  rw [e_Trust hD]
  simp only [Option.bind_some]
  generalize trustD S [] = r
  obtain ⟨⟨a,b,c,e,f,g,⟨⟩⟩,t⟩:=r
  unfold pendE
  cases t with
  | false=>rfl
  | true =>
    dsimp only
    simp only [Bool.not_true,cond_false]
    by_cases hc:c = 0
    · rw [c_t (beq_iff_eq.2 hc),if_neg (by decide),if_pos hc]; rfl
    · rw [c_f (beq_false_of_ne hc),if_neg (by decide),if_neg hc]; rfl
def gmw (k v d:Int) (o:Or) (S:List ByteArray):(Int×Int×Int×Unit)×(List Int×Int×Bool×Unit)×Unit×List (Int×Int)×List (Int×Int)×List (ByteArray×Int)×List (TagK×Int)×List (SealK×Int)×List (ToldK×Int)×List ByteArray×(Int×Unit)×List ByteArray×Unit×List W2×Unit:=((k,v,d,()),(o.draws,o.drawn,o.bad,()),(),o.issued,o.met,o.hashes,o.tags,o.seals,o.opens,o.plains,(256,()),S,(),([]:List W2),())
theorem do_nil (size:Int) (S:List ByteArray) (o:Option TrT):(doD size S [] o).2.2 = []:=by
  unfold doD
  cases o with
  | none=>rfl
  | some t=>dsimp only; split <;> rfl
def settleE (S:List ByteArray) (b:Bool):Int:=if (doD 256 S [] (setT (trustD S []) b)).1 = true then 0 else 235
theorem e_settle (o:Or) {k v d:Int} {S:List ByteArray} {b:Bool} (hD:DInv 256 S []) :
    F_k26 (b,()) (gm k v d o S) = some (settleE S b,gmw k v d o (doD 256 S [] (setT (trustD S []) b)).2.1):=by
  unfold F_k26 tree_k26 gm gmw settleE
  dsimp only
  rw [e_Settle hD (by simp),do_nil]
  simp only [Option.bind_some]
  cases (doD 256 S [] (setT (trustD S []) b)).1 <;> rfl
def doneE (S:List ByteArray):Int:=if pendE (trustD S [])≠0 then pendE (trustD S []) else settleE S true
def doneS (S:List ByteArray):List ByteArray:=if pendE (trustD S [])≠0 then S else (doD 256 S [] (setT (trustD S []) true)).2.1
theorem e_Done (o:Or) {k v d:Int} {S:List ByteArray} (hD:DInv 256 S []) :
    F_k13 () (gm k v d o S) = some (doneE S,gmw k v d o (doneS S)):=by
  have hp:=e_pending o (k:=k) (v:=v) (d:=d) hD
  have hs:=e_settle o (k:=k) (v:=v) (d:=d) (b:=true) hD
  unfold F_k13 tree_k13 doneE doneS
  refine (congrArg (fun x=>Option.bind x _) hp).trans ?_
  simp only [Option.bind_some]
  by_cases h:pendE (trustD S []) = 0
  · rw [if_neg (fun q=>q h),if_neg (fun q=>q h)]
    refine (c_f (by rw [h]; rfl)).trans ?_
    refine (congrArg (fun x=>Option.bind x _) hs).trans ?_
    rfl
  · rw [if_pos h,if_pos h]
    exact c_t (bne_iff_ne.2 h)
def meets (o:Or):List Int→Or
  | []=>o
  | h :: l=>meets (o.meet h) l
def gl (k v d:Int) (o:Or) (S:List ByteArray) (leaf:ByteArray) (path:List Int):LM_k24_2:=((k,v,d,()),(o.draws,o.drawn,o.bad,()),(),o.issued,o.met,o.hashes,o.tags,o.seals,o.opens,o.plains,(256,()),S,[],(leaf,path,()),())
theorem leads_loop (k v d sector:Int) (S:List ByteArray) (leaf:ByteArray) (path:List Int):∀ (suf pre:List Int) (o:Or),(pre ++ suf).length≤140737488355328 →
    L_k24_2 (sector,pre ++ suf,((pre ++ suf).length:Int),(pre.length:Int),()) (gl k v d o S leaf path) = some ((sector,()),gl k v d (meets o suf) S leaf path)
  | [],pre,o,hl=>by
    unfold gl
    rw [Le_k24_2]
    unfold ltree_k24_2
    rw [cd_f (by simp)]
    rfl
  | h :: suf,pre,o,hl=>by
    have hm:=e_Meet o h
    have ih:=leads_loop k v d sector S leaf path suf (pre ++ [h]) (o.meet h) (by simpa using hl)
    unfold gl
    rw [Le_k24_2]
    unfold ltree_k24_2
    simp only [List.length_append,List.length_cons] at hl
    rw [cd_t (by simp; omega),cd_t (by omega),cd_t (by simp; omega)]
    have hx:(pre ++ h :: suf).getD ((pre.length:Int)).toNat 0 = h:=by rw [Int.toNat_natCast]; exact getD_pre pre suf h 0
    rw [hx]
    refine (congrArg (fun x=>Option.bind x _) hm).trans ?_
    simp only [Option.bind_some]
    have e1:IntKind.i64.wrap ((pre.length:Int) + 1) = ((pre ++ [h]).length:Int):=by rw [Mk.i64id (by omega) (by omega)]; simp
    rw [e1]
    rw [List.append_assoc] at ih
    exact ih
end Go.Proofs.Ytljfdfghagiblaa.S2.Mk
