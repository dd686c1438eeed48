/- If nothing bad happened,a leaf or a path that is turned anywhere is not taken for a sector: in plain words. -/
import Derived.Test.YtljfdfghagiblaaP23f
import Derived.Test.YtljfdfghagiblaaGLGateForged
set_option linter.unusedVariables false
set_option linter.unusedSimpArgs false
namespace Go.Proofs.Ytljfdfghagiblaa.S2.Mk
open Go Go.Proofs.Ytljfdfghagiblaa.S2
theorem pow_wrapF {d:Nat} (h4:d≤4):IntKind.u64.wrap (d:Int) = (d:Int)∧IntKind.i64.wrap (1 * 2 ^ Min.min d 64) = ((2 ^ d:Nat):Int)∧IntKind.u64.wrap ((2 ^ d:Nat):Int) = ((2 ^ d:Nat):Int):=by
  obtain ⟨h1,h2⟩:=pow_small h4
  have hc:(2:Int) ^ d = ((2 ^ d:Nat):Int):=by simp
  refine ⟨u64id (by omega) (by omega),?_,u64id (by omega) (by omega)⟩
  rw [Nat.min_eq_left (by omega),Int.one_mul,hc,i64id (by omega) (by omega)]
abbrev repE (d:Nat):List ByteArray:=List.replicate (2 ^ d) ByteArray.empty
theorem Lvs_repE (d:Nat):Lvs d (repE d):=by
  refine ⟨List.length_replicate,fun s hs=>?_⟩
  rw [List.eq_of_mem_replicate hs]
  exact Nat.zero_le _
theorem Lvs.set {d:Nat} {l:List ByteArray} (h:Lvs d l) (i:Nat) {s:ByteArray} (hs:s.size≤140737488355328):Lvs d (l.set i s):=by
  refine ⟨by rw [List.length_set]; exact h.len,fun x hx=>?_⟩
  rcases List.mem_or_eq_of_mem_set hx with hx | rfl
  · exact h.sz x hx
  · exact hs
theorem ne_app (s:ByteArray):s ++ ByteArray.mk #[120]≠s:=by
  intro e
  have h:=congrArg ByteArray.size e
  rw [size_app] at h
  have:(ByteArray.mk #[120]).size = 1:=rfl
  omega
theorem GateForged_plain {dp : Int} {x : ActG} {at_ by_ : Int} (hx : ActOkG x) (hby : U by_) :
    F_k32 (dp,actT x,(at_,by_,()),()) () = some (true,()):=by
  have hz:∀ x:Int,x∈([]:List Int)→U x:=fun x hx=>by cases hx
  have g0:=new_G hz
  have f0:=fr_new
  have d0:(Or.new []).drawn = 0:=rfl
  have hN:=e_New (draws:=[]) (by simp)
  have hF:=e_fixed23
  unfold F_k32 tree_k32
  refine bindS hN ?_
  by_cases hdp:0≤dp∧dp≤4
  · obtain ⟨d,rfl⟩:∃ d:Nat,dp = (d:Int):=⟨dp.toNat,by omega⟩
    have h4:d≤4:=by omega
    obtain ⟨S,root,hM,st,hT⟩:=e_made (o:=Or.new []) (d:=d) g0 (by rw [d0]; decide) h4
    obtain ⟨g1,x1⟩:=build_G (d:=d) (ls:=[]) g0 (by omega) (by rw [d0]; decide)
    have f1:=build_Fr (d:=d) (ls:=[]) g0 f0 (by omega) (by rw [d0]; decide)
    have d1:=(build_wf (d:=d) (ls:=[]) g0.wf (by omega) (by rw [d0]; decide)).2.2.1
    rw [d0] at d1
    generalize (buildS d [] (Or.new [])).2 = o1 at *
    obtain ⟨p1,p2⟩:=pow_small h4
    obtain ⟨w1,w2,w3⟩:=pow_wrapF h4
    have hc:(2:Int) ^ d = ((2 ^ d:Nat):Int):=by simp
    refine bindS hM ?_
    rw [Sum.elim_inl]
    refine bindS hF ?_
    refine (c_f rfl).trans ?_
    refine (c_f rfl).trans ?_
    by_cases hps:(x.2.2.2.2.2.1.size:Int) > 4096
    · refine (cd_t hps).trans ?_
      refine bindS hF ?_
      rfl
    · refine (cd_f hps).trans ?_
      have hps':x.2.2.2.2.2.1.size≤4096:=by omega
      dsimp only
      rw [w1,Int.toNat_natCast,w2,w3,cd_t (by omega),c_t (by rw [decide_eq_false (by omega)]; rfl),cd_t (by omega),cd_t (by omega),cd_t (by omega)]
      have hs4:x.2.2.2.1.tmod ((2 ^ d:Nat):Int) = ((x.2.2.2.1.toNat % 2 ^ d:Nat):Int):=tmod_mod hx.s.1 p1
      have hmlt:x.2.2.2.1.toNat % 2 ^ d < 2 ^ d:=Nat.mod_lt _ p1
      have hat':actT x = (x.1,x.2.1,x.2.2.1,x.2.2.2.1,x.2.2.2.2.1,x.2.2.2.2.2.1,x.2.2.2.2.2.2.1,x.2.2.2.2.2.2.2.1,x.2.2.2.2.2.2.2.2,()):=rfl
      rw [hat']
      dsimp only
      rw [hs4,Int.toNat_natCast]
      generalize hj:x.2.2.2.1.toNat % 2 ^ d = j at hmlt
      -- the act
      obtain ⟨y,hy⟩:∃ y:ActG,y = (x.1,0,x.2.2.1,(j:Int),x.2.2.2.2.1,x.2.2.2.2.2.1,x.2.2.2.2.2.2.1,x.2.2.2.2.2.2.2.1,x.2.2.2.2.2.2.2.2):=⟨_,rfl⟩
      have hyo:ActOkG y:=by
        rw [hy]
        exact ⟨⟨by show (0:Int)≤(j:Int); omega,by show (j:Int) < _; omega⟩,hx.h,hx.shw,hx.pz⟩
      have hyj:y.2.2.2.1.toNat % 2 ^ d = j:=by
        rw [hy]
        show ((j:Int)).toNat % 2 ^ d = j
        rw [Int.toNat_natCast,Nat.mod_eq_of_lt hmlt]
      have hu5:u64I 5:=⟨by decide,by decide⟩
      have hu0:u64I 0:=⟨by decide,by decide⟩
      have hsj:u64I (j:Int):=⟨by omega,by omega⟩
      have hjd:(j:Int) < 2 ^ d:=by rw [hc]; omega
      -- what is shown
      obtain ⟨leaf,path,o2,hsh,hw,g2,x2,d2,hh⟩:=e_show (now:=repE d) (old:=[]) (x:=y) g1 (by omega) h4 (Lvs_repE d) (by intro l hl; cases hl) (by simp) hyo
      obtain ⟨hl2,hp2,ho2⟩:=hh (by rw [hy])
      rw [hyj] at hl2 hp2
      have hT2:=build_HT (d:=d) (ls:=repE d) g1.wf (by omega) (by omega)
      have f2:=build_Fr (d:=d) (ls:=repE d) g1 f1 (by omega) (by omega)
      rw [← ho2] at hT2 f2
      generalize (buildS d (repE d) o1).1 = tr2 at *
      obtain ⟨tr0,hT0⟩:=hT
      have hroot:rootT tr2 = root:=(hT2.same g2.wf f2.nb (hT0.ext x2)).2 fun i _=>by rw [getD_rep]; rfl
      rw [hroot] at hT2
      rw [hy] at hsh
      refine bindS hsh ?_
      -- the write
      have hW:=e_Write (k:=3) (v:=5) (d:=(d:Int)) (sector:=(j:Int)) (epoch:=0) (p:=x.2.2.2.2.2.1) (S:=S) g2 (by omega) hw (by omega) (by omega) (st_D st) hu5 hsj hu0
      have hle:leaf = ByteArray.empty:=by rw [hl2,getD_rep]
      have fW:Fr (writeF 3 5 (d:Int) o2 S (j:Int) 0 x.2.2.2.2.2.1 leaf path).2.1:=by
        have:writeF 3 5 (d:Int) o2 S (j:Int) 0 x.2.2.2.2.2.1 leaf path = changeF (d:Int) o2 S (j:Int) leaf path (sealL 3 5 (j:Int) 0 x.2.2.2.2.2.1):=if_neg (fun q=>hps q.2)
        rw [this]
        exact change_Fr g2 f2 (by omega) (by rw [hle]; exact known_empty _) (fun z hz=>.inl (hT2.isd g2.wf hmlt z (by rw [← hp2]; exact hz))) (seal_mkFr 3 5 (j:Int) 0 x.2.2.2.2.2.1 hu0)
      have w:=write_honest (epoch:=0) (p:=x.2.2.2.2.2.1) g2 (by omega) h4 st (by decide) hT2 (Lvs_repE d).len hsj hjd (show (0:Int)≠1 by decide) hu0 hps' hw (by rw [Int.toNat_natCast]; exact hl2) (by rw [Int.toNat_natCast]; exact hp2) fW.nb
      refine bindS hW ?_
      generalize hr6:writeF 3 5 (d:Int) o2 S (j:Int) 0 x.2.2.2.2.2.1 leaf path = r6 at *
      refine (c_f (by rw [w.ok]; rfl)).trans ?_
      obtain ⟨next,tr6,st6,hT6,hp6⟩:=w.st
      rw [Int.toNat_natCast] at hT6 hp6
      have g6:=w.g
      have d6:=w.dr
      have hD:=e_Done r6.2.1 (k:=3) (v:=5) (d:=(d:Int)) (st_D st6)
      rcases done_sem st6 (by decide) (show (0:Int) < 18446744073709551615 by decide) with q | ⟨q1,q2,st8⟩
      · exact absurd (show (1:Int) = 0 from q.1) (by decide)
      refine bindS hD ?_
      refine (c_f (by rw [q2]; rfl)).trans ?_
      have hPut:=e_put (d:=(d:Int)) (now:=repE d) (old:=[]) (s:=(j:Int)) (leaf:=r6.1.1) (by omega) (by rw [(Lvs_repE d).len]; omega) (by rw [(Lvs_repE d).len]; omega) (by simp)
      rw [Int.toNat_natCast] at hPut
      refine bindS hPut ?_
      -- what is shown then
      have hsz6:=w.sz
      have hLv:Lvs d ((repE d).set j r6.1.1):=(Lvs_repE d).set j (by omega)
      obtain ⟨leaf9,path9,o9,hsh9,hw9,g9,x9,d9,hh9⟩:=e_show (now:=(repE d).set j r6.1.1) (old:=[] ++ [repE d]) (x:=y) g6 (by omega) h4 hLv (by
        intro l hl
        rw [List.nil_append,List.mem_singleton] at hl
        rw [hl]; exact Lvs_repE d) (by simp) hyo
      obtain ⟨hl9,hp9,ho9⟩:=hh9 (by rw [hy])
      rw [hyj] at hl9 hp9
      have hT9:=build_HT (d:=d) (ls:=(repE d).set j r6.1.1) g6.wf (by omega) (by omega)
      have f9:=build_Fr (d:=d) (ls:=(repE d).set j r6.1.1) g6 fW (by omega) (by omega)
      rw [← ho9] at hT9 f9
      generalize (buildS d ((repE d).set j r6.1.1) r6.2.1).1 = tr9 at *
      have hroot9:rootT tr9 = next:=(hT9.same g9.wf f9.nb (hT6.ext x9)).2 fun i _=>rfl
      rw [hroot9] at hT9
      rw [hy] at hsh9
      refine bindS hsh9 ?_
      have hl9':leaf9 = r6.1.1:=by rw [hl9,getDs_set _ _ _ _ (by rw [(Lvs_repE d).len]; exact hmlt),if_pos rfl]
      have hlf:LfOk o9 (j:Int) leaf9 x.2.2.2.2.2.1:=by rw [hl9']; exact w.lf.ext g6 x9
      have hpI9:∀ z∈path9,0 < isd o9 z:=fun z hz=>hT9.isd g9.wf hmlt z (by rw [← hp9]; exact hz)
      have hnp:(nextT (resetT root |>.1,(resetT root).2.1,1,(j:Int),next,r6.1.1,())).2.2.1≠1:=show (0:Int)≠1 by decide
      by_cases hb0:by_.tmod 1000 = 0
      · refine (c_t (beq_iff_eq.2 hb0)).trans ?_
        have hR:=e_Read (k:=3) (v:=5) (d:=(d:Int)) (sector:=(j:Int)) (S:=doneS r6.2.2) g9 (by omega) hw9 (by omega) (by omega) (st_D st8) hu5 hsj
        have fR:=read_Fr (k:=3) (v:=5) (d:=(d:Int)) (S:=doneS r6.2.2) (sector:=(j:Int)) g9 f9 (by omega) (known_lf hlf) (path:=path9) (fun z hz=>.inl (hpI9 z hz))
        have e9:=read_honest g9 (by omega) h4 st8 hT9 (by omega) hjd hnp (by rw [Int.toNat_natCast]; exact hl9) (by rw [Int.toNat_natCast]; exact hp9) hlf fR.nb
        refine bindS hR ?_
        rw [e9]
        refine (c_t rfl).trans ?_
        rw [show (x.2.2.2.2.2.1.toList == x.2.2.2.2.2.1.toList) = true from bytes_self _]
      · refine (c_f (beq_false_of_ne hb0)).trans ?_
        -- a read of what is turned
        have turned:∀ (lf:ByteArray) (pa:List Int),Shw lf pa→¬ (lf = leaf9∧pa = path9)→∃ ob oo,F_k14 ((j:Int),(lf,pa,()),()) (gm 3 5 (d:Int) o9 (doneS r6.2.2)) = some ((ob.1,ob.2,()),gm 3 5 (d:Int) oo (doneS r6.2.2))∧(oo.bad = false→ob = (ByteArray.empty,(232:Int))):=by
          intro lf pa hwx hne
          refine ⟨_,_,e_Read (k:=3) (v:=5) (d:=(d:Int)) (sector:=(j:Int)) (S:=doneS r6.2.2) g9 (by omega) hwx (by omega) (by omega) (st_D st8) hu5 hsj,fun hb=>?_⟩
          exact read_forged g9 (by omega) h4 st8 hT9 (by omega) hjd hnp hwx (by rw [Int.toNat_natCast,← hl9,← hp9]; exact hne) 3 5 hb
        have fin:∀ (ob:ByteArray×Int) (oo:Or),(oo.bad = false→ob = (ByteArray.empty,(232:Int)))→((F_k26 () oo.m).bind fun r15=>cond r15.1 (some (true,())) (cond (ob.2 == 232) (some (ob.1.toList == ByteArray.empty.toList,())) (some (false,())))) = some (true,()):=by
          intro ob oo h
          rw [e_Bad]
          simp only [Option.bind_some]
          cases hb:oo.bad with
          | true=>rfl
          | false =>
            rw [h hb]
            show some (ByteArray.empty.toList == ByteArray.empty.toList,()) = some (true,())
            rw [show (ByteArray.empty.toList == ByteArray.empty.toList) = true from bytes_self _]
        have hlapp:=turned (leaf9 ++ ByteArray.mk #[120]) path9 ⟨by
          have:(ByteArray.mk #[120]).size = 1:=rfl
          rw [size_app,hl9']; omega,hw9.u,hw9.len⟩ (fun h=>ne_app leaf9 h.1)
        obtain ⟨ob,oo,hR1,hR2⟩:=hlapp
        have hlz:leaf9.size + 1≤9223372036854775807:=by rw [hl9']; omega
        by_cases hpl:(path9.length:Int) > 0
        · refine (cd_t hpl).trans ?_
          by_cases ha2:at_.tmod 2 = 0
          · refine (c_t (beq_iff_eq.2 ha2)).trans ?_
            have hne:¬ ((path9.length:Int) = 0):=by omega
            refine (c_t (by rw [decide_eq_false hne]; rfl)).trans ?_
            refine (c_t (by rw [decide_eq_false hne]; rfl)).trans ?_
            have hpl2:=hw9.len
            have hplen:path9.length = d:=by rw [hp9,path_len,hT9.len]; rfl
            refine (cd_t (by show (0 + path9.length) * 8≤140737488355328; omega)).trans ?_
            dsimp only
            generalize hq0:IntKind.i64.wrap (at_.tdiv 2) = q0
            have hb1:=Int.tmod_lt_of_pos q0 (b:=(path9.length:Int)) (by omega)
            have hb2 : -(path9.length:Int) < q0.tmod (path9.length:Int):=by
              by_cases hx3:0≤q0
              · have:=Int.tmod_nonneg (path9.length:Int) hx3
                omega
              · have h5:=Int.tmod_lt_of_pos (-q0) (b:=(path9.length:Int)) (by omega)
                rw [Int.neg_tmod] at h5
                omega
            rw [i64id (n:=q0.tmod (path9.length:Int) + (path9.length:Int)) (by omega) (by omega)]
            generalize hq:q0.tmod (path9.length:Int) + (path9.length:Int) = q
            have k1:=Int.tmod_nonneg (path9.length:Int) (show 0≤q by omega)
            have k2:=Int.tmod_lt_of_pos q (b:=(path9.length:Int)) (by omega)
            generalize q.tmod (path9.length:Int) = i at k1 k2
            have hli:(([] ++ path9).length:Int) = (path9.length:Int):=by rw [List.nil_append]
            rw [hli,cd_t k1,cd_t k2,cd_t k1,cd_t k2]
            rw [List.nil_append,Nat.zero_add]
            have hpi:path9.getD i.toNat 0∈path9:=by
              rw [List.getD_eq_getElem?_getD,List.getElem?_eq_getElem (by omega)]
              exact List.getElem_mem _
            have hUi:=hw9.u _ hpi
            have hm1:=Int.tmod_lt_of_pos by_ (b:=1000) (by decide)
            have hm0:=Int.tmod_nonneg 1000 hby.1
            have hne9:path9.set i.toNat (IntKind.u64.wrap (path9.getD i.toNat 0 + by_.tmod 1000))≠path9:=by
              intro e
              have h1:(path9.set i.toNat (IntKind.u64.wrap (path9.getD i.toNat 0 + by_.tmod 1000))).getD i.toNat 0 = path9.getD i.toNat 0:=by rw [e]
              rw [getDi_set _ _ _ _ (by omega),if_pos rfl,u64w] at h1
              obtain ⟨u0,u1⟩:=hUi
              omega
            have hUn:∀ z,z∈path9.set i.toNat (IntKind.u64.wrap (path9.getD i.toNat 0 + by_.tmod 1000))→U z:=by
              intro z hz
              rcases List.mem_or_eq_of_mem_set hz with hz | rfl
              · exact hw9.u z hz
              · exact u64_wrap _
            obtain ⟨ob2,oo2,hR3,hR4⟩:=turned leaf9 (path9.set i.toNat (IntKind.u64.wrap (path9.getD i.toNat 0 + by_.tmod 1000))) ⟨hw9.sz,hUn,by rw [List.length_set]; exact hw9.len⟩ (fun h=>hne9 h.2)
            refine bindS hR3 ?_
            exact fin ob2 oo2 hR4
          · refine (c_f (beq_false_of_ne ha2)).trans ?_
            refine (cd_t hlz).trans ?_
            refine bindS hR1 ?_
            exact fin ob oo hR2
        · refine (cd_f hpl).trans ?_
          refine (cd_t hlz).trans ?_
          refine bindS hR1 ?_
          exact fin ob oo hR2
  · have hM:=e_made_no (o:=Or.new []) hdp
    refine bindS hM ?_
    rw [Sum.elim_inr]
    refine bindS hF ?_
    refine (c_f rfl).trans ?_
    refine bindS hF ?_
    rfl
end Go.Proofs.Ytljfdfghagiblaa.S2.Mk
