/- part 16 -/
import Derived.Shelf.SlIterI.Nil
import Derived.Shelf.SortM.Plain
import Derived.Shelf.SortM.SortNone
import Derived.Ground.GgzProg
import Derived.Ground.SlgmProg
import Derived.Test.YtmjnackchaahbaaGreatNqZ15
set_option linter.unusedSimpArgs false
set_option linter.unusedVariables false
namespace Go.Proofs.YtmjnackchaahbaaGreat
open Go.RowKit Go.Maps Go.Sort Go.Shelf

def oY:Go.Shelf.Ren:=⟨fun | 7=> 95 | 10=> 158 | n=> n,fun | 23=> 175 | 26=> 3 | 3=> 176 | 28=> 179 | 0=> 0 | 27=> 178 | 33=> 216 | 4=> 4 | n=> n,fun | n=> n⟩
theorem Gk:Go.Proofs.SlLaysZI.n7 Tryz.prog oY:=
  { mixed:=by kernel_rfl,
    f7:=⟨Tryz.f95.name,by decide,Tryz.func95.trans (congrArg some ae)⟩,
    f10:=⟨Tryz.f158.name,by decide,Tryz.func158.trans (congrArg some ae)⟩,
    t0:=Tryz.underlying0,
    a0:=Tryz.isAgg0,
    z0:=Tryz.sizeOf0,
    v0:=Tryz.zeroValue0,
    t4:=Tryz.underlying4,
    a4:=Tryz.isAgg4,
    z4:=Tryz.sizeOf4,
    v4:=Tryz.zeroValue4,
    t23:=Tryz.underlying175,
    a23:=Tryz.isAgg175,
    z23:=Tryz.sizeOf175,
    v23:=Tryz.zeroValue175,
    t26:=Tryz.underlying3,
    a26:=Tryz.isAgg3,
    z26:=Tryz.sizeOf3,
    v26:=Tryz.zeroValue3,
    t27:=Tryz.underlying178,
    a27:=Tryz.isAgg178,
    z27:=Tryz.sizeOf178,
    v27:=Tryz.zeroValue178,
    t28:=Tryz.underlying179,
    a28:=Tryz.isAgg179,
    z28:=Tryz.sizeOf179,
    v28:=Tryz.zeroValue179,
    t33:=Tryz.underlying216,
    a33:=Tryz.isAgg216,
    z33:=Tryz.sizeOf216,
    v33:=Tryz.zeroValue216 }
def my:Go.Shelf.Ren:=⟨fun | 6=> 94 | 8=> 156 | 9=> 157 | 11=> 191 | 13=> 193 | 12=> 192 | 23=> 219 | 24=> 220 | 14=> 211 | 15=> 212 | 16=> 213 | 17=> 214 | 18=> 215 | 19=> 216 | 20=> 207 | 21=> 217 | 22=> 218 | 25=> 230 | 26=> 231 | 27=> 232 | 28=> 233 | 29=> 234 | 30=> 228 | 31=> 239 | n=> n,fun | 26=> 3 | 28=> 179 | 24=> 22 | 0=> 0 | 3=> 3 | 37=> 243 | 48=> 260 | 50=> 262 | 4=> 4 | 40=> 254 | 39=> 253 | 45=> 193 | 5=> 5 | 9=> 9 | 51=> 265 | 55=> 269 | 57=> 272 | 58=> 273 | 33=> 216 | n=> n,fun | n=> n⟩
theorem xW:Go.Proofs.SlLaysZI.n6 Tryz.prog my:=
  { mixed:=by kernel_rfl,
    f6:=⟨Tryz.f94.name,by decide,Tryz.func94.trans (congrArg some ae)⟩,
    f8:=⟨Tryz.f156.name,by decide,Tryz.func156.trans (congrArg some ae)⟩,
    f11:=⟨Tryz.f191.name,by decide,Tryz.func191.trans (congrArg some ae)⟩,
    t0:=Tryz.underlying0,
    a0:=Tryz.isAgg0,
    z0:=Tryz.sizeOf0,
    v0:=Tryz.zeroValue0,
    t24:=Tryz.underlying22,
    a24:=Tryz.isAgg22,
    z24:=Tryz.sizeOf22,
    v24:=Tryz.zeroValue22,
    t26:=Tryz.underlying3,
    a26:=Tryz.isAgg3,
    z26:=Tryz.sizeOf3,
    v26:=Tryz.zeroValue3,
    t28:=Tryz.underlying179,
    a28:=Tryz.isAgg179,
    z28:=Tryz.sizeOf179,
    v28:=Tryz.zeroValue179,
    i26:=by kernel_rfl }
def ug:Go.Shelf.Ren:=⟨fun | 5=> 157 | 8=> 193 | 7=> 192 | 19=> 219 | 20=> 220 | 10=> 211 | 11=> 212 | 12=> 213 | 13=> 214 | 14=> 215 | 15=> 216 | 16=> 207 | 17=> 217 | 18=> 218 | 30=> 230 | 31=> 231 | 32=> 232 | 33=> 233 | 34=> 234 | 35=> 228 | 40=> 239 | n=> n,fun | 23=> 22 | 25=> 3 | 3=> 3 | 32=> 243 | 22=> 22 | 0=> 0 | 44=> 260 | 46=> 262 | 4=> 4 | 36=> 254 | 35=> 253 | 41=> 193 | 5=> 5 | 9=> 9 | 53=> 265 | 57=> 269 | 63=> 272 | 64=> 273 | n=> n,fun | n=> n⟩
theorem xi:Go.Proofs.SlLaysM.n5 Tryz.prog ug:=
  { mixed:=by kernel_rfl,
    f5:=⟨Tryz.f157.name,by decide,Tryz.func157.trans (congrArg some ae)⟩,
    f7:=⟨Tryz.f192.name,by decide,Tryz.func192.trans (congrArg some ae)⟩,
    f8:=Tryz.func193.trans (congrArg some ae),
    f10:=⟨Tryz.f211.name,by decide,Tryz.func211.trans (congrArg some ae)⟩,
    f11:=⟨Tryz.f212.name,by decide,Tryz.func212.trans (congrArg some ae)⟩,
    f12:=⟨Tryz.f213.name,by decide,Tryz.func213.trans (congrArg some ae)⟩,
    f13:=⟨Tryz.f214.name,by decide,Tryz.func214.trans (congrArg some ae)⟩,
    f14:=⟨Tryz.f215.name,by decide,Tryz.func215.trans (congrArg some ae)⟩,
    f15:=⟨Tryz.f216.name,by decide,Tryz.func216.trans (congrArg some ae)⟩,
    f16:=⟨Tryz.f207.name,by decide,Tryz.func207.trans (congrArg some ae)⟩,
    f17:=⟨Tryz.f217.name,by decide,Tryz.func217.trans (congrArg some ae)⟩,
    f18:=⟨Tryz.f218.name,by decide,Tryz.func218.trans (congrArg some ae)⟩,
    f19:=Tryz.func219.trans (congrArg some ae),
    f20:=Tryz.func220.trans (congrArg some ae),
    f30:=⟨Tryz.f230.name,by decide,Tryz.func230.trans (congrArg some ae)⟩,
    f31:=Tryz.func231.trans (congrArg some ae),
    f32:=Tryz.func232.trans (congrArg some ae),
    f33:=⟨Tryz.f233.name,by decide,Tryz.func233.trans (congrArg some ae)⟩,
    f34:=⟨Tryz.f234.name,by decide,Tryz.func234.trans (congrArg some ae)⟩,
    f35:=⟨Tryz.f228.name,by decide,Tryz.func228.trans (congrArg some ae)⟩,
    f40:=⟨Tryz.f239.name,by decide,Tryz.func239.trans (congrArg some ae)⟩,
    t0:=Tryz.underlying0,
    a0:=Tryz.isAgg0,
    z0:=Tryz.sizeOf0,
    v0:=Tryz.zeroValue0,
    t3:=Tryz.underlying3,
    a3:=Tryz.isAgg3,
    z3:=Tryz.sizeOf3,
    v3:=Tryz.zeroValue3,
    t4:=Tryz.underlying4,
    a4:=Tryz.isAgg4,
    z4:=Tryz.sizeOf4,
    v4:=Tryz.zeroValue4,
    t5:=Tryz.underlying5,
    a5:=Tryz.isAgg5,
    z5:=Tryz.sizeOf5,
    v5:=Tryz.zeroValue5,
    t9:=Tryz.underlying9,
    a9:=Tryz.isAgg9,
    z9:=Tryz.sizeOf9,
    v9:=Tryz.zeroValue9,
    t22:=Tryz.underlying22,
    a22:=Tryz.isAgg22,
    z22:=Tryz.sizeOf22,
    v22:=Tryz.zeroValue22,
    t23:=Tryz.underlying22,
    a23:=Tryz.isAgg22,
    z23:=Tryz.sizeOf22,
    v23:=Tryz.zeroValue22,
    t25:=Tryz.underlying3,
    a25:=Tryz.isAgg3,
    z25:=Tryz.sizeOf3,
    v25:=Tryz.zeroValue3,
    t32:=Tryz.underlying243,
    a32:=Tryz.isAgg243,
    z32:=Tryz.sizeOf243,
    v32:=Tryz.zeroValue243,
    t35:=Tryz.underlying253,
    a35:=Tryz.isAgg253,
    z35:=Tryz.sizeOf253,
    v35:=Tryz.zeroValue253,
    t36:=Tryz.underlying254,
    a36:=Tryz.isAgg254,
    z36:=Tryz.sizeOf254,
    v36:=Tryz.zeroValue254,
    t41:=Tryz.underlying193,
    a41:=Tryz.isAgg193,
    z41:=Tryz.sizeOf193,
    v41:=Tryz.zeroValue193,
    t44:=Tryz.underlying260,
    a44:=Tryz.isAgg260,
    z44:=Tryz.sizeOf260,
    v44:=Tryz.zeroValue260,
    t46:=Tryz.underlying262,
    a46:=Tryz.isAgg262,
    z46:=Tryz.sizeOf262,
    v46:=Tryz.zeroValue262,
    t53:=Tryz.underlying265,
    a53:=Tryz.isAgg265,
    z53:=Tryz.sizeOf265,
    v53:=Tryz.zeroValue265,
    t57:=Tryz.underlying269,
    a57:=Tryz.isAgg269,
    z57:=Tryz.sizeOf269,
    v57:=Tryz.zeroValue269,
    t63:=Tryz.underlying272,
    a63:=Tryz.isAgg272,
    z63:=Tryz.sizeOf272,
    v63:=Tryz.zeroValue272,
    t64:=Tryz.underlying273,
    a64:=Tryz.isAgg273,
    z64:=Tryz.sizeOf273,
    v64:=Tryz.zeroValue273 }
theorem Iu (m:Nat):AnyZI.SortsIn Tryz.prog my Fence.wide m:=
  ⟨fun blk off cap ss W hH hblk hsz=> callsIn_wide.2 (AnyM.slices_Sort_int xi blk off cap ss W hH hblk hsz),
   fun p cap W=> callsIn_wide.2 (AnyM.slices_Sort_int_none xi p cap W)⟩
abbrev IS:Value→Option (DataW Unit×List MemPlace):=fun _=> some (.nil,[])
theorem AQ (M:List (Int×Value)):(eO M).map (fun x=> x.key)=M.map fun p=> Value.int .i64 p.1:=by
  apply List.ext_getElem?
  intro j
  rw [List.getElem?_map,ko,List.getElem?_map]
  cases M[j]? <;> rfl
theorem rp (M:List (Int×Value)):(eO M).map (fun x=> x.born)=List.range M.length:=by
  apply List.ext_getElem?
  intro j
  rw [List.getElem?_map,ko]
  by_cases h:j < M.length
  · rw [List.getElem?_eq_getElem h,List.getElem?_range h];rfl
  rw [List.getElem?_eq_none ab,List.getElem?_eq_none (by simp;omega)];rfl
theorem CW {M:List (Int×Value)} {x:MapEntry} (h:x∈eO M): ∃ p∈M,x.key= .int .i64 p.1:=by
  obtain ⟨j,hj⟩:=List.getElem?_of_mem h
  rw [ko] at hj
  obtain ⟨p,hp,rfl⟩:=Option.map_eq_some_iff.1 hj
  exact ⟨p,List.mem_of_getElem? hp,rfl⟩
theorem Hc {a:Int} (h:0≤a∧a≤1000000):(Lit.int .i64 a).wf=true:=by
  have h1:IntKind.i64.min= -9223372036854775808:=by decide
  have h2:IntKind.i64.max=9223372036854775807:=by decide
  simp only [Lit.wf,h1,h2,Bool.and_eq_true,decide_eq_true_eq]
  omega
theorem Fo {P:Program} {a:Int} (hk:P.underlying 3=some (.int .i64)) (h:0≤a∧a≤1000000):keyOf P 3 (.int .i64 a)=some (.int .i64 a):=keyOf_int_mk hk (Hc h)
theorem JX:Gz:=by
  intro M g b w hlen hnd hrg hlt hcell hb
  have hk3:Tryz.prog.underlying 3=some (.int .i64):=Tryz.underlying3
  have hlen2:(eO M).length=M.length:=CL M
  have hrd: ∀ x∈eO M,∃ p∈M,Go.WideElems.rd Tryz.prog 3 IS x=some (.int .i64 p.1, .nil)∧x.key= .int .i64 p.1:=by
    intro x hx
    obtain ⟨p,hp,hkx⟩:=CW hx
    refine ⟨p,hp,?_,hkx⟩
    have:=Go.WideElems.rd_mk (P:=Tryz.prog) (k:=3) (R:=IS) (val:=x.val) (born:=x.born) (Fo hk3 (hrg p hp)) (yv:=(.nil,[])) rfl
    rw [← hkx] at this
    exact this
  obtain ⟨E,hE⟩: ∃ E,E=((eO M).map (Go.WideElems.rg Tryz.prog 3 IS)).foldr DataW.insert []:=⟨_,rfl⟩
  have hperm:E.Perm ((eO M).map (Go.WideElems.rg Tryz.prog 3 IS)):=by rw [hE];exact Go.WideShapes.sorted_perm _
  have hkeys:((eO M).map (Go.WideElems.rg Tryz.prog 3 IS)).map (fun p=> Go.intOf p.1)=M.map (·.1):=by
    apply List.ext_getElem?
    intro j
    rw [List.getElem?_map,List.getElem?_map,List.getElem?_map]
    cases hj:(eO M)[j]? with
    | none=>
      rw [ko] at hj
      have:=Option.map_eq_none_iff.1 hj
      rw [this];rfl
    | some x=>
      obtain ⟨q,_,h1,h2⟩:=hrd x (List.mem_of_getElem? hj)
      rw [ko] at hj
      obtain ⟨p,hp,rfl⟩:=Option.map_eq_some_iff.1 hj
      rw [hp]
      simp only [Option.map_some,Go.WideElems.rg_of h1,Go.intOf]
      have h2:Value.int .i64 p.1=Value.int .i64 q.1:=h2
      have h3:p.1=q.1:=by injection h2
      rw [h3]
  have hown:w.ownsMap Tryz.prog 3 IS b M.length (.map E):=by
    refine ⟨(eO M).toArray,M.length,hb,⟨by simp only [List.size_toArray];rw [hlen2];unfold maxLen;omega,⟨?_,?_,?_⟩,fun x hx=> ?_⟩,by simp only [List.size_toArray];omega,by rw [hE]⟩
    · intro x hx
      have h1:x.born∈(eO M).map (fun x=> x.born):=List.mem_map_of_mem (by simpa using hx)
      rw [rp] at h1
      simpa using h1
    · show ((eO M).map (fun x=> x.born)).Nodup
      rw [rp];exact List.nodup_range
    · show ((eO M).map (fun x=> x.key)).Nodup
      rw [AQ]
      have:(M.map fun p=> Value.int .i64 p.1)=(M.map (·.1)).map (fun n=> Value.int .i64 n):=by rw [List.map_map];rfl
      rw [this]
      exact hnd.map (fun n=> Value.int .i64 n) fun a b h e=> h (by cases e;rfl)
    obtain ⟨p,_,h1,_⟩:=hrd x (by simpa using hx)
    exact ⟨_,h1⟩
  have hsz:Maps.size (.map E:DataW Unit)=M.length:=by
    show E.length=_
    rw [hperm.length_eq,List.length_map,hlen2]
  have hseq:SeqGives Fence.wide 2 Tryz.prog 158 #[.pointer (some ⟨g,0,none⟩)] encZ (fun ss=> ss.Perm (intKeys (.map E:DataW Unit))) (Maps.size (.map E:DataW Unit)) w:=
    AnyZI.keys_gives (ρ:=oY) { Gk with } Fence.wide 2 trivial rfl ab g b M.length (.map E) w hlt hcell hown
  have cS:=AnyZI.sorted_in xW Fence.wide 5 trivial trivial trivial trivial rfl ab (Iu _) (enters_of Tryz.func157 ae rfl) 158 #[.pointer (some ⟨g,0,none⟩)] trivial (enters_of Tryz.func158 ae rfl) _ _ (by rw [hsz];unfold maxLen;omega) (by rw [hsz];omega) _ hseq
  change CallsIn _ _ Tryz.prog 94 _ _ _ at cS
  refine ((callsIn_wide (n:=5)).1 cS).mono ?_
  rintro e w' ⟨v,ss,rfl,hS,hrow,_,hbl⟩
  refine ⟨v,ss,rfl,?_,hrow,hbl⟩
  have h1:ss.Perm (E.map fun p=> Go.intOf p.1):=hS
  have h2:=hperm.map (fun p=> Go.intOf p.1)
  rw [hkeys] at h2
  exact h1.trans h2
theorem Jd:zY:=Cu JX

def rG (L:List Int) (i:Nat) (m:Int):Int:=if i < L.length then dv (L.getD i 0) m else 0
theorem tK (L:List Int) (i:Nat) {m:Int} (hm:1≤m):0≤rG L i m:=by
 unfold rG;split
 ·exact ia _ _ ab
 omega
theorem tf (L:List Int) (i:Nat) {m:Int} (hm:1≤m):rG L i m < m:=by
 unfold rG;split
 ·exact jo _ _ ab
 omega
theorem qH {L:List Int} (h:GL L) (i:Nat) (hi:i≤2000000) (m:Int) (hm:1≤m∧m≤1000):
  Spec Tryz.prog 58 (ba [.sl L.length (cw L), .v (.int .i64 (i:Int)), .v (.int .i64 m)] []) (aP (.v (.int .i64 (rG L i m))) []):=by
 have hn:=h.n
 by_cases hk:i < L.length
 ·have hr:=h.r (L.getD i 0) (by rw [List.getD_eq_getElem?_getD,List.getElem?_eq_getElem hk];exact List.getElem_mem hk)
  have ha:=ir (L.getD i 0) m ab ab hr.1 hr.2
  rw [show rG L i m=dv (L.getD i 0) m from if_pos hk]
  refine Spec.ofN Tryz.func58 rfl Tryz.ntmps58 rfl ?_
  refine am (be rfl (aj (aq (am (aX rfl (ai (bl (r:=false) _ _ rfl rfl (decide_eq_false ab)) ?_))))))
  refine cE rfl (au rfl rfl (aH _ eg) (au rfl rfl (aH _ mL) (au rfl rfl (bo _ aa rfl) (au rfl rfl (fw (r:=false) _ _ rfl rfl (decide_eq_false ab)) ?_))))
  refine ai (aB _ _ _ rfl bJ) (aj (aW rfl rfl (aT (am (eY rfl (aX rfl (ai (bn _ _ aa rfl rfl _ rfl ab (by (simp only [aO,bg,bj,aO,gk,bP];omega)) (by exact Nat.mul_one _)) ?_)))))))
  refine ai (bT _ aa rfl (by exact eb _ _ ab) rfl) ?_
  refine aX rfl (ai (aI aa al (ha) rfl rfl) ?_)
  exact be rfl (aj (aG (fv rfl rfl)))
 rw [show rG L i m=0 from if_neg hk]
 refine Spec.ofN Tryz.func58 rfl Tryz.ntmps58 rfl ?_
 refine am (be rfl (aj (aq (am (aX rfl (ai (bl (r:=false) _ _ rfl rfl (decide_eq_false ab)) ?_))))))
 refine cE rfl (au rfl rfl (aH _ eg) (au rfl rfl (aH _ mL) (au rfl rfl (bo _ aa rfl) (au rfl rfl (fw (r:=true) _ _ rfl rfl (decide_eq_true ab)) ?_))))
 exact ai (aB _ _ _ rfl bJ) (aj (bM rfl rfl (am (be rfl (aj (aG (fv rfl rfl)))))))
def Kl (b:List Int) (k:Nat):Int:=if k=0 then rG b 0 9 % (1+rG b 1 3) else if k=1 then 1+rG b 1 3 else rG b k 9
def zi (b:List Int) (q k:Nat):Int:=if k < q then rG b k 9 else 0
abbrev L9 (e:Nat→Int):List AV:=[.v (.int .i64 (e 0)), .v (.int .i64 (e 1)), .v (.int .i64 (e 2)), .v (.int .i64 (e 3)), .v (.int .i64 (e 4)), .v (.int .i64 (e 5)), .v (.int .i64 (e 6)), .v (.int .i64 (e 7)), .v (.int .i64 (e 8))]
theorem Hl (e:Nat→Int) (h:Nat) (hh:h < 9) (x:Int):fX (L9 e) h [.v (.int .i64 x)]=L9 (lm e h x):=by
 rcases h with _ | _ | _ | _ | _ | _ | _ | _ | _ | h
 all_goals first | rfl | omega
theorem Es (b:List Int) (q:Nat):lm (zi b q) q (rG b q 9)=zi b (q+1):=by
 funext k
 unfold lm zi
 by_cases h1:k=q
 ·rw [if_pos h1,if_pos ab,h1]
 rw [if_neg h1]
 by_cases h2:k < q
 ·rw [if_pos h2,if_pos ab]
 rw [if_neg h2,if_neg ab]
theorem wp (b:List Int) (G:GL b):
  Spec Tryz.prog 23 (ba [.sl b.length (cw b)] []) (aP (.agg (L9 (Kl b))) []):=by
 have h1:=qH G 1 ab 3 ab
 have hlo:=tK b 1 (m:=3) ab
 have hhi:=tf b 1 (m:=3) ab
 have hlo0:=tK b 0 (m:=9) ab
 have hhi0:=tf b 0 (m:=9) ab
 refine Spec.ofN Tryz.func23 rfl Tryz.ntmps23 rfl ?_
 refine am (ai (aD (2,0) aa rfl rfl) (aj (am (ai (aD (3,0) aa rfl rfl) (aj (aU fun K3 hK3=> ?_))))))
 refine am (be rfl (aj (ay ?_)))
 refine bq (α:=Nat) (fun q=> q≤9) 25 [(0,_),(2,_),(3,_)] [((2,0),_)] (fun q=> [(4, .v (.int .i64 (q:Int)))]) (fun q=> [((3,0), .box 30 [.v (.int .i64 (zi b q 0)), .v (.int .i64 (zi b q 1)), .v (.int .i64 (zi b q 2)), .v (.int .i64 (zi b q 3)), .v (.int .i64 (zi b q 4)), .v (.int .i64 (zi b q 5)), .v (.int .i64 (zi b q 6)), .v (.int .i64 (zi b q 7)), .v (.int .i64 (zi b q 8))])]) [] [] (fun q=> 9 - q) 0 ?_ (by
  refine Le.mkJ [] [] rfl ?_ ?_ trivial trivial ?_
  ·exact ⟨(iS rfl),(iP rfl),(iP rfl),(co ag),trivial⟩
  ·exact ⟨(bF rfl rfl rfl),(fu rfl rfl rfl rfl lz),trivial⟩
  kernel_rfl) ?_
 ·omega
 intro q hq
 refine aU fun K5 hK5=> ?_
 refine am (aX rfl (ai (bl _ _ rfl rfl rfl) (aj (aR rfl (fun hc6=> ?_) (fun hc6=> ?_)))))
 ·skip
  have hq9:=qH G q ab 9 ab
  refine bs (hK5 _ ?_)
  clear hK5;try clear K5
  refine aq (ay (an (aX rfl (eY rfl (aX rfl (ai (aI aa al (hq9) rfl rfl) ?_))))))
  refine ai (da _ _ aa rfl rfl rfl q rfl ab (by exact (Nat.zero_add _).trans (Nat.mul_one _))) ?_
  refine ai (dH _ _ aa rfl rfl rfl rfl (show q+1≤9 by omega) ((Hl (zi b q) q ab _).trans (by rw [Es]))) ?_
  refine ek (an (aX rfl (ai (aZ _ _ rfl rfl (bD ab)) ?_)))
  refine be rfl (aJ (⟨q+1,?_,?_,?_⟩))
  ·omega
  ·skip
   refine Le.mkJ [] [] rfl ?_ ?_ trivial trivial ?_
   ·exact ⟨(iS rfl),(iP rfl),(iP rfl),(co ag),trivial⟩
   ·exact ⟨(bF rfl rfl rfl),(fu rfl rfl rfl rfl lz),trivial⟩
   kernel_rfl
  omega
 obtain rfl:q=9:=by omega
 refine bB (id (hK3 _ ?_))
 clear hK3;try clear K3
 refine am (eY rfl (ai (aI aa al (h1) rfl rfl) ?_))
 refine ai (aZ (r:=1+rG b 1 3) _ _ rfl rfl (bD ab)) ?_
 refine ai (da _ _ aa rfl rfl rfl 1 rfl ab (by exact (Nat.zero_add _).trans (Nat.mul_one _))) ?_
 refine bG rfl rfl rfl rfl rfl rfl (aj (am (ai (da _ _ aa rfl rfl rfl 0 rfl ab (by exact (Nat.zero_add _).trans (Nat.mul_one _))) ?_)))
 refine cf rfl rfl rfl (ai (da _ _ aa rfl rfl rfl 1 rfl ab (by exact (Nat.zero_add _).trans (Nat.mul_one _))) ?_)
 refine cf rfl rfl rfl (ai (dX (r:=rG b 0 9 % (1+rG b 1 3)) _ _ rfl rfl ab (Int.tmod_eq_emod_of_nonneg hlo0)) ?_)
 refine ai (da _ _ aa rfl rfl rfl 0 rfl ab (by exact (Nat.zero_add _).trans (Nat.mul_one _))) ?_
 exact bG rfl rfl rfl rfl rfl rfl (aj (am (ai (az _ aa rfl rfl rfl rfl) (bG rfl rfl rfl rfl rfl rfl (aj (aG (bI (.inr rfl) rfl (.cellA aa rfl rfl rfl) (Le.out [] [] (.agg rfl lz) rfl rfl rfl trivial trivial))))))))
theorem HF (b:List Int) (k:Nat):Rg (Kl b k):=by
 have h1:=tK b 1 (m:=3) ab
 have h2:=tf b 1 (m:=3) ab
 have h3:=tK b k (m:=9) ab
 have h4:=tf b k (m:=9) ab
 unfold Kl Rg
 split
 ·have h5:=Int.emod_nonneg (rG b 0 9) (show 1+rG b 1 3≠0 by omega)
  have h6:=Int.emod_lt_of_pos (rG b 0 9) (show 0 < 1+rG b 1 3 by omega)
  omega
 split <;> omega

abbrev Ol (a:Na):List AV:=[.v (.int .i64 (if a.crash=true then 1 else 0)), .v (.int .i64 (a.h:Int)), .v (.int .i64 (a.names.getD 0 0)), .v (.int .i64 (a.names.getD 1 0)), .v (.int .i64 (a.names.getD 2 0)), .v (.int .i64 (a.names.getD 3 0)), .v (.int .i64 (a.names.getD 4 0)), .v (.int .i64 (a.names.getD 5 0)), .v (.int .i64 (a.names.getD 6 0)), .v (.int .i64 (a.names.getD 7 0)), .v (.int .i64 (a.names.getD 8 0)), .v (.int .i64 a.wait), .v (.int .i64 a.tick), .sl a.draws.length (cw a.draws), .sl a.keeps.length (cw a.keeps)]
abbrev Ax (a:Na):AV:= .agg (Ol a)
def Ek (a:Na):List PV:=[.v (.int .i64 (if a.crash=true then 1 else 0)), .v (.int .i64 (a.h:Int)), .v (.int .i64 (a.names.getD 0 0)), .v (.int .i64 (a.names.getD 1 0)), .v (.int .i64 (a.names.getD 2 0)), .v (.int .i64 (a.names.getD 3 0)), .v (.int .i64 (a.names.getD 4 0)), .v (.int .i64 (a.names.getD 5 0)), .v (.int .i64 (a.names.getD 6 0)), .v (.int .i64 (a.names.getD 7 0)), .v (.int .i64 (a.names.getD 8 0)), .v (.int .i64 a.wait), .v (.int .i64 a.tick), .sl a.draws.length (cw a.draws), .sl a.keeps.length (cw a.keeps)]
def Bu (l:List Na):List PV:=l.flatMap Ek
def Jo:Na:=⟨false,0,[],0,0,[],[]⟩
theorem mo (l:List Na):(Bu l).length=l.length*15:=iW Ek 15 (fun _=> rfl) l
theorem Aw (l:List Na) (k:Nat) (h:k < l.length):PV.ups (((Bu l).drop (k*15)).take 15)=Ol (l.getD k Jo):=by
 have e:l.getD k Jo=l[k]:=by rw [List.getD_eq_getElem?_getD,List.getElem?_eq_getElem h];rfl
 rw [e,show ((Bu l).drop (k*15)).take 15=Ek l[k] from lU Ek 15 (fun _=> rfl) l k h];rfl
theorem Bv (l:List Na) (x:Na):Bu l++Ek x=Bu (l++[x]):=jR Ek l x
theorem Mz {ρ:aC→aC} {σ:St} {F:aC→Bool} {id:aC} {e:TypeId} {n m:Nat} {l r:List An} (hid:σ.ob id= .obj (.row e 6 (ri l))) (hF:F id=true) (hm:n=m) (hl:l=r) (hn:m=r.length):Lv ρ σ F (.sl m (ri r)) (.ref id 0 n):=by
 subst hm;subst hl
 exact fi hid hF (by rw [ij,hn]) rfl
theorem rW (p l:List An) (x:An):ri (p++l)++Gp x=ri (p++(l++[x])):=by rw [Cw,List.append_assoc]
theorem sD (c1 c2 c3:Int) (a:Na) (h1:a.draws.length≤1000) (h2:a.keeps.length≤1000):
  Spec Tryz.prog 78 (ba [Ax a, .agg [.v (.int .i64 c1), .v (.int .i64 c2), .v (.int .i64 c3)]] []) (aP (.sl (ll c1 c2 c3 a.tick a.draws a.keeps).length (ri (ll c1 c2 c3 a.tick a.draws a.keeps))) []):=by
 refine Spec.ofN Tryz.func78 rfl Tryz.ntmps78 rfl ?_
 refine am (ai (aQ (2,0) _ rfl rfl) (ai (aQ (3,0) _ rfl rfl) (ai (bp _ fC) (aj (am (ai (az _ aa rfl rfl rfl rfl) (ai (aN _ aa rfl (by exact sU)) ?_)))))))
 refine bb rfl rfl rfl (cf rfl rfl rfl (ai (aN _ aa rfl (by exact (rfl:_=some [_,_,_,_,_,_]))) ?_))
 refine ai (kv (13,0) _ _ aa rfl ag (by (simp <;> rfl)) ah rfl rfl) ?_
 refine fk rfl (aj (aU fun K3 hK3=> ?_))
 refine am (be rfl (aj (ay ?_)))
 refine bq (α:=Nat) (fun j=> j≤a.draws.length) 53 [(2,_),(3,_)] [((2,0),_),((3,0),_)] (fun j=> [(5, .ref (13,0) 0 (1+j)),(6, .v (.int .i64 (j:Int)))]) (fun j=> [((13,0), .row 196 6 (ri ([⟨c1,c2,c3,2,0,a.tick⟩]++kq c1 c2 c3 1 (a.draws.take j))))]) [] [] (fun j=> a.draws.length - j) 0 ?_ (by
  refine Le.mkJ [] [] rfl ?_ ?_ trivial trivial ?_
  ·exact ⟨(iP rfl),(iP rfl),(cP rfl ag),(co ag),trivial⟩
  ·exact ⟨(bF rfl rfl rfl),(bF rfl rfl rfl),(fj rfl rfl rfl ag),trivial⟩
  kernel_rfl) ?_
 ·omega
 intro j hj
 refine aU fun K5 hK5=> ?_
 refine am (aX rfl (bb rfl rfl rfl (eZ rfl rfl rfl (ai (bo _ aa rfl) (ai (bl _ _ rfl rfl rfl) (aj (aR rfl (fun hc18=> ?_) (fun hc18=> ?_))))))))
 ·skip
  have q1:=oK c1 c2 c3 1 a.draws (j:=j) ab
  have q2:=rW [⟨c1,c2,c3,2,0,a.tick⟩] (kq c1 c2 c3 1 (a.draws.take j)) ⟨c1,c2,c3,1,(j:Int),a.draws.getD j 0⟩
  rw [← q1] at q2
  have q3:(1+j)*6=(ri ([⟨c1,c2,c3,2,0,a.tick⟩]++kq c1 c2 c3 1 (a.draws.take j))).length:=by rw [ij,List.length_append,kh,List.length_take,Nat.min_eq_left ab];rfl
  refine bs (hK5 _ ?_)
  clear hK5;try clear K5
  refine aq (ay ?_)
  refine aM (σ':=aE 53 [(2,_),(3,_),(5,_),(6,_)] [((2,0),_),((3,0),_),((13,0),_)] [] []) kp ?_
  refine bO 12 [21,22,23,24,25,26,27,28,29,30,31,32] [(13,0),(32,0)] ae ae rfl (aL rfl) (rfl:_=[_,_,_,_,_,_,_,_,_,_,_,_]) (rfl:_=[_]) ?_
  refine ap (_,[]) (fun τ=> aH _ dW) ?_
  refine fP rfl ?_
  refine ap (_,[]) (fun τ=> az _ aa rfl rfl rfl rfl) ?_
  refine fQ rfl ?_
  refine ap (_,[]) (fun τ=> aH _ eg) ?_
  refine fU rfl ?_
  refine ap (_,[]) (fun τ=> aN _ aa rfl (by exact sU)) ?_
  refine fY rfl ?_
  refine ap (_,[]) (fun τ=> aA _ aa rfl rfl rfl) ?_
  refine gz rfl ?_
  refine ap (_,[]) (fun τ=> aF _ aa rfl rfl eG) ?_
  refine gZ rfl ?_
  refine ap (_,[]) (fun τ=> aH _ eg) ?_
  refine jg rfl ?_
  refine ap (_,[]) (fun τ=> bn _ _ aa rfl rfl _ rfl ab (by (simp only [aO,bg,bj,aO,ij,kh];omega)) (by exact Nat.mul_one _)) ?_
  refine ka rfl ?_
  refine ap (_,[]) (fun τ=> bT _ aa rfl (by exact eb _ _ ab) rfl) ?_
  refine kG rfl ?_
  refine ap (_,[]) (fun τ=> aN _ aa rfl (by exact (rfl:_=some [_,_,_,_,_,_]))) ?_
  refine fW rfl ?_
  refine ap (_,[]) (fun τ=> bh _ _ aa rfl ag (by (simp <;> rfl)) ah rfl) ?_
  refine gL rfl ?_
  refine ap (_,[((13,0), .gone),((32,0),_)]) (fun τ=> wy (32,0) _ _ aa rfl rfl q3 (.sl rfl) ab rfl rfl rfl (by exact q2) rfl) ?_
  refine kP rfl (bm ⟨rfl,?_⟩)
  refine fk rfl (ek (an (aX rfl (ai (aZ _ _ rfl rfl (bD ab)) ?_))))
  refine be rfl (aJ (⟨j+1,?_,?_,?_⟩))
  ·omega
  ·skip
   refine Le.mkJ [((13,0),(32,0))] [] rfl ?_ ?_ trivial trivial ?_
   ·exact ⟨(dJ (id:=(2,0)) rfl),(dJ (id:=(3,0)) rfl),(cP rfl ag),(co ag),trivial⟩
   ·exact ⟨(fu rfl rfl rfl rfl (by repeat' (first | exact Lv.v | exact Lv.sl | exact bf | refine ax ?_ ?_))),(fu rfl rfl rfl rfl (by repeat' (first | exact Lv.v | exact bf | refine ax ?_ ?_))),(fj rfl rfl rfl ag),trivial⟩
   kernel_rfl
  omega
 obtain rfl:j=a.draws.length:=by omega
 have e0:a.draws.take a.draws.length=a.draws:=List.take_length
 refine bB (id (hK3 _ ?_))
 clear hK3;try clear K3
 refine aU fun K8 hK8=> ?_
 refine am (be rfl (aj (ay ?_)))
 refine bq (α:=Nat) (fun i=> i≤a.keeps.length) 53 [(2,_),(3,_)] [((2,0),_),((3,0),_)] (fun i=> [(5, .ref (13,0) 0 (1+a.draws.length+i)),(7, .v (.int .i64 (i:Int)))]) (fun i=> [((13,0), .row 196 6 (ri ([⟨c1,c2,c3,2,0,a.tick⟩]++kq c1 c2 c3 1 a.draws++kq c1 c2 c3 3 (a.keeps.take i))))]) [] [] (fun i=> a.keeps.length - i) 0 ?_ (by
  refine Le.mkJ [] [] rfl ?_ ?_ trivial trivial ?_
  ·exact ⟨(iP rfl),(iP rfl),(cP rfl ag),(co ag),trivial⟩
  ·exact ⟨(bF rfl rfl rfl),(bF rfl rfl rfl),(fj rfl rfl rfl (by (rw [e0];simp [kq]))),trivial⟩
  kernel_rfl) ?_
 ·omega
 intro i hi
 refine aU fun K10 hK10=> ?_
 refine am (aX rfl (bb rfl rfl rfl (eZ rfl rfl rfl (ai (bo _ aa rfl) (ai (bl _ _ rfl rfl rfl) (aj (aR rfl (fun hc37=> ?_) (fun hc37=> ?_))))))))
 ·skip
  have q1:=oK c1 c2 c3 3 a.keeps (j:=i) ab
  have q2:=rW ([⟨c1,c2,c3,2,0,a.tick⟩]++kq c1 c2 c3 1 a.draws) (kq c1 c2 c3 3 (a.keeps.take i)) ⟨c1,c2,c3,3,(i:Int),a.keeps.getD i 0⟩
  rw [← q1] at q2
  have q3:(1+a.draws.length+i)*6=(ri ([⟨c1,c2,c3,2,0,a.tick⟩]++kq c1 c2 c3 1 a.draws++kq c1 c2 c3 3 (a.keeps.take i))).length:=by rw [ij,List.length_append,List.length_append,kh,kh,List.length_take,Nat.min_eq_left ab];rfl
  refine bs (hK10 _ ?_)
  clear hK10;try clear K10
  refine aq (ay ?_)
  refine aM (σ':=aE 53 [(2,_),(3,_),(5,_),(7,_)] [((2,0),_),((3,0),_),((13,0),_)] [] []) kp ?_
  refine bO 12 [40,41,42,43,44,45,46,47,48,49,50,51] [(13,0),(51,0)] ae ae rfl (aL rfl) (rfl:_=[_,_,_,_,_,_,_,_,_,_,_,_]) (rfl:_=[_]) ?_
  refine ap (_,[]) (fun τ=> aH _ dW) ?_
  refine fP rfl ?_
  refine ap (_,[]) (fun τ=> az _ aa rfl rfl rfl rfl) ?_
  refine fQ rfl ?_
  refine ap (_,[]) (fun τ=> aH _ eg) ?_
  refine fU rfl ?_
  refine ap (_,[]) (fun τ=> aN _ aa rfl (by exact sU)) ?_
  refine fY rfl ?_
  refine ap (_,[]) (fun τ=> aA _ aa rfl rfl rfl) ?_
  refine gz rfl ?_
  refine ap (_,[]) (fun τ=> aF _ aa rfl rfl eG) ?_
  refine gZ rfl ?_
  refine ap (_,[]) (fun τ=> aH _ eg) ?_
  refine jg rfl ?_
  refine ap (_,[]) (fun τ=> bn _ _ aa rfl rfl _ rfl ab (by (simp only [aO,bg,bj,aO,ij,kh];omega)) (by exact Nat.mul_one _)) ?_
  refine ka rfl ?_
  refine ap (_,[]) (fun τ=> bT _ aa rfl (by exact eb _ _ ab) rfl) ?_
  refine kG rfl ?_
  refine ap (_,[]) (fun τ=> aN _ aa rfl (by exact (rfl:_=some [_,_,_,_,_,_]))) ?_
  refine fW rfl ?_
  refine ap (_,[]) (fun τ=> bh _ _ aa rfl ag (by (simp <;> rfl)) ah rfl) ?_
  refine gL rfl ?_
  refine ap (_,[((13,0), .gone),((51,0),_)]) (fun τ=> wy (51,0) _ _ aa rfl rfl q3 (.sl rfl) ab rfl rfl rfl (by exact q2) rfl) ?_
  refine kP rfl (bm ⟨rfl,?_⟩)
  refine fk rfl (ek (an (aX rfl (ai (aZ _ _ rfl rfl (bD ab)) ?_))))
  refine be rfl (aJ (⟨i+1,?_,?_,?_⟩))
  ·omega
  ·skip
   refine Le.mkJ [((13,0),(51,0))] [] rfl ?_ ?_ trivial trivial ?_
   ·exact ⟨(dJ (id:=(2,0)) rfl),(dJ (id:=(3,0)) rfl),(cP rfl ag),(co ag),trivial⟩
   ·exact ⟨(fu rfl rfl rfl rfl (by repeat' (first | exact Lv.v | exact Lv.sl | exact bf | refine ax ?_ ?_))),(fu rfl rfl rfl rfl (by repeat' (first | exact Lv.v | exact bf | refine ax ?_ ?_))),(fj rfl rfl rfl ag),trivial⟩
   kernel_rfl
  omega
 obtain rfl:i=a.keeps.length:=by omega
 have e1:a.keeps.take a.keeps.length=a.keeps:=List.take_length
 have e2:=nh c1 c2 c3 a.tick a.draws a.keeps
 refine bB (id (hK8 _ ?_))
 clear hK8;try clear K8
 exact am (gI rfl (fk rfl (aj (aG (bI (.inr rfl) rfl (.tmp dW) (Le.out [] [(13,0)] (Mz rfl rfl e2.symm (by rw [e1];rfl) rfl) rfl rfl rfl tr trivial))))))

theorem qN {L:Nat→Bool} {i:aC} {c:Slot}: ∀ {rs:List Res} {k:Nat},dt rs L k i=some c→ ∃ r∈rs,(i,c)∈r.2
 | [],_,h=> by simp [dt] at h
 | r::rs,k,h=> by
  simp only [dt] at h
  cases hx:dt rs L (k+1) i with
  | some x=>
   rw [hx] at h
   obtain rfl:=Option.some.inj h
   obtain ⟨r',h1,h2⟩:=qN hx
   exact ⟨r',List.mem_cons_of_mem _ h1,h2⟩
  | none=>
   rw [hx] at h
   simp only at h
   cases hb:L k with
   | false=> rw [hb] at h;cases h
   | true=> rw [hb] at h;exact ⟨r,List.mem_cons_self,gA h⟩
inductive qi (io:aC) (Φ:Slot→Prop) (P:Program) (all:List Oper) (W:List Nat) (I:List aC) (σ:St) (rs:List Res) (o:Oper):Res→Prop where
 | plain {r:Res} (hg:o.guard=none) (h: ∀ τ:St,Φ (τ.ob io)→dh P o (dN σ W I (r.2.map (·.1)) all rs (Edge.ons o.after.toList) τ) (r.app o.dst (dN σ W I (r.2.map (·.1)) all rs (Edge.ons o.after.toList) τ))):qi io Φ P all W I σ rs o r
 | yes {r:Res} {j d:Nat} {want:Bool} (hg:o.guard=some (j,want)) (hd:(all[j]?).bind (·.dst)=some d) (hv: ∀ τ:St,Φ (τ.ob io)→(dN σ W I (r.2.map (·.1)) all rs (Edge.ons o.after.toList) τ).eval (.tmp d)= .v (.bool want))
   (h: ∀ τ:St,Φ (τ.ob io)→dh P o (dN σ W I (r.2.map (·.1)) all rs (Edge.ons o.after.toList) τ) (r.app o.dst (dN σ W I (r.2.map (·.1)) all rs (Edge.ons o.after.toList) τ))):qi io Φ P all W I σ rs o r
 | no {j d:Nat} {want:Bool} {y:Value} (hg:o.guard=some (j,want)) (hd:(all[j]?).bind (·.dst)=some d) (hv: ∀ τ:St,Φ (τ.ob io)→(dN σ W I [] all rs (Edge.ons o.after.toList) τ).eval (.tmp d)= .v y) (hb:y≠ .bool want):qi io Φ P all W I σ rs o (.v undef,[])
def AnyOpsX (io:aC) (Φ:Slot→Prop) (P:Program) (all:List Oper) (W:List Nat) (I:List aC) (σ:St) (Kont:List Res→Prop):List Oper→List Res→Prop
 | [],rs=> Kont rs
 | o::os,rs=> ∃ r,qi io Φ P all W I σ rs o r∧AnyOpsX io Φ P all W I σ Kont os (rs++[r])
theorem AnyOpsX.get {io:aC} {Φ:Slot→Prop} {P:Program} {all:List Oper} {W:List Nat} {I:List aC} {σ:St} {Kont:List Res→Prop}: ∀ (os:List Oper) (rs0:List Res),AnyOpsX io Φ P all W I σ Kont os rs0→
  ∃ rs,rs.length=rs0.length+os.length∧rs.take rs0.length=rs0∧Kont rs∧ ∀ (j:Nat) (o:Oper) (r:Res),os[j]? =some o→rs[rs0.length+j]? =some r→qi io Φ P all W I σ (rs.take (rs0.length+j)) o r
 | [],rs0,h=> ⟨rs0,by simp,by simp,h,by simp⟩
 | o::os,rs0,⟨r,h1,h2⟩=> by
  obtain ⟨rs,a,b,c,d⟩:=AnyOpsX.get os (rs0++[r]) h2
  simp only [List.length_append,List.length_cons,List.length_nil] at a b d
  have ht:rs.take rs0.length=rs0:=by
   have:=congrArg (fun l=> l.take rs0.length) b
   simpa [List.take_take] using this
  have hr:rs[rs0.length]? =some r:=by
   have:=congrArg (fun l=> l[rs0.length]?) b
   simp only [List.getElem?_take] at this
   rw [if_pos ab] at this
   rw [this];simp
  refine ⟨rs,by simp;omega,ht,c,fun j o' r' ho hr'=> ?_⟩
  cases j with
  | zero=>
   simp at ho;subst ho
   simp only [Nat.add_zero] at hr' ⊢
   rw [hr] at hr'
   obtain rfl:=Option.some.inj hr'
   rw [ht];exact h1
  | succ j=>
   have:=d j o' r' (by simpa using ho) (by rw [← hr'];congr 1;omega)
   rwa [show rs0.length+(0+1)+j=rs0.length+(j+1) by omega] at this
section
variable {io:aC} {Φ:Slot→Prop} {P:Program} {σ:St} {all:List Oper} {W:List Nat} {I:List aC} {Kont:List Res→Prop} {os:List Oper} {rs:List Res} {d:Option Tmp} {op:Op} {ty:TypeId} {p:String} {af:List Edge}
theorem eB (r:Res)
  (hs: ∀ τ:St,Φ (τ.ob io)→Stp P d op ty (dN σ W I (r.2.map (·.1)) all rs (Edge.ons af) τ) (r.app d (dN σ W I (r.2.map (·.1)) all rs (Edge.ons af) τ))) (h:AnyOpsX io Φ P all W I σ Kont os (rs++[r])):AnyOpsX io Φ P all W I σ Kont (⟨d,op,ty,p,af.toArray,none⟩::os) rs:=
 ⟨r, .plain rfl fun τ hτ=> hs τ hτ _ rfl rfl rfl,h⟩
theorem uo (h:Kont rs):AnyOpsX io Φ P all W I σ Kont [] rs:=h
theorem eA {rs':List Res} (h:rs=rs') (hh:AnyOpsX io Φ P all W I σ Kont os rs'):AnyOpsX io Φ P all W I σ Kont os rs:=h ▸ hh
end
theorem Ic (io:aC) (Φ:Slot→Prop) {rb:Bool} {P:Program} {Q:Exit→St→Prop} {σ:St} {id:Nat} {l:List Oper} (n:Nat) (W:List Nat) (I:List aC) (hm:P.follows .mixedOrders=true) (hB:kt l.toArray n=true) (hW:(l.take n).filterMap (·.dst)=W)
  (h0:Φ (σ.ob io)) (h:AnyOpsX io Φ P (l.take n) W I σ (fun rs=> ((fg rs=I∧chainB (l.take n) rs=true∧vd rs=true)∧ ∀ r∈rs,∀ c,(io,c)∈r.2→Φ c)∧DL rb P l.toArray Q (l.drop n) (dc (l.take n) rs (fun _=> true) 0 σ)) (l.take n) []):D rb P (.region id l.toArray true) Q σ:=by
 obtain ⟨rs,hrl,_,⟨⟨⟨hmd,hch,hnd⟩,hΦ⟩,hend⟩,hops⟩:=AnyOpsX.get _ _ h
 simp only [List.length_nil,Nat.zero_add] at hrl hops
 subst hmd;subst hW
 intro K a0 w0 hrd ⟨ι0,S0,R0⟩
 simp only [kt,Bool.and_eq_true,decide_eq_true_eq,Bool.or_eq_true,List.all_eq_true,List.mem_range] at hB
 obtain ⟨⟨⟨⟨hn,hsc⟩,hseq⟩,hedge⟩,hdst⟩:=hB
 have hsz:l.toArray.size=l.length:=by simp
 have htk:(l.take n).length=n:=by rw [List.length_take];omega
 rw [htk] at hrl
 have hgetT: ∀ (j:Nat) (o:Oper),j < n→l.toArray[j]? =some o→(l.take n)[j]? =some o:=by
  intro j o hj ho
  rw [List.getElem?_take,if_pos hj]
  simpa using ho
 have hd: ∀ (j:Nat) (oj:Oper),(l.take n)[j]? =some oj→ ∀ (i:Nat) (oi:Oper),(l.take n)[i]? =some oi→i≠j→ ∀ x,oj.dst=some x→oi.dst≠some x:=by
  intro j oj hj i oi hi hne x hx hx'
  have hjn:=(List.getElem?_eq_some_iff.1 hj).1
  have hin:=(List.getElem?_eq_some_iff.1 hi).1
  rw [htk] at hjn hin
  have h:=hdst i hin j hjn
  rw [List.getElem?_take,if_pos hjn] at hj
  rw [List.getElem?_take,if_pos hin] at hi
  have hi':l.toArray[i]? =some oi:=by simpa using hi
  have hj':l.toArray[j]? =some oj:=by simpa using hj
  rw [hi',hj'] at h
  simp [hne,hx,hx'] at h
 have hlow: ∀ (j:Nat) (oj:Oper),(l.take n)[j]? =some oj→ ∀ m∈Edge.ons oj.after.toList,m < j:=by
  intro j oj hoj m hm'
  have hjn:=(List.getElem?_eq_some_iff.1 hoj).1
  rw [htk] at hjn
  obtain ⟨e,he,heb,rfl⟩:=fx hm'
  have h:=hedge j hjn
  rw [List.getElem?_take,if_pos hjn] at hoj
  rw [show l.toArray[j]? =some oj by simpa using hoj] at h
  have:=List.all_eq_true.1 h e he
  rw [heb] at this
  simpa using this
 have hrt:rs.length=(l.take n).length:=by omega
 have hndr: ∀ {k:Nat} {r:Res},rs[k]? =some r→(r.2.map (·.1)).Nodup:=fun h=> rY hnd h
 have hobs: ∀ (L:Nat→Bool) (i:aC),(dc (l.take n) rs L 0 σ).ob i=(dt rs L 0 i).getD (σ.ob i):=fun L i=> qe (l.take n) rs 0 σ i hrt.symm fun k r hr=> hndr hr
 let stL:Array Bool→St:=fun listed=> dc (l.take n) rs (fun k=> listed.getD k false) 0 σ
 have halt: ∀ listed:Array Bool,Φ ((stL listed).ob io):=by
  intro listed
  rw [show (stL listed).ob io=(dt rs (fun k=> listed.getD k false) 0 io).getD (σ.ob io) from hobs _ io]
  cases hl:dt rs (fun k=> listed.getD k false) 0 io with
  | none=> exact h0
  | some c=>
   obtain ⟨r,hr,hc⟩:=qN hl
   exact hΦ r hr c hc
 -- the state as the operation j may count on it
 have hmix: ∀ (listed:Array Bool) (j:Nat) (oj:Oper) (rj:Res),HeadInv .any l.toArray n listed→(l.take n)[j]? =some oj→rs[j]? =some rj→listed.getD j false=false→(∀ k∈Edge.ons oj.after.toList,listed.getD k false=true)→
   ∀ own:List aC,(∀ i,i∈own→ ∃ c,(i,c)∈rj.2)→
   dN σ ((l.take n).filterMap (·.dst)) (fg rs) own (l.take n) (rs.take j) (Edge.ons oj.after.toList) (stL listed)=stL listed:=by
  intro listed j oj rj inv hoj hrj hun hdl own hown2
  refine St.eq (Eq.trans (b:=σ.n) rfl (fE _ _ _ _).symm) (fun t=> ?_) (fun i=> ?_) (Eq.trans (b:=σ.inc) rfl (dP _ _ _ _).symm) (Eq.trans (b:=σ.pin) rfl (dQ _ _ _ _).symm)
  ·simp only [dN]
   cases hdf:lu (l.take n) (rs.take j) (Edge.ons oj.after.toList) 0 t with
   | some a=>
    obtain ⟨k,o,r,h1,h2,h3,h4,h5⟩:=jE hdf
    rw [List.getElem?_take] at h2
    split at h2
    ·simp only [Nat.zero_add] at h3
     rw [h5]
     exact (dM _ _ 0 σ k o r h1 h2 (by simpa using hdl k h3) h4 fun i o' ho' hne=> hd k o h1 i o' ho' hne t h4).symm
    cases h2
   | none=>
    simp only
    cases hin:qY t ((l.take n).filterMap (·.dst)) with
    | true=> rfl
    | false=>
     simp only [cond_false]
     refine (dF _ _ 0 σ fun k o r ho hr hl hdo=> ?_).symm
     have:t∈(l.take n).filterMap (·.dst):=List.mem_filterMap.2 ⟨o,List.mem_of_getElem? ho,hdo⟩
     rw [inL_iff.2 this] at hin
     cases hin
  have hcl: ∀ (k m:Nat) (o:Oper),(l.take n)[k]? =some o→listed.getD k false=true→m∈Edge.ons o.after.toList→listed.getD m false=true:=fun k m o ho hl hm=> by
   obtain ⟨e,he,heb,hee⟩:=fx hm
   have ho':l.toArray[k]? =some o:=by
    rw [List.getElem?_take] at ho
    split at ho
    ·simpa using ho
    cases ho
   have h9:=inv.closed k o ho' hl e (by simpa using he) heb
   rwa [hee] at h9
  have hop: ∀ {k:Nat} {r:Res},rs[k]? =some r→ ∃ o,(l.take n)[k]? =some o:=fun hr=> by
   have:=(List.getElem?_eq_some_iff.1 hr).1
   exact ⟨_,List.getElem?_eq_getElem ab⟩
  rw [show (stL listed).ob i=(dt rs (fun k=> listed.getD k false) 0 i).getD (σ.ob i) from hobs _ i]
  simp only [dN]
  cases hdo:jz (rs.take j) (Edge.ons oj.after.toList) 0 i with
  | some c=>
   obtain ⟨k,r,h2,h3,h4,h5⟩:=lK hdo
   rw [List.getElem?_take] at h2
   split at h2
   ·rename_i hkj
    simp only [Nat.zero_add] at h3
    have hkl:=hdl k h3
    rw [iE (k:=k) (r:=r) h2 (by simpa using hkl) h4 fun m r' hm' hr' hl'=> ?_]
    ·rfl
    cases hlk:el r'.2 i with
    | none=> rfl
    | some c'=>
     obtain ⟨om,hom⟩:=hop hr'
     obtain ⟨c1,c2⟩:=fN hch hm' h2 hr' h4 hlk hom
     simp only [Nat.zero_add] at hl'
     rcases c2 j oj hoj h3 with rfl | c2 | c2
     ·rw [hl'] at hun;cases hun
     ·have:=hcl m j om hom hl' c2
      rw [this] at hun;cases hun
     have hmj:m < j:=hlow j oj hoj m c2
     have:=h5 m r' hm' (by rw [List.getElem?_take,if_pos hmj];exact hr') (by simpa using c2)
     rw [hlk] at this;cases this
   cases h2
  | none=>
   simp only
   cases hc:(cJ i (fg rs) && !(cJ i own)) with
   | true=> rw [show (stL listed).ob i=(dt rs (fun k=> listed.getD k false) 0 i).getD (σ.ob i) from hobs _ i];rfl
   | false=>
    simp only [cond_false]
    rw [lr fun m r' hr' hl'=> ?_]
    ·rfl
    cases hlk:el r'.2 i with
    | none=> rfl
    | some c'=>
     simp only [Nat.zero_add] at hl'
     have hmem:i∈fg rs:=jx hr' (gA hlk)
     rw [inO_iff.2 hmem] at hc
     simp only [Bool.true_and,Bool.not_eq_false'] at hc
     obtain ⟨c2,hc2⟩:=hown2 i (inO_iff.1 hc)
     obtain ⟨c3,hc3⟩:=lY hc2
     rcases Nat.lt_trichotomy m j with hmj | rfl | hmj
     ·obtain ⟨c1,_⟩:=fN hch hmj hr' hrj hlk hc3 hoj
      have:=jQ hdo (k:=m) (r:=r') (by rw [List.getElem?_take,if_pos hmj];exact hr') (by simpa using c1)
      rw [hlk] at this;cases this
     ·rw [hl'] at hun;cases hun
     obtain ⟨om,hom⟩:=hop hr'
     obtain ⟨c1,_⟩:=fN hch hmj hrj hr' hc3 hlk hom
     have:=hcl m j om hom hl' c1
     rw [this] at hun;cases hun
 have hset: ∀ (listed:Array Bool) (j:Nat) (oj:Oper) (rj:Res),HeadInv .any l.toArray n listed→j < listed.size→(l.take n)[j]? =some oj→rs[j]? =some rj→listed.getD j false=false→stL (listed.setIfInBounds j true)=rj.app oj.dst (stL listed):=by
  intro listed j oj rj inv hjs hoj hrj hun
  have hL: ∀ k,(listed.setIfInBounds j true).getD k false=if k=j then true else listed.getD k false:=by
   intro k
   by_cases h:k=j
   ·subst h;simp [hjs]
   rw [if_neg h,getD_set_ne false (Ne.symm h)]
  refine St.eq ((fE _ _ _ _).trans ((vj _ _ _).trans (fE _ _ _ _)).symm) (fun t=> ?_) (fun i=> ?_) ((dP _ _ _ _).trans ((nx _ _ _).trans (dP _ _ _ _)).symm) ((dQ _ _ _ _).trans ((nZ _ _ _).trans (dQ _ _ _ _)).symm)
  ·by_cases ht:oj.dst=some t
   ·rw [ht,kC]
    exact dM _ _ 0 σ j oj rj hoj hrj (by simp only [Nat.zero_add,hL,if_true]) ht fun i o' ho' hne=> hd j oj hoj i o' ho' hne t ht
   rw [ki _ _ _ ht]
   by_cases hex: ∃ k o r,(l.take n)[k]? =some o∧rs[k]? =some r∧listed.getD k false=true∧o.dst=some t
   ·obtain ⟨k,o,r,h1,h2,h3,h4⟩:=hex
    have hkj:k≠j:=fun e=> by subst e;rw [h3] at hun;cases hun
    rw [show (stL (listed.setIfInBounds j true)).fr t=r.1 from dM _ _ 0 σ k o r h1 h2 (by simp only [Nat.zero_add,hL,if_neg hkj];exact h3) h4 fun i o' ho' hne=> hd k o h1 i o' ho' hne t h4]
    exact (dM _ _ 0 σ k o r h1 h2 (by simpa using h3) h4 fun i o' ho' hne=> hd k o h1 i o' ho' hne t h4).symm
   have hno: ∀ (k:Nat) (o:Oper) (r:Res),(l.take n)[k]? =some o→rs[k]? =some r→listed.getD k false=true→o.dst≠some t:=fun k o r h1 h2 h3 h4=> hex ⟨k,o,r,h1,h2,h3,h4⟩
   rw [show (stL (listed.setIfInBounds j true)).fr t=σ.fr t from dF _ _ 0 σ fun k o r h1 h2 h3 h4=> by
    simp only [Nat.zero_add,hL] at h3
    by_cases hkj:k=j
    ·subst hkj;rw [hoj] at h1;obtain rfl:=Option.some.inj h1;exact ht h4
    rw [if_neg hkj] at h3;exact hno k o r h1 h2 h3 h4]
   exact (dF _ _ 0 σ fun k o r h1 h2 h3=> hno k o r h1 h2 (by simpa using h3)).symm
  have hcl: ∀ (k m:Nat) (o:Oper),(l.take n)[k]? =some o→listed.getD k false=true→m∈Edge.ons o.after.toList→listed.getD m false=true:=fun k m o ho hl hm=> by
   obtain ⟨e,he,heb,hee⟩:=fx hm
   have ho':l.toArray[k]? =some o:=by
    rw [List.getElem?_take] at ho
    split at ho
    ·simpa using ho
    cases ho
   have h9:=inv.closed k o ho' hl e (by simpa using he) heb
   rwa [hee] at h9
  rw [tL _ _ _ _ (hndr hrj),show (stL listed).ob i=(dt rs (fun k=> listed.getD k false) 0 i).getD (σ.ob i) from hobs _ i,show (stL (listed.setIfInBounds j true)).ob i=(dt rs (fun k=> (listed.setIfInBounds j true).getD k false) 0 i).getD (σ.ob i) from hobs _ i]
  cases hlj:el rj.2 i with
  | some c=>
   rw [iE (k:=j) (r:=rj) hrj (by simp only [Nat.zero_add,hL,if_true]) hlj fun m r' hm' hr' hl'=> ?_]
   ·rfl
   cases hlk:el r'.2 i with
   | none=> rfl
   | some c'=>
    simp only [Nat.zero_add,hL,if_neg (show ¬ m=j by omega)] at hl'
    have hmn:=(List.getElem?_eq_some_iff.1 hr').1
    have hom:(l.take n)[m]? =some ((l.take n)[m]'ab):=List.getElem?_eq_getElem ab
    obtain ⟨c1,_⟩:=fN hch hm' hrj hr' hlj hlk hom
    have:=hcl m j _ hom hl' c1
    rw [this] at hun;cases hun
  | none=>
   rw [kZ fun m r' hr'=> ?_]
   ·rfl
   by_cases hmj:m=j
   ·subst hmj
    rw [hrj] at hr'
    obtain rfl:=Option.some.inj hr'
    exact .inr hlj
   left;simp only [Nat.zero_add,hL,if_neg hmj]
 refine wpIn_region_any hm ?_
 have key: ∀ (f:Nat) (listed:Array Bool) (a':Act) (w':World),HeadInv .any l.toArray n listed→(((List.range n).filter fun i=> !listed.getD i true).length=f)→
   uM K (stL listed) a' w'→wpAnyIn (WF K.rd) 0 P .any l.toArray (Qr K Q) (f+(l.toArray.size - n)) listed a' w':=by
  intro f
  induction f with
  | zero=>
   intro listed a' w' inv hc hR
   have hall: ∀ i,i < n→listed.getD i true=true:=by
    intro i hi
    have h0:=List.eq_nil_of_length_eq_zero hc
    have:=List.filter_eq_nil_iff.1 h0 i (List.mem_range.2 hi)
    simpa using this
   have hcanon:listed=Array.ofFn (n:=l.toArray.size) fun i=> decide (i.1 < n):=by
    apply Array.ext
    ·simp [inv.size]
    intro i h1 h2
    simp only [Array.getElem_ofFn]
    by_cases hi:i < n
    ·have:=hall i hi
     simp [h1] at this
     simp [this,hi]
    have:=inv.tail i ab (by rw [inv.size] at h1;exact h1)
    simp [h1] at this
    simp [this,hi]
   rw [Nat.zero_add]
   have hfull:stL listed=dc (l.take n) rs (fun _=> true) 0 σ:=by
    have: ∀ (ops:List Oper) (rs:List Res) (k:Nat) (σ:St),k+ops.length≤n→dc ops rs (fun k=> listed.getD k false) k σ=dc ops rs (fun _=> true) k σ:=by
     intro ops
     induction ops with
     | nil=> intros;simp [dc]
     | cons o ops ih=>
      intro rs k σ hk
      cases rs with
      | nil=> simp [dc]
      | cons r rs=>
       simp only [dc]
       have h1:=hall k (by simp at hk;omega)
       have h2:listed.getD k false=true:=by
        have hks:k < listed.size:=by rw [inv.size];simp at hk;omega
        simp [hks] at h1 ⊢;exact h1
       rw [h2]
       exact ih rs (k+1) _ (by simp at hk;omega)
    exact this _ _ 0 _ ab
   rw [hfull] at hR
   have hw:=hend K a' w' hrd hR
   have hdl:(l.drop n).length=l.toArray.size - n:=by simp
   have:=fO (md:= .any) (Q':=Qr K Q) (l.drop n) n listed a' w' (fun j=> by simp [List.getElem?_drop]) (by rw [hdl,hcanon];exact hseq) hw
   rwa [hdl] at this
  | succ f ih=>
   intro listed a' w' inv hc hR
   have hex: ∃ i,i < n∧listed.getD i true=false:=by
    cases hL:(List.range n).filter fun i=> !listed.getD i true with
    | nil=> rw [hL] at hc;simp at hc
    | cons i r=>
     have:i∈(List.range n).filter fun i=> !listed.getD i true:=by rw [hL];exact List.mem_cons_self
     rw [List.mem_filter] at this
     exact ⟨i,List.mem_range.1 this.1,by simpa using this.2⟩
   have hnotail: ∀ t,n≤t→t∉Region.ready .any l.toArray listed:=by
    intro t ht
    rcases hsc with he | ⟨hsk,hch⟩
    ·intro hr
     obtain ⟨_,ot,hot,_⟩:=mem_ready.1 hr
     have:=(Array.getElem?_eq_some_iff.1 hot).1
     omega
    by_cases hlt:n < l.toArray.size
    ·obtain ⟨i,hi,hun⟩:=hex
     exact tail_waits hsk hch hlt inv _ i rfl hi hun t ht
    intro hr
    obtain ⟨_,ot,hot,_⟩:=mem_ready.1 hr
    have:=(Array.getElem?_eq_some_iff.1 hot).1
    omega
   have hfirst: ∀ i,i < n→listed.getD i true=false→ ∃ k,k∈Region.ready .any l.toArray listed:=by
    intro i
    induction i using Nat.strongRecOn with
    | _ i ihi=>
     intro hi hun
     by_cases hp: ∃ k,k < i∧listed.getD k true=false
     ·obtain ⟨k,hk,hku⟩:=hp
      exact ihi k hk ab hku
     have hlt:i < l.toArray.size:=by omega
     refine ⟨i,mem_ready.2 ⟨hun,l.toArray[i],Array.getElem?_eq_getElem hlt,fun e he heb=> ?_⟩⟩
     have h1:=hedge i hi
     rw [Array.getElem?_eq_getElem hlt] at h1
     have h2:=(List.all_eq_true.1 h1) e (by simpa using he)
     rw [heb] at h2
     simp only [Bool.not_true,Bool.false_or,decide_eq_true_eq] at h2
     have h3:listed.getD e.on true=true:=by
      cases hx:listed.getD e.on true with
      | true=> rfl
      | false=> exact absurd ⟨e.on,h2,hx⟩ hp
     have h4:e.on < listed.size:=by rw [inv.size];omega
     simp [h4] at h3 ⊢
     exact h3
   rw [show f+1+(l.toArray.size - n)=(f+(l.toArray.size - n))+1 by omega]
   refine ⟨fun h0=> ?_,fun j hj=> ?_⟩
   ·obtain ⟨i,hi,hun⟩:=hex
    obtain ⟨k,hk⟩:=hfirst i hi hun
    rw [h0] at hk
    cases hk
   have hjn:j < n:=by
    rcases Nat.lt_or_ge j n with h | h
    ·exact h
    exact absurd hj (hnotail j h)
   obtain ⟨hjun,oj,hoj,hall⟩:=mem_ready.1 hj
   have hojT:=hgetT j oj hjn hoj
   have hjs:j < listed.size:=by rw [inv.size];omega
   have hjr:j < rs.length:=by omega
   have hrj:rs[j]? =some rs[j]:=List.getElem?_eq_getElem hjr
   have hunf:listed.getD j false=false:=getD_both hjun
   have hO:=hops j oj rs[j] hojT hrj
   have hons: ∀ k∈Edge.ons oj.after.toList,listed.getD k false=true:=by
    intro k hk
    obtain ⟨e,he,heb,rfl⟩:=fx hk
    exact hall e (by simpa using he) heb
   have hcnt:((List.range n).filter fun i=> !(listed.setIfInBounds j true).getD i true).length=f:=by
    have e1:((List.range n).filter fun i=> !(listed.setIfInBounds j true).getD i true)=((List.range n).filter fun i=> !listed.getD i true).filter fun i=> i !=j:=by
     rw [List.filter_filter]
     apply List.filter_congr
     intro i _
     by_cases hij:j=i
     ·subst hij;simp [hjs]
     rw [getD_set_ne true hij];simp [Ne.symm hij]
    rw [e1]
    have hnd:((List.range n).filter fun i=> !listed.getD i true).Nodup:=List.Pairwise.filter _ List.nodup_range
    have hmem:j∈(List.range n).filter fun i=> !listed.getD i true:=by rw [List.mem_filter];exact ⟨List.mem_range.2 hjn,by simpa using hjun⟩
    have:=List.length_erase_of_mem hmem
    rw [hnd.erase_eq_filter] at this
    rw [this,hc]
    rfl
   have hnext: ∀ (v:Value) (w'':World),uM K (rs[j].app oj.dst (stL listed)) (a'.put oj.dst v) w''→
     wpAnyIn (WF K.rd) 0 P .any l.toArray (Qr K Q) (f+(l.toArray.size - n)) (listed.setIfInBounds j true) (a'.put oj.dst v) w'':=by
    intro v w'' hr
    refine ih _ _ w'' (inv.set hj hjn) hcnt ?_
    rw [hset listed j oj rs[j] inv hjs hojT hrj hunf];exact hr
   have hyl: ∀ (g d:Nat),((l.take n)[g]?).bind (·.dst)=some d→(l.toArray[g]?).bind (·.dst)=some d:=by
    intro g d hgd
    rw [List.getElem?_take] at hgd
    split at hgd
    ·simpa using hgd
    cases hgd
   obtain ⟨ι',S',R'⟩:=hR
   have own2: ∀ i,i∈(rs[j]).2.map (·.1)→ ∃ c,(i,c)∈(rs[j]).2:=fun i h=> by
    obtain ⟨⟨i',c⟩,h1,rfl⟩:=List.mem_map.1 h
    exact ⟨c,h1⟩
   have stepR:(∀ τ:St,Φ (τ.ob io)→dh P oj (dN σ ((l.take n).filterMap (·.dst)) (fg rs) ((rs[j]).2.map (·.1)) (l.take n) (rs.take j) (Edge.ons oj.after.toList) τ) ((rs[j]).app oj.dst (dN σ ((l.take n).filterMap (·.dst)) (fg rs) ((rs[j]).2.map (·.1)) (l.take n) (rs.take j) (Edge.ons oj.after.toList) τ)))→
     eU P oj a'.eval w' fun v w''=> uM K (rs[j].app oj.dst (stL listed)) (a'.put oj.dst v) w'':=by
    intro hst
    have:=hst (stL listed) (halt listed)
    rw [hmix listed j oj rs[j] inv hojT hrj hunf hons _ own2] at this
    exact this K ι' S' a' w' R'
   unfold wpOpIn
   simp only [hoj]
   generalize hrs:rs[j]=rj at hO
   cases hO with
   | plain hg hst=>
    rw [if_pos (by simp [Region.wanted,hg])]
    subst hrs
    exact cW (stepR hst) fun v w'' hp=> hnext v w'' hp
   | yes hg hgd hv hst=>
    subst hrs
    have hv':=hv (stL listed) (halt listed)
    rw [hmix listed j oj rs[j] inv hojT hrj hunf hons _ own2] at hv'
    rw [if_pos (by simp [Region.wanted,hg,jF R' (hyl _ _ hgd) hv'])]
    exact cW (stepR hst) fun v w'' hp=> hnext v w'' hp
   | no hg hgd hv hb=>
    have hv':=hv (stL listed) (halt listed)
    rw [hmix listed j oj rs[j] inv hojT hrj hunf hons [] (fun i h=> by cases h)] at hv'
    rw [if_neg (by simp [Region.wanted,hg,iG R' (hyl _ _ hgd) hv' hb])]
    refine ⟨fun _ _=> trivial,hnext _ _ ?_⟩
    rw [hrs]
    exact ⟨ι',S',R'.put oj.dst (av:= .v undef) .v fun i hi=> by cases hi⟩
 have inv0:HeadInv .any l.toArray n (Array.replicate l.toArray.size false):=
  ⟨by simp,fun j oj _ hl=> (by rw [getD_replicate_false] at hl;cases hl),fun t _ ht=> getD_in (by simpa using ht) (getD_replicate_false _ _)⟩
 have hcnt0:((List.range n).filter fun i=> !(Array.replicate l.toArray.size false).getD i true).length=n:=by
  have:((List.range n).filter fun i=> !(Array.replicate l.toArray.size false).getD i true)=List.range n:=by
   apply List.filter_eq_self.2
   intro i hi
   have:i < l.toArray.size:=by have:=List.mem_range.1 hi;omega
   simp only [getD_in (listed:=Array.replicate l.toArray.size false) (i:=i) (by simpa using this) (getD_replicate_false _ _)];rfl
  rw [this];simp
 have hst0:stL (Array.replicate l.toArray.size false)=σ:=by
  refine St.eq (fE _ _ _ _) (fun t=> dF _ _ _ _ fun j o r _ _ hl=> ?_) (fun i=> eX _ _ _ _ fun j o r _ _ hl=> ?_) (dP _ _ _ _) (dQ _ _ _ _)
  ·simp only [getD_replicate_false] at hl;cases hl
  simp only [getD_replicate_false] at hl;cases hl
 have:=key n _ a0 w0.drew inv0 hcnt0 (by rw [hst0];exact ⟨ι0,S0,R0.drew⟩)
 rw [show n+(l.toArray.size - n)=l.toArray.size by omega] at this
 exact this

theorem wU (io:aC) (Φ:Slot→Prop) {rb:Bool} {P:Program} {Q:Exit→St→Prop} {σ:St} {id:Nat} {l hd tl:List Oper} (n:Nat) (W:List Nat) (I:List aC) (hm:P.follows .mixedOrders=true) (hB:kt l.toArray n=true) (hW:(l.take n).filterMap (·.dst)=W)
  (e1:l.take n=hd) (e2:l.drop n=tl) (h0:Φ (σ.ob io)) (h:AnyOpsX io Φ P hd W I σ (fun rs=> ((fg rs=I∧chainB hd rs=true∧vd rs=true)∧ ∀ r∈rs,∀ c,(io,c)∈r.2→Φ c)∧DL rb P l.toArray Q tl (dc hd rs (fun _=> true) 0 σ)) hd []):D rb P (.region id l.toArray true) Q σ:=by
 subst e1;subst e2
 exact Ic io Φ n W I hm hB hW h0 h
theorem Le.incA {σ:St} (id:aC):Le (σ.setInc id true) σ:=by
 intro K ι S a w R
 refine ⟨ι,S,R.keeps,R.S0,R.Slt,R.nt,R.df,R.fr,R.cl,R.clo,R.ob,R.dom,R.inj,fun i B g h1 h2=> ?_,R.pin,R.pf⟩
 obtain ⟨h3,h4,h5⟩:=R.sep i B g h1 h2
 refine ⟨h3,h4,fun h6=> h5 ?_⟩
 have h7:(bif gN i id then true else σ.inc i)=false:=h6
 cases hb:gN i id with
 | true=> rw [hb] at h7;cases h7
 | false=> rw [hb] at h7;exact h7
theorem mh {rb:Bool} {P:Program} {Q:Exit→St→Prop} {σ:St} {x y:Code} {α:Type} (J:α→Prop) (n:Nat) (sl:List (Nat×AV)) (os:List (aC×Cells)) (sv:α→List (Nat×AV)) (ov:α→List (aC×Cells)) (I Pn:List aC)
  (hs:pd (bk []) σ (fun i=> cJ i []) sl) (ho:ey (bk []) σ (fun i=> cJ i []) I os)
  (hx:D rb P x (kz (fun σ'=> ∃ z,J z∧Le (aE n (sl++sv z) (os++ov z) I Pn) σ') Q) σ)
  (hy: ∀ z,J z→D rb P y Q (aE n (sl++sv z) (os++ov z) I Pn)):D rb P (.seq x y) Q σ:=by
 refine aU fun K hK=> CS hx fun e σ' h=> ?_
 cases e with
 | normal=> obtain ⟨z,hz,hle⟩:=h;exact hK σ' (aM hle (hy z hz))
 | _=> exact h

theorem ra {n m:Int} (h0:0≤n) (h1:n < 100000000) (hm:0 < m):IntKind.i64.wrap (n.tdiv m)=n / m:=by
 rw [Int.tdiv_eq_ediv_of_nonneg h0]
 have a1:=Int.ediv_nonneg h0 (show 0≤m by omega)
 have a2:=Int.ediv_le_self m h0
 exact bD ab
theorem vB {n m k:Int} (h0:0≤n) (hm:0 < m):(n / m).tmod k=n / m % k:=Int.tmod_eq_emod_of_nonneg (Int.ediv_nonneg h0 (show 0≤m by omega))
def hdN:List Nat:=[1,1,10,11,12,2,3,10,0,39]
def hdI:List Int:=[1,1,10,11,12,2,3,10,0,39]
theorem Jx (k:Nat) (h:k < 10):hdI.getD k 0=((hdN.getD k 0:Nat):Int):=by
 rcases (show k=0∨k=1∨k=2∨k=3∨k=4∨k=5∨k=6∨k=7∨k=8∨k=9 by omega) with rfl | rfl | rfl | rfl | rfl | rfl | rfl | rfl | rfl | rfl <;> rfl
theorem JP (k:Nat):hdN.getD k 0 < 40:=by
 by_cases h:k < 10
 ·rcases (show k=0∨k=1∨k=2∨k=3∨k=4∨k=5∨k=6∨k=7∨k=8∨k=9 by omega) with rfl | rfl | rfl | rfl | rfl | rfl | rfl | rfl | rfl | rfl <;> decide
 rw [List.getD_eq_getElem?_getD,List.getElem?_eq_none (by show 10≤k;omega)];decide
abbrev yZ (n:Int):List Int:=[0,0,0,n / 960 % 3,n / 5 % 4,n / 9 % 3,n / 10 % 4 - 1,n / 3 % 5,n / 21 % 2]
abbrev Ik (n:Int):List Int:=[n,n / 7,n / 11,n / 13,n / 17,n / 19]
abbrev za (n:Int):List Int:=(List.range 9).map (Kl (Ik n))
def iw (n:Int):Na:=⟨decide (n / 160 % 6=5),hdN.getD (n % 10).toNat 0,if n / 960 % 2=0 then yZ n else za n,n / 10 % 4 - 1,n / 40 % 4,[n / 1000 % 4,n / 4000 % 4,n / 16000 % 4],[n / 2 % 2,n / 4 % 2,n / 8 % 2,n / 16 % 2]⟩
theorem HS (n:Int) {b:Bool} {L:List Int} (hb:decide (n / 160 % 6=5)=b) (hL:(if n / 960 % 2=0 then yZ n else za n)=L):iw n=⟨b,hdN.getD (n % 10).toNat 0,L,n / 10 % 4 - 1,n / 40 % 4,[n / 1000 % 4,n / 4000 % 4,n / 16000 % 4],[n / 2 % 2,n / 4 % 2,n / 8 % 2,n / 16 % 2]⟩:=by subst hb;subst hL;rfl
theorem Cg {n:Int} (h0:0≤n):Bp (iw n)∧(iw n).draws.length=3∧(iw n).keeps.length=4∧(∀ x∈(iw n).draws,0≤x)∧(∀ x∈(iw n).keeps,0≤x)∧(iw n).names.length=9:=by
 refine ⟨⟨JP _,fun i=> ?_,?_,?_⟩,rfl,rfl,fun x hx=> ?_,fun x hx=> ?_,?_⟩
 ·show Rg ((if n / 960 % 2=0 then yZ n else za n).getD i 0)
  split
  ·refine pN (fun v hv=> ?_) i
   simp only [List.mem_cons,List.not_mem_nil,or_false] at hv
   unfold Rg
   rcases hv with rfl | rfl | rfl | rfl | rfl | rfl | rfl | rfl | rfl <;> omega
  exact pN (fun x hx=> by obtain ⟨j,_,rfl⟩:=List.mem_map.1 hx;exact HF _ j) i
 ·show -1≤n / 10 % 4 - 1∧n / 10 % 4 - 1≤2;omega
 ·show 0≤n / 40 % 4∧n / 40 % 4≤3;omega
 ·simp only [iw,List.mem_cons,List.not_mem_nil,or_false] at hx
  rcases hx with rfl | rfl | rfl <;> omega
 ·simp only [iw,List.mem_cons,List.not_mem_nil,or_false] at hx
  rcases hx with rfl | rfl | rfl | rfl <;> omega
 show (if n / 960 % 2=0 then yZ n else za n).length=9
 split
 ·rfl
 simp
def jB (l:List Int):List Na:=l.map fun x=> iw (dv x 100000000)
theorem vQ (l:List Int) {k:Nat} (h:k < l.length):jB (l.take (k+1))=jB (l.take k)++[iw (dv (l.getD k 0) 100000000)]:=by
 unfold jB
 rw [List.take_add_one,List.getElem?_eq_getElem h,List.map_append,List.getD_eq_getElem?_getD,List.getElem?_eq_getElem h];rfl
theorem mm (l:List Int):(jB l).length=l.length:=List.length_map _
theorem JS {ρ:aC→aC} {σ:St} {F:aC→Bool} {id:aC} {e:TypeId} {n m:Nat} {l r:List Na} (hid:σ.ob id= .obj (.row e 15 (Bu l))) (hF:F id=true) (hm:n=m) (hl:l=r) (hn:m=r.length):Lv ρ σ F (.sl m (Bu r)) (.ref id 0 n):=by
 subst hm;subst hl
 exact fi hid hF (by rw [mo,hn]) rfl
set_option maxHeartbeats 2000000 in
theorem yg (l:List Int) (hl:l.length≤4611686018427387904) (hr: ∀ x∈l, -9223372036854775808≤x∧x≤9223372036854775807):
  Spec Tryz.prog 40 (ba [.sl l.length (cw l)] []) (aP (.sl (jB (l.take 10)).length (Bu (jB (l.take 10)))) []):=by
 refine Spec.ofN Tryz.func40 rfl Tryz.ntmps40 rfl ?_
 refine am (ai (bp _ fC) (aj (am (ai (bp _ fC) (aj (aU fun K3 hK3=> ?_))))))
 refine am (be rfl (aj (ay ?_)))
 refine aM (Le.nilS 3 (60,0) 87 15 rfl rfl) ?_
 refine bq (α:=Nat) (fun i=> i≤l.length∧i≤10) 107 [(0,_)] [] (fun i=> [(3, .ref (60,0) 0 i),(4, .v (.int .i64 (i:Int)))]) (fun i=> [((60,0), .row 87 15 (Bu (jB (l.take i))))]) [] [] (fun i=> 10 - i) 0 ?_ (by
  refine Le.mkJ [] [] rfl ?_ ?_ trivial trivial ?_
  ·exact ⟨(iS rfl),(cP rfl ag),(co ag),trivial⟩
  ·exact ⟨(fj rfl rfl rfl ag),trivial⟩
  kernel_rfl) ?_
 ·exact ⟨Nat.zero_le _,Nat.zero_le _⟩
 intro i hi
 refine aU fun K5 hK5=> ?_
 refine aU fun K6 hK6=> ?_
 refine an (aX rfl (eY rfl (ai (bo _ aa rfl) (ai (bl _ _ rfl rfl rfl) (cE rfl (dw (fun hg11=> ?_) (fun hg11=> ?_)))))))
 ·skip
  refine au rfl rfl (aH _ eg) (au rfl rfl (bl (r:=decide ((i:Int) < 10)) _ _ rfl rfl rfl) ?_)
  refine ai (aB _ _ _ rfl bJ) (aJ (hK6 _ ?_))
  clear hK6;try clear K6
  refine aR rfl (fun hc14=> ?_) (fun hc14=> ?_)
  ·skip
   have hm:l.getD i 0∈l:=by rw [List.getD_eq_getElem?_getD,List.getElem?_eq_getElem ab];exact List.getElem_mem _
   have hx:=hr _ hm
   have ha:=ir (l.getD i 0) 100000000 ab ab hx.1 hx.2
   have h0:=ia (l.getD i 0) 100000000 ab
   have h1:=jo (l.getD i 0) 100000000 ab
   have q1:=vQ l (k:=i) ab
   have q3:i*15=(Bu (jB (l.take i))).length:=by rw [mo,mm,List.length_take,Nat.min_eq_left ab]
   have q2:=Bv (jB (l.take i)) (iw (dv (l.getD i 0) 100000000))
   rw [← q1] at q2
   generalize dv (l.getD i 0) 100000000=n at ha h0 h1 q2
   have hq:=Jx (n % 10).toNat ab
   have hgt:=eb hdI (n % 10).toNat (by show _ < 10;omega)
   rw [hq] at hgt
   have hdl: ∀ {m:Int},0 < m→0≤n / m∧n / m≤n:=fun hm=> ⟨Int.ediv_nonneg h0 ab,Int.ediv_le_self _ h0⟩
   have hnm:=wp (Ik n) ⟨(show 6≤4611686018427387904 by omega),fun x hx=> by
    simp only [List.mem_cons,List.not_mem_nil,or_false] at hx
    have b1:=hdl (m:=7) ab
    have b2:=hdl (m:=11) ab
    have b3:=hdl (m:=13) ab
    have b4:=hdl (m:=17) ab
    have b5:=hdl (m:=19) ab
    rcases hx with rfl | rfl | rfl | rfl | rfl | rfl <;> omega⟩
   refine bs (hK5 _ ?_)
   clear hK5;try clear K5
   refine aq (ay (am (eY rfl (aX rfl (ai (bn _ _ aa rfl rfl _ rfl ab (by (simp only [aO,bg,bj,aO,mo];omega)) (by exact Nat.mul_one _)) ?_)))))
   refine ai (bT _ aa rfl (by exact eb _ _ ab) rfl) ?_
   refine ai (aI aa al (ha) rfl rfl) ?_
   refine be rfl (aj (am (ai (bh _ _ aa rfl ag (by simp <;> rfl) ah (by exact (rfl:_=some (cw hdI)))) ?_)))
   refine aX rfl (ai (dX (r:=n % 10) _ _ rfl rfl ab (Int.tmod_eq_emod_of_nonneg h0)) ?_)
   refine ai (bn _ _ aa rfl rfl (n % 10).toNat (Int.toNat_of_nonneg ab).symm ab (by exact Nat.zero_lt_succ _) (Nat.mul_one _)) ?_
   refine ai (bT _ aa rfl (by exact hgt) rfl) ?_
   refine aX rfl (ai (ez (r:=n / 10) _ _ rfl rfl ab (ra h0 h1 ab)) ?_)
   refine ai (dX (r:=n / 10 % 4) _ _ rfl rfl ab (vB h0 ab)) ?_
   refine ai (jt (r:=n / 10 % 4 - 1) _ _ rfl rfl (bD ab)) ?_
   refine aX rfl (ai (ez (r:=n / 40) _ _ rfl rfl ab (ra h0 h1 ab)) ?_)
   refine ai (dX (r:=n / 40 % 4) _ _ rfl rfl ab (vB h0 ab)) ?_
   refine ai (aN _ aa rfl (by exact (rfl:_=some [_,_,_,_,_,_,_,_,_,_,_,_,_,_,_]))) ?_
   refine ai (aD (6,0) aa rfl rfl) (bG rfl rfl rfl rfl rfl rfl (aj ?_))
   refine mh (α:=Unit) (fun u=> True) 107 [(0,_),(3,_),(4,_),(5,_),(6,_)] [((60,0),_)] (fun u=> []) (fun u=> [((6,0), .box 87 [.v (.int .i64 (if decide (n / 160 % 6=5)=true then 1 else 0)), .v (.int .i64 ((hdN.getD (n % 10).toNat 0:Nat):Int)), .v (.int .i64 0), .v (.int .i64 0), .v (.int .i64 0), .v (.int .i64 0), .v (.int .i64 0), .v (.int .i64 0), .v (.int .i64 0), .v (.int .i64 0), .v (.int .i64 0), .v (.int .i64 (n / 10 % 4 - 1)), .v (.int .i64 (n / 40 % 4)), .v (.slice none 0 0), .v (.slice none 0 0)])]) [] []
    (by exact ⟨(iS rfl),(iR rfl),(iV rfl),(iV rfl),(iP rfl),trivial⟩)
    (by exact ⟨(bF rfl rfl rfl),trivial⟩) ?_ ?_
   ·skip
    refine aq ?_
    refine aM (σ':=aE 107 [(0,_),(3,_),(4,_),(5,_),(6,_)] [((60,0),_),((6,0),_)] [] []) kp ?_
    refine an (aX rfl (ai (ez (r:=n / 160) _ _ rfl rfl ab (ra h0 h1 ab)) ?_))
    refine ai (dX (r:=n / 160 % 6) _ _ rfl rfl ab (vB h0 ab)) ?_
    refine ai (bC (r:=decide (n / 160 % 6=5)) _ _ rfl rfl (by rw [Bool.eq_iff_iff];simp)) ?_
    refine aj (aR rfl (fun hc38=> ?_) (fun hc38=> ?_))
    ·skip
     refine an (bb rfl rfl rfl (bG rfl rfl rfl rfl rfl rfl (aJ (⟨(),?_,?_⟩))))
     ·trivial
     refine Le.mkJ [] [] rfl ?_ ?_ trivial trivial ?_
     ·exact ⟨(iS rfl),(iR rfl),(iV rfl),(iV rfl),(iP rfl),trivial⟩
     ·exact ⟨(bF rfl rfl rfl),(fu rfl rfl rfl rfl (ax (co (by ((rw [decide_eq_true hc38];rfl)))) (pq (nC (nC (ax (by repeat' (exact Lv.v)) (ax (by repeat' (exact Lv.v)) bf))))))),trivial⟩
     kernel_rfl
    refine bs (⟨(),?_,?_⟩)
    ·trivial
    refine Le.mkJ [] [] rfl ?_ ?_ trivial trivial ?_
    ·exact ⟨(iS rfl),(iR rfl),(iV rfl),(iV rfl),(iP rfl),trivial⟩
    ·exact ⟨(bF rfl rfl rfl),(fu rfl rfl rfl rfl (ax (co (by ((rw [decide_eq_false hc38];rfl)))) (pq (nC (nC (ax (by repeat' (exact Lv.v)) (ax (by repeat' (exact Lv.v)) bf))))))),trivial⟩
    kernel_rfl
   intro u hu
   refine am (aX rfl (aX rfl (ai (ez (r:=n / 7) _ _ rfl rfl ab (ra h0 h1 ab)) ?_)))
   refine aX rfl (ai (ez (r:=n / 11) _ _ rfl rfl ab (ra h0 h1 ab)) ?_)
   refine aX rfl (ai (ez (r:=n / 13) _ _ rfl rfl ab (ra h0 h1 ab)) ?_)
   refine aX rfl (ai (ez (r:=n / 17) _ _ rfl rfl ab (ra h0 h1 ab)) ?_)
   refine aX rfl (ai (ez (r:=n / 19) _ _ rfl rfl ab (ra h0 h1 ab)) ?_)
   refine ai (bh _ _ aa rfl ag (by simp <;> rfl) ah (by exact (rfl:_=some (cw (Ik n))))) ?_
   refine ai (aI aa al (hnm) rfl rfl) ?_
   refine bb rfl rfl rfl (bG rfl rfl rfl rfl rfl rfl (aj ?_))
   refine mh (α:=List Int) (fun L=> (if n / 960 % 2=0 then yZ n else za n)=L) 107 [(0,_),(3,_),(4,_),(5,_),(6,_)] [((60,0),_)] (fun L=> []) (fun L=> [((6,0), .box 87 [.v (.int .i64 (if decide (n / 160 % 6=5)=true then 1 else 0)), .v (.int .i64 ((hdN.getD (n % 10).toNat 0:Nat):Int)), .v (.int .i64 ((L).getD 0 0)), .v (.int .i64 ((L).getD 1 0)), .v (.int .i64 ((L).getD 2 0)), .v (.int .i64 ((L).getD 3 0)), .v (.int .i64 ((L).getD 4 0)), .v (.int .i64 ((L).getD 5 0)), .v (.int .i64 ((L).getD 6 0)), .v (.int .i64 ((L).getD 7 0)), .v (.int .i64 ((L).getD 8 0)), .v (.int .i64 (n / 10 % 4 - 1)), .v (.int .i64 (n / 40 % 4)), .v (.slice none 0 0), .v (.slice none 0 0)])]) [] []
    (by exact ⟨(iS rfl),(iR rfl),(iV rfl),(iV rfl),(iP rfl),trivial⟩)
    (by exact ⟨(bF rfl rfl rfl),trivial⟩) ?_ ?_
   ·skip
    refine aq ?_
    refine aM (σ':=aE 107 [(0,_),(3,_),(4,_),(5,_),(6,_)] [((60,0),_),((6,0),_)] [] []) kp ?_
    refine an (aX rfl (ai (ez (r:=n / 960) _ _ rfl rfl ab (ra h0 h1 ab)) ?_))
    refine ai (dX (r:=n / 960 % 2) _ _ rfl rfl ab (vB h0 ab)) ?_
    refine ai (bC (r:=decide (n / 960 % 2=0)) _ _ rfl rfl (by rw [Bool.eq_iff_iff];simp)) ?_
    refine aj (aR rfl (fun hc57=> ?_) (fun hc57=> ?_))
    ·skip
     refine an (aX rfl (ai (ez (r:=n / 960) _ _ rfl rfl ab (ra h0 h1 ab)) ?_))
     refine ai (dX (r:=n / 960 % 3) _ _ rfl rfl ab (vB h0 ab)) ?_
     refine aX rfl (ai (ez (r:=n / 5) _ _ rfl rfl ab (ra h0 h1 ab)) ?_)
     refine ai (dX (r:=n / 5 % 4) _ _ rfl rfl ab (vB h0 ab)) ?_
     refine aX rfl (ai (ez (r:=n / 9) _ _ rfl rfl ab (ra h0 h1 ab)) ?_)
     refine ai (dX (r:=n / 9 % 3) _ _ rfl rfl ab (vB h0 ab)) ?_
     refine bb rfl rfl rfl (cf rfl rfl rfl (aX rfl (ai (ez (r:=n / 3) _ _ rfl rfl ab (ra h0 h1 ab)) ?_)))
     refine ai (dX (r:=n / 3 % 5) _ _ rfl rfl ab (vB h0 ab)) ?_
     refine aX rfl (ai (ez (r:=n / 21) _ _ rfl rfl ab (ra h0 h1 ab)) ?_)
     refine ai (dX (r:=n / 21 % 2) _ _ rfl rfl ab (vB h0 ab)) ?_
     refine ai (aN _ aa rfl (by exact (rfl:_=some [_,_,_,_,_,_,_,_,_]))) ?_
     refine bb rfl rfl rfl (bG rfl rfl rfl rfl rfl rfl (aJ (⟨yZ n,?_,?_⟩)))
     ·exact if_pos hc57
     refine Le.mkJ [] [] rfl ?_ ?_ trivial trivial ?_
     ·exact ⟨(iS rfl),(iR rfl),(iV rfl),(iV rfl),(iP rfl),trivial⟩
     ·exact ⟨(bF rfl rfl rfl),(fu rfl rfl rfl rfl (pq (nC (nC (nC (ax (by repeat' (exact Lv.v)) (ax (by repeat' (exact Lv.v)) bf))))))),trivial⟩
     kernel_rfl
    refine bs (⟨za n,?_,?_⟩)
    ·exact if_neg hc57
    refine Le.mkJ [] [] rfl ?_ ?_ trivial trivial ?_
    ·exact ⟨(iS rfl),(iR rfl),(iV rfl),(iV rfl),(iP rfl),trivial⟩
    ·exact ⟨(bF rfl rfl rfl),(fu rfl rfl rfl rfl (pq (nC (nC (nC (ax (by repeat' (exact Lv.v)) (ax (by repeat' (exact Lv.v)) bf))))))),trivial⟩
    kernel_rfl
   intro L hL
   have he:=HS n rfl hL
   refine am (aX rfl (ai (ez (r:=n / 1000) _ _ rfl rfl ab (ra h0 h1 ab)) ?_))
   refine ai (dX (r:=n / 1000 % 4) _ _ rfl rfl ab (vB h0 ab)) ?_
   refine aX rfl (ai (ez (r:=n / 4000) _ _ rfl rfl ab (ra h0 h1 ab)) ?_)
   refine ai (dX (r:=n / 4000 % 4) _ _ rfl rfl ab (vB h0 ab)) ?_
   refine aX rfl (ai (ez (r:=n / 16000) _ _ rfl rfl ab (ra h0 h1 ab)) ?_)
   refine ai (dX (r:=n / 16000 % 4) _ _ rfl rfl ab (vB h0 ab)) ?_
   refine ai (bh _ _ aa rfl ag (by simp <;> rfl) ah (by exact (rfl:_=some (cw [n / 1000 % 4,n / 4000 % 4,n / 16000 % 4])))) ?_
   refine bb rfl rfl rfl (bG rfl rfl rfl rfl rfl rfl (aj (am (aX rfl (ai (ez (r:=n / 2) _ _ rfl rfl ab (ra h0 h1 ab)) ?_)))))
   refine ai (dX (r:=n / 2 % 2) _ _ rfl rfl ab (vB h0 ab)) ?_
   refine aX rfl (ai (ez (r:=n / 4) _ _ rfl rfl ab (ra h0 h1 ab)) ?_)
   refine ai (dX (r:=n / 4 % 2) _ _ rfl rfl ab (vB h0 ab)) ?_
   refine aX rfl (ai (ez (r:=n / 8) _ _ rfl rfl ab (ra h0 h1 ab)) ?_)
   refine ai (dX (r:=n / 8 % 2) _ _ rfl rfl ab (vB h0 ab)) ?_
   refine aX rfl (ai (ez (r:=n / 16) _ _ rfl rfl ab (ra h0 h1 ab)) ?_)
   refine ai (dX (r:=n / 16 % 2) _ _ rfl rfl ab (vB h0 ab)) ?_
   refine ai (bh _ _ aa rfl ag (by simp <;> rfl) ah (by exact (rfl:_=some (cw [n / 2 % 2,n / 4 % 2,n / 8 % 2,n / 16 % 2])))) ?_
   refine bb rfl rfl rfl (bG rfl rfl rfl rfl rfl rfl (aj ?_))
   refine aM (σ':=aE 107 [(0,_),(3,_),(4,_),(6,_)] [((60,0),_),((6,0),_)] [] []) kp ?_
   refine an (gI rfl (ai (az _ aa rfl rfl rfl rfl) (ai (bh (xs:=Ek (iw n)) _ _ aa rfl ag (by simp <;> rfl) ah (by rw [he];rfl)) ?_)))
   refine ai (du (105,0) _ _ aa rfl rfl q3 (.sl rfl) ab rfl q2 rfl) ?_
   refine fk rfl (ek (an (aX rfl (ai (aZ _ _ rfl rfl (bD ab)) ?_))))
   refine be rfl (aJ (⟨i+1,?_,?_,?_⟩))
   ·exact ⟨by omega,by omega⟩
   ·skip
    refine Le.mkJ [((60,0),(105,0))] [] rfl ?_ ?_ trivial trivial ?_
    ·exact ⟨(by repeat' (exact Lv.sl)),(cP rfl ag),(co ag),trivial⟩
    ·exact ⟨(fj rfl rfl rfl ag),trivial⟩
    kernel_rfl
   omega
  refine bB (id (hK3 _ ?_))
  clear hK3;try clear K3
  exact am (gI rfl (fk rfl (aj (aG (bI (.inr rfl) rfl (.tmp dW) (Le.out [] [(60,0)] (JS rfl rfl (by rw [mm,List.length_take];omega) (by congr 1;(have:i=10:=ab;rw [this])) rfl) rfl rfl rfl tr trivial))))))
 refine aK rfl rfl ah ?_
 refine aK rfl rfl ah ?_
 refine ai (aB _ _ _ rfl bJ) (aJ (hK6 _ ?_))
 clear hK6;try clear K6
 refine aW rfl rfl (bB (id (hK3 _ ?_)))
 clear hK3;try clear K3
 exact am (gI rfl (fk rfl (aj (aG (bI (.inr rfl) rfl (.tmp dW) (Le.out [] [(60,0)] (JS rfl rfl (by rw [mm,List.length_take];omega) (by congr 1;(rw [List.take_of_length_le ab,List.take_of_length_le ab])) rfl) rfl rfl rfl tr trivial))))))

abbrev HE (up:Bool) (ver ep ck:Int) (ce pe vo tm:AV) (e:Nat→Int) (wt:Int):List AV:=[.v (.bool up), .v (.int .i64 ver), .v (.int .i64 ep), .v (.int .i64 ck),ce,pe,vo,tm, .v (.int .i64 (e 0)), .v (.int .i64 (e 1)), .v (.int .i64 (e 2)), .v (.int .i64 (e 3)), .v (.int .i64 (e 4)), .v (.int .i64 (e 5)), .v (.int .i64 (e 6)), .v (.int .i64 (e 7)), .v (.int .i64 (e 8)), .v (.int .i64 (e 9)), .v (.int .i64 (e 10)), .v (.int .i64 (e 11)), .v (.int .i64 (e 12)), .v (.int .i64 (e 13)), .v (.int .i64 (e 14)), .v (.int .i64 (e 15)), .v (.int .i64 (e 16)), .v (.int .i64 (e 17)), .v (.int .i64 (e 18)), .v (.int .i64 (e 19)), .v (.int .i64 (e 20)), .v (.int .i64 (e 21)), .v (.int .i64 (e 22)), .v (.int .i64 (e 23)), .v (.int .i64 (e 24)), .v (.int .i64 (e 25)), .v (.int .i64 (e 26)), .v (.int .i64 (e 27)), .v (.int .i64 (e 28)), .v (.int .i64 (e 29)), .v (.int .i64 (e 30)), .v (.int .i64 (e 31)), .v (.int .i64 (e 32)), .v (.int .i64 (e 33)), .v (.int .i64 (e 34)), .v (.int .i64 (e 35)), .v (.int .i64 (e 36)), .v (.int .i64 (e 37)), .v (.int .i64 (e 38)), .v (.int .i64 (e 39)), .v (.int .i64 (e 40)), .v (.int .i64 wt), .v (.int .i64 0), .v (.int .i64 0)]
theorem nn (up:Bool) (ver ep ck:Int) (ce pe vo tm:AV) (e:Nat→Int) (wt:Int) (h:Nat) (hh:h < 41):(HE up ver ep ck ce pe vo tm e wt)[8+h]? =some (.v (.int .i64 (e h))):=by
 rcases (show h=0∨h=1∨h=2∨h=3∨h=4∨h=5∨h=6∨h=7∨h=8∨h=9∨h=10∨h=11∨h=12∨h=13∨h=14∨h=15∨h=16∨h=17∨h=18∨h=19∨h=20∨h=21∨h=22∨h=23∨h=24∨h=25∨h=26∨h=27∨h=28∨h=29∨h=30∨h=31∨h=32∨h=33∨h=34∨h=35∨h=36∨h=37∨h=38∨h=39∨h=40 by omega) with rfl | rfl | rfl | rfl | rfl | rfl | rfl | rfl | rfl | rfl | rfl | rfl | rfl | rfl | rfl | rfl | rfl | rfl | rfl | rfl | rfl | rfl | rfl | rfl | rfl | rfl | rfl | rfl | rfl | rfl | rfl | rfl | rfl | rfl | rfl | rfl | rfl | rfl | rfl | rfl | rfl <;> rfl
theorem sx (up:Bool) (ver ep ck:Int) (ce pe vo tm:AV) (e:Nat→Int) (wt:Int) (h:Nat) (hh:h < 41) (x:Int):fX (HE up ver ep ck ce pe vo tm e wt) (8+h) [.v (.int .i64 x)]=HE up ver ep ck ce pe vo tm (lm e h x) wt:=by
 rcases (show h=0∨h=1∨h=2∨h=3∨h=4∨h=5∨h=6∨h=7∨h=8∨h=9∨h=10∨h=11∨h=12∨h=13∨h=14∨h=15∨h=16∨h=17∨h=18∨h=19∨h=20∨h=21∨h=22∨h=23∨h=24∨h=25∨h=26∨h=27∨h=28∨h=29∨h=30∨h=31∨h=32∨h=33∨h=34∨h=35∨h=36∨h=37∨h=38∨h=39∨h=40 by omega) with rfl | rfl | rfl | rfl | rfl | rfl | rfl | rfl | rfl | rfl | rfl | rfl | rfl | rfl | rfl | rfl | rfl | rfl | rfl | rfl | rfl | rfl | rfl | rfl | rfl | rfl | rfl | rfl | rfl | rfl | rfl | rfl | rfl | rfl | rfl | rfl | rfl | rfl | rfl | rfl | rfl <;> rfl
abbrev cO (s:Ns):Nat→Int:=fun k=> s.counts.getD k 0
abbrev GB (s:Ns) (tm:AV):List AV:=HE s.up s.ver s.epoch s.clock (.sl s.dk.cells.length (cw s.dk.cells)) (.sl s.dk.pend.length (lG s.dk.pend)) (.sl s.vol.length (cw s.vol)) tm (cO s) s.wait
abbrev MP (s:Ns):List AV:=GB s (.sl s.timers.length (cw s.timers))
abbrev jZ (s:Ns):AV:= .agg (MP s)
structure jY (s:Ns):Prop where
 c:s.dk.cells.length≤1000
 p:s.dk.pend.length≤1000
 v:s.vol.length≤1000
 t:s.timers.length≤1000
theorem mP (l:List Int) (h:l.length≤1000000):Spec Tryz.prog 117 (ba [.sl l.length (cw l)] []) (aP (.ref (0,8) 0 l.length) [((0,8), .row 3 1 (cw l))]):=by
 refine Spec.ofN Tryz.func117 rfl Tryz.ntmps117 rfl ?_
 refine am (ai (bp _ fC) (aj (am (eY rfl (ai (bo _ aa rfl) (ai (pS (6,0) _ _ aa rfl rfl _ rfl rfl ab rfl rfl) ?_))))))
 refine fk rfl (aj (am (gI rfl (eY rfl (ai (CP _ _ aa rfl rfl (by simp [jA]) (.sl (by rw [aO,Nat.mul_one])) rfl rfl) ?_)))))
 exact aj (am (gI rfl (fk rfl (aj (aG (bI (.inr rfl) rfl (.tmp dW) (Le.out [((0,8),(6,0))] [] (cP rfl rfl) rfl rfl rfl trivial ⟨⟨rfl,⟨_,rfl, .rowE (by rw [List.take_of_length_le (by rw [aO];omega),List.drop_of_length_le (by simp [jA]),List.append_nil])⟩,rfl⟩,trivial⟩)))))))
theorem Ec (l:List (Int×Int)) (h:l.length≤1000000) (h0:0 < l.length):Spec Tryz.prog 118 (ba [.sl l.length (lG l)] []) (aP (.sl l.length (lG l)) []):=by
 refine Spec.ofN Tryz.func118 rfl Tryz.ntmps118 rfl ?_
 refine am (ai (bp _ fC) (aj (aq (am (eY rfl (ai (sK _ _ Tryz.underlying78 (.inl ⟨_,rfl⟩) h0 rfl) ?_))))))
 refine aj (aW rfl rfl (aT (am (ai (qM _ aa rfl) (eY rfl (ai (ta _ _ aa rfl (.sl (by rw [eJ])) ab) ?_))))))
 exact kH rfl (aj (aG (qV rfl rfl)))
theorem FL:Spec Tryz.prog 118 (ba [.sl 0 (lG [])] []) (aP (.sl 0 (lG [])) []):=by
 refine Spec.ofN Tryz.func118 rfl Tryz.ntmps118 rfl ?_
 refine am (ai (bp _ fC) (aj (aq (am (eY rfl (AY (tB _ _ Tryz.underlying78 rfl rfl) ?_))))))
 rintro _ ⟨b4,rfl⟩
 refine aj (aR rfl (fun hc4=> ?_) (fun hc4=> ?_))
 ·skip
  exact am (ai (bp _ fC) (aj (aG (bI (.inr rfl) rfl (.tmp lb) (Le.out [] [] .nil rfl rfl rfl trivial trivial)))))
 refine aT (am (ai (qM _ aa rfl) (eY rfl (ai (ta _ _ aa rfl (.sl rfl) ab) ?_))))
 exact kH rfl (aj (aG (qV rfl rfl)))
theorem vh (l:List (Int×Int)) (h:l.length≤1000000):Spec Tryz.prog 118 (ba [.sl l.length (lG l)] []) (aP (.sl l.length (lG l)) []):=by
 by_cases h0:0 < l.length
 ·exact Ec l h h0
 obtain rfl:l=[]:=List.eq_nil_of_length_eq_zero ab
 exact FL
set_option maxHeartbeats 1000000 in
theorem kj (s:Ns) (hs:jY s):Spec Tryz.prog 86 (ba [jZ s] []) (aP (.agg (GB s (.ref (1,8) 0 s.timers.length))) [((1,8), .row 3 1 (cw s.timers))]):=by
 have f1:=mP s.vol (by have:=hs.v;omega)
 have f2:=mP s.timers (by have:=hs.t;omega)
 have f3:=mP s.dk.cells (by have:=hs.c;omega)
 have f4:=vh s.dk.pend (by have:=hs.p;omega)
 refine Spec.ofN Tryz.func86 rfl Tryz.ntmps86 rfl ?_
 refine am (ai (aQ (1,0) _ rfl rfl) (ai (aD (2,0) aa rfl rfl) (aj (am (ai (bp _ lp) (aj (aq (bO 14 [4,5,6,7,8,9,10,11,12,13,14,15,16,17] [(7,0),(11,0),(16,0)] ae ae rfl (aL rfl) (rfl:_=[_,_,_,_,_,_,_,_,_,_,_,_,_,_]) (rfl:_=[_,_,_,_,_,_]) ?_))))))))
 refine ap (_,[]) (fun τ=> aH _ lp) ?_
 refine fP rfl ?_
 refine ap (_,[]) (fun τ=> aA _ aa rfl rfl rfl) ?_
 refine fQ rfl ?_
 refine ap (_,[]) (fun τ=> aF _ aa rfl rfl eG) ?_
 refine fU rfl ?_
 refine ap (_,[((7,0),_)]) (fun τ=> (oG rfl aa [((0,8),(7,0))] ar (f1.toI) trivial tr tr rfl rfl ae ae)) ?_
 refine fY rfl ?_
 refine ap (_,[]) (fun τ=> aH _ lp) ?_
 refine gz rfl ?_
 refine ap (_,[]) (fun τ=> aA _ aa rfl rfl rfl) ?_
 refine gZ rfl ?_
 refine ap (_,[]) (fun τ=> aF _ aa rfl rfl eG) ?_
 refine jg rfl ?_
 refine ap (_,[((11,0),_)]) (fun τ=> (oG rfl aa [((0,8),(11,0))] ar (f2.toI) trivial tr tr rfl rfl ae ae)) ?_
 refine ka rfl ?_
 refine ap (_,[]) (fun τ=> aH _ lp) ?_
 refine kG rfl ?_
 refine ap (_,[]) (fun τ=> aA _ aa rfl rfl rfl) ?_
 refine fW rfl ?_
 refine ap (_,[]) (fun τ=> aA _ aa rfl rfl rfl) ?_
 refine gL rfl ?_
 refine ap (_,[]) (fun τ=> aF _ aa rfl rfl eG) ?_
 refine kP rfl ?_
 refine ap (_,[((16,0),_)]) (fun τ=> (oG rfl aa [((0,8),(16,0))] ar (f3.toI) trivial tr tr rfl rfl ae ae)) ?_
 refine mt rfl ?_
 refine ap (_,[]) (fun τ=> aA _ aa rfl rfl rfl) ?_
 refine pw rfl (bm ⟨rfl,?_⟩)
 refine bG rfl rfl rfl rfl rfl rfl (bb rfl rfl rfl (bG rfl rfl rfl rfl rfl rfl (bb rfl rfl rfl (bb rfl rfl rfl (bG rfl rfl rfl rfl rfl rfl (aj (aq ?_)))))))
 refine aM (σ':=aE 28 [(1,_),(2,_)] [((1,0),_),((2,0),_),((7,0),_),((11,0),_),((16,0),_)] [] []) kp ?_
 refine an (bb rfl rfl rfl (bb rfl rfl rfl (eZ rfl rfl rfl (ai (aI aa al (f4) rfl rfl) ?_))))
 exact bb rfl rfl rfl (bb rfl rfl rfl (bG rfl rfl rfl rfl rfl rfl (aj (am (ai (az _ aa rfl rfl rfl rfl) (bG rfl rfl rfl rfl rfl rfl (aj (aG (bI (.inr rfl) rfl (.cellA aa rfl rfl rfl) (Le.out [((1,8),(11,0))] [(7,0),(16,0)] (.agg rfl (zu (ax (Er rfl rfl rfl rfl) (ax .sl (ax (Er rfl rfl rfl rfl) lz))))) rfl rfl rfl tr ob))))))))))
theorem yp (d:Dk) (h1:d.cells.length≤1000000) (h2:d.pend.length≤1000000) (ho:jH d):
  Spec Tryz.prog 115 (ba [rI d] []) (aP (.agg [.ref (0,8) 0 d.cells.length, .v (.slice none 0 0)]) [((0,8), .row 3 1 (cw d.view))]):=by
 have hd:=hG d h1 h2
 have ha:=jm d.cells d.pend h2 h1 ho
 refine Spec.ofN Tryz.func115 rfl Tryz.ntmps115 rfl ?_
 refine am (ai (aQ (1,0) _ rfl rfl) (ai (aD (2,0) aa rfl rfl) (aj (am (ai (az _ aa rfl rfl rfl rfl) (ai (cm aa [((0,8),(5,0)),((1,8),(5,1))] ar (hd.toI) trivial tr ae) ?_))))))
 refine ai (aD (3,0) aa rfl rfl) (bG rfl rfl rfl rfl rfl rfl (aj (aU fun K3 hK3=> ?_)))
 refine aM (Le.frzB (ys:=lG d.pend) (3,0) 1 rfl rfl rfl rfl (by rw [List.drop_zero,qU]) (by rw [eJ];omega)) ?_
 refine an (bb rfl rfl rfl (ai (aF _ aa rfl rfl ei) (bb rfl rfl rfl (eZ rfl rfl rfl (ai (cm aa [((0,9),(5,0))] ar (ha) ob tr ae) ?_)))))
 refine aJ (hK3 _ ?_)
 clear hK3;try clear K3
 exact am (bb rfl rfl rfl (bG rfl rfl rfl rfl rfl rfl (aj (am (ai (az _ aa rfl rfl rfl rfl) (bG rfl rfl rfl rfl rfl rfl (aj (aG (bI (.inr rfl) rfl (.cellA aa rfl rfl rfl) (Le.out [((0,8),(5,0))] [] (.agg rfl lz) rfl rfl rfl trivial ob))))))))))
theorem sh (d:Dk) (h1:d.cells.length≤1000000) (h2:d.pend.length≤1000000) (ho:jH d):
  Spec Tryz.prog 82 (ba [rI d] []) (aP (.ref (0,8) 0 d.cells.length) [((0,8), .row 3 1 (cw d.view))]):=by
 have hs:=yp d h1 h2 ho
 refine Spec.ofN Tryz.func82 rfl Tryz.ntmps82 rfl ?_
 refine am (ai (aQ (1,0) _ rfl rfl) (ai (bp _ fC) (aj (am (ai (az _ aa rfl rfl rfl rfl) (ai (cm aa [((0,8),(4,0))] ar (hs.toI) trivial tr ae) ?_))))))
 exact ai (AD _ aa rfl ei) (fk rfl (aj (aG (bI (.inr rfl) rfl (.tmp dW) (Le.out [((0,8),(4,0))] [] (cP rfl rfl) rfl rfl rfl trivial ob)))))
theorem sC (a b:List Int):cw a++cw b=cw (a++b):=by simp [cw]
theorem qE (s:Ns) (hs:jY s) (ho:jH s.dk):Spec Tryz.prog 47 (ba [jZ s] []) (aP (.sl (s.dk.view++s.vol).length (cw (s.dk.view++s.vol))) []):=by
 have hc:=hs.c
 have hp:=hs.p
 have hv:=hs.v
 have hw:=sh s.dk ab ab ho
 have hl:s.dk.view.length=s.dk.cells.length:=gu _ _
 have hl2:s.dk.cells.length+s.vol.length=(s.dk.view++s.vol).length:=by rw [List.length_append,hl]
 refine Spec.ofN Tryz.func47 rfl Tryz.ntmps47 rfl ?_
 refine am (ai (aQ (1,0) _ rfl rfl) (ai (bp _ fC) (aj (aq (pL 6 [3,4,5,6,7,8] [(5,0),(5,0),(8,0)] ae ae rfl (rfl:_=[_,_,_,_,_,_]) (rfl:_=[_]) ?_)))))
 refine cD (_,[]) (fun τ=> aA _ aa rfl rfl rfl) ?_
 refine cB (rfl:_=[_]) ?_
 refine cD (_,[]) (fun τ=> az _ aa rfl rfl rfl rfl) ?_
 refine cB (rfl:_=[_,_]) ?_
 refine cD (_,[((5,0),_)]) (fun τ=> (bW aa [((0,8),(5,0))] ar (hw.toI) trivial tr tr rfl rfl ae ae)) ?_
 refine cB (rfl:_=[_,_,_]) ?_
 refine cD (_,[]) (fun τ=> aA _ aa rfl rfl rfl) ?_
 refine cB (rfl:_=[_,_,_,_]) ?_
 refine cD (_,[]) (fun τ=> aF _ aa rfl rfl eG) ?_
 refine cB (rfl:_=[_,_,_,_,_]) ?_
 refine cD (_,[((5,0), .gone),((8,0), .gone)]) (fun τ=> Ch (8,0) _ _ aa rfl rfl (by rw [aO,hl,Nat.mul_one]) (.sl (by rw [aO,Nat.mul_one])) ab rfl rfl rfl (sC _ _) hl2) ?_
 refine cB (rfl:_=[_,_,_,_,_,_]) ?_
 refine nI ⟨⟨rfl,by kernel_rfl,by kernel_rfl⟩,?_⟩
 exact kH rfl (aj (aG (qV rfl rfl)))

theorem ix (s:Ns) (a:Na) (h:Nat) (hh:h < 41) (h1:a.draws.length≤1000) (h2:a.keeps.length≤1000):
  Spec Tryz.prog 52 (ba [jZ s,Ax a, .v (.int .i64 (h:Int))] []) (aP (.ptr (4,8) 0) [((4,8), .box 103 [.v (.int .i64 1), .v (.int .i64 (h:Int)), .v (.int .i64 (cO s h)), .sl (ll 1 (h:Int) (cO s h) a.tick a.draws a.keeps).length (ri (ll 1 (h:Int) (cO s h) a.tick a.draws a.keeps)), .v (.slice none 0 0)])]):=by
 have hg:=nn s.up s.ver s.epoch s.clock (.sl s.dk.cells.length (cw s.dk.cells)) (.sl s.dk.pend.length (lG s.dk.pend)) (.sl s.vol.length (cw s.vol)) (.sl s.timers.length (cw s.timers)) (cO s) s.wait h hh
 have ha:=sD 1 (h:Int) (cO s h) a h1 h2
 generalize ll 1 (h:Int) (cO s h) a.tick a.draws a.keeps=A at ha
 refine Spec.ofN Tryz.func52 rfl Tryz.ntmps52 rfl ?_
 refine am (ai (aQ (3,0) _ rfl rfl) (ai (aQ (4,0) _ rfl rfl) (ai (bp _ lb) (aj (am (aX rfl (aX rfl (bb rfl rfl rfl (ai (da _ _ aa rfl rfl rfl h rfl ab (by exact congrArg (fun z=> 0+8+z) (Nat.mul_one h))) ?_)))))))))
 refine ai (aF _ aa rfl rfl (by exact (congrArg (fun z=> (MP s)[z]?) (show 0+8+h=8+h by omega)).trans hg)) ?_
 refine ai (aN _ aa rfl (by exact (rfl:_=some [_,_,_]))) ?_
 refine ai (aD (7,0) aa rfl rfl) (bG rfl rfl rfl rfl rfl rfl (aj (aq ?_)))
 refine aM (σ':=aE 20 [(4,_),(7,_)] [((4,0),_),((7,0),_)] [] []) kp ?_
 refine bO 7 [14,15,16,17,18,19,6] [(19,0)] ae ae rfl (aL rfl) (rfl:_=[_,_,_,_,_,_,_]) (rfl:_=[]) ?_
 refine ap (_,[]) (fun τ=> az _ aa rfl rfl rfl rfl) ?_
 refine fP rfl ?_
 refine ap (_,[]) (fun τ=> az _ aa rfl rfl rfl rfl) ?_
 refine fQ rfl ?_
 refine ap (_,[]) (fun τ=> az _ aa rfl rfl rfl rfl) ?_
 refine fU rfl ?_
 refine ap (_,[]) (fun τ=> (aI aa al (ha) rfl rfl)) ?_
 refine fY rfl ?_
 refine ap (_,[]) (fun τ=> aN _ aa rfl (by exact (rfl:_=some [AV.v _,AV.v _,AV.v _,AV.sl _ _,AV.v _]))) ?_
 refine gz rfl ?_
 refine ap (_,[((19,0),_)]) (fun τ=> aQ (19,0) _ rfl rfl) ?_
 refine gZ rfl ?_
 refine ap (_,[]) (fun τ=> bp _ bX) ?_
 refine jg rfl (bm ⟨rfl,?_⟩)
 exact aj (aG (bI (.inr rfl) rfl (.tmp bX) (Le.out [((4,8),(19,0))] [] (dJ rfl) rfl rfl rfl trivial ob)))
theorem rt:Spec Tryz.prog 41 (ba [] []) (aP (jZ {}) []):=by
 refine Spec.ofN Tryz.func41 rfl Tryz.ntmps41 rfl ?_
 refine am (ai (aD (0,0) aa rfl rfl) (aj (am (ai (aN _ aa rfl (by exact (rfl:_=some [_,_,_,_,_,_,_,_,_,_,_,_,_,_,_,_,_,_,_,_,_,_,_,_,_,_,_,_,_,_,_,_,_,_,_,_,_,_,_,_,_,_,_,_,_,_,_,_,_,_,_,_]))) ?_))))
 exact bG rfl rfl rfl rfl rfl rfl (aj (aG (bI (.inr rfl) rfl (.cellA aa rfl rfl rfl) (Le.out [] [] (.agg rfl lz) rfl rfl rfl trivial trivial))))
theorem zL (x:Int):Spec Tryz.prog 228 (ba [.v (.int .i64 x)] []) (aP (.v (.bool false)) []):=by
 refine Spec.ofN Tryz.func228 rfl Tryz.ntmps228 rfl ?_
 refine am (cu rfl (aj (am (aX rfl (aX rfl (ai (bL (r:=false) _ _ rfl rfl (bne_self_eq_false _)) ?_))))))
 exact cu rfl (aj (aG (fv rfl rfl)))
theorem yY (x:Int):Spec Tryz.prog 208 (ba [.v (.int .i64 x)] []) (aP (.v (.bool false)) []):=by
 refine Spec.ofN Tryz.func208 rfl Tryz.ntmps208 rfl ?_
 refine am (cu rfl (aj (am (aX rfl (aX rfl (ai (bL (r:=false) _ _ rfl rfl (bne_self_eq_false _)) ?_))))))
 exact cu rfl (aj (aG (fv rfl rfl)))
theorem xT (a b:Int):Spec Tryz.prog 207 (ba [.v (.int .i64 a), .v (.int .i64 b)] []) (aP (.v (.bool (decide (a < b)))) []):=by
 refine Spec.ofN Tryz.func207 rfl Tryz.ntmps207 rfl ?_
 refine am (cu rfl (aj (am (aX rfl (ai (aI aa al (zL a) rfl rfl) ?_)))))
 refine cE rfl (aK rfl rfl ah ?_)
 refine aK rfl rfl ah ?_
 refine aK rfl rfl ah ?_
 refine ai (aB _ _ _ rfl bJ) (cE rfl (au rfl rfl (aH _ eg) (au rfl rfl (aH _ eg) (au rfl rfl (bl (r:=decide (a < b)) _ _ rfl rfl rfl) ?_))))
 exact ai (aB _ _ _ rfl bJ) (cu rfl (aj (aG (fv rfl rfl))))
theorem kT (l:List Int) (k:Int) (hl:l.length≤1):
  Spec Tryz.prog 184 (ba [.sl l.length (cw l), .v (.int .i64 k)] []) (aP (.tup [.v (.int .i64 (if 0 < l.length∧l.getD 0 0 < k then 1 else 0)), .v (.bool (decide (0 < l.length∧l.getD 0 0=k)))]) []):=by
 have hg:=fun h:0 < l.length=> eb l 0 h
 refine Spec.ofN Tryz.func184 rfl Tryz.ntmps184 rfl ?_
 refine am (be rfl (cu rfl (aj (am (eY rfl (ai (bo _ aa rfl) (be rfl (aj (am (aX rfl ?_))))))))))
 refine be rfl (be rfl (aj (aU fun K4 hK4=> ?_)))
 refine ay ?_
 refine bq (α:=Nat×Nat) (fun z=> z.1≤z.2∧z.2≤l.length∧(0 < z.1→l.getD 0 0 < k)∧(z.2 < l.length→ ¬ l.getD 0 0 < k)) 54 [(0,_),(1,_),(6,_)] [] (fun z=> [(7, .v (.int .i64 (z.1:Int))),(8, .v (.int .i64 (z.2:Int)))]) (fun z=> []) [] [] (fun z=> z.2 - z.1) (0,l.length) ?_ (by
  refine Le.mkJ [] [] rfl ?_ ?_ trivial trivial ?_
  ·exact ⟨(iS rfl),(iV rfl),(iV rfl),(co ag),(co ag),trivial⟩
  ·exact trivial
  kernel_rfl) ?_
 ·exact ⟨Nat.zero_le _,Nat.le_refl _,fun h=> absurd h (Nat.lt_irrefl _),fun h=> absurd h (Nat.lt_irrefl _)⟩
 intro z hz
 obtain ⟨i,j⟩:=z
 simp only at hz ⊢
 obtain ⟨hz1,hz2,hz3,hz4⟩:=hz
 refine aU fun K5 hK5=> ?_
 refine am (aX rfl (aX rfl (ai (bl _ _ rfl rfl rfl) (aj (aR rfl (fun hc15=> ?_) (fun hc15=> ?_))))))
 ·skip
  obtain rfl:i=0:=by omega
  obtain rfl:j=1:=by omega
  have hls:=xT (l.getD 0 0) k
  refine bs (hK5 _ ?_)
  clear hK5;try clear K5
  refine ay (am (aX rfl (aX rfl (ai (aZ (r:=1) _ _ rfl rfl rfl) ?_))))
  refine ai (ti _ Tryz.underlying3 Tryz.underlying243 rfl (MC ab)) ?_
  refine ai (GT _ _ rfl rfl ab rfl) ?_
  refine ai (ti _ Tryz.underlying243 Tryz.underlying3 rfl rfl) (be rfl (aj (am (eY rfl (aX rfl (ai (bn _ _ aa rfl rfl 0 rfl ab (by rw [aO];omega) rfl) ?_))))))
  refine ai (bT _ aa rfl (by exact hg ab) rfl) ?_
  refine aX rfl (ai (aI aa al (hls) rfl rfl) ?_)
  refine aj (aR rfl (fun hc27=> ?_) (fun hc27=> ?_))
  ·skip
   refine aM (σ':=aE 54 [(0,_),(1,_),(6,_),(8,_),(9,_)] [] [] []) kp ?_
   refine an (aX rfl (ai (aZ _ _ rfl rfl rfl) (be rfl (aJ (⟨(1,1),?_,?_,?_⟩)))))
   ·exact ⟨Nat.le_refl _,hz2,fun _=> hc27,fun h=> absurd h ab⟩
   ·skip
    refine Le.mkJ [] [] rfl ?_ ?_ trivial trivial ?_
    ·exact ⟨(iS rfl),(iV rfl),(iV rfl),(co ag),(co ag),trivial⟩
    ·exact trivial
    kernel_rfl
   simp only;omega
  refine aM (σ':=aE 54 [(0,_),(1,_),(6,_),(7,_),(9,_)] [] [] []) kp ?_
  refine an (aX rfl (be rfl (aJ (⟨(0,0),?_,?_,?_⟩))))
  ·exact ⟨Nat.le_refl _,Nat.zero_le _,fun h=> absurd h (Nat.lt_irrefl _),fun _=> by omega⟩
  ·skip
   refine Le.mkJ [] [] rfl ?_ ?_ trivial trivial ?_
   ·exact ⟨(iS rfl),(iV rfl),(iV rfl),(co ag),(co ag),trivial⟩
   ·exact trivial
   kernel_rfl
  simp only;omega
 have hI:(i:Int)=if 0 < l.length∧l.getD 0 0 < k then 1 else 0:=by split <;> omega
 refine bB (id (hK4 _ ?_))
 clear hK4;try clear K4
 refine am (aX rfl (aX rfl (aX rfl (ai (bl _ _ rfl rfl rfl) (cE rfl (dw (fun hg35=> ?_) (fun hg35=> ?_)))))))
 ·skip
  obtain rfl:i=0:=by omega
  refine au rfl rfl (aH _ mL) (au rfl rfl (aH _ eg) (au rfl rfl (bn _ _ aa rfl rfl 0 rfl ab (by rw [aO];omega) rfl) ?_))
  refine au rfl rfl (bT _ aa rfl (by exact hg ab) rfl) ?_
  refine au rfl rfl (aH _ eg) (au rfl rfl (bC (r:=decide (l.getD 0 0=k)) _ _ rfl rfl (by rw [Bool.eq_iff_iff];simp)) ?_)
  refine au rfl rfl (aH _ bJ) (dw (fun hg42=> ?_) (fun hg42=> ?_))
  ·skip
   refine aK rfl rfl ah ?_
   refine aK rfl rfl ah ?_
   refine aK rfl rfl ah ?_
   refine aK rfl rfl ah ?_
   refine aK rfl rfl ah ?_
   refine aK rfl rfl ah ?_
   refine eN rfl rfl (eN rfl rfl (aK rfl rfl ah ?_))
   exact au rfl rfl (aB _ _ _ rfl bJ) (ai (aB _ _ _ rfl bJ) (be rfl (cu rfl (aj (aG (jW (.inr rfl) rfl (.tmp eg) (.tmp bJ) (Le.out [] [] (.tup rfl (ax (co hI.symm) (ax (mw (decide_eq_true ⟨by omega,hg42⟩)) bf))) rfl rfl rfl trivial trivial)))))))
  refine au rfl rfl (aH _ mL) (au rfl rfl (aH _ eg) (au rfl rfl (bn _ _ aa rfl rfl 0 rfl ab (by rw [aO];omega) rfl) ?_))
  refine au rfl rfl (bT _ aa rfl (by exact hg ab) rfl) ?_
  refine au rfl rfl (aI aa al (yY (l.getD 0 0)) rfl rfl) ?_
  refine au rfl rfl (aH _ bJ) (aK rfl rfl ah ?_)
  refine aK rfl rfl ah ?_
  exact au rfl rfl (aB _ _ _ rfl bJ) (au rfl rfl (aB _ _ _ rfl bJ) (ai (aB _ _ _ rfl bJ) (be rfl (cu rfl (aj (aG (jW (.inr rfl) rfl (.tmp eg) (.tmp bJ) (Le.out [] [] (.tup rfl (ax (co hI.symm) (ax (mw (decide_eq_false (fun h=> hg42 h.2))) bf))) rfl rfl rfl trivial trivial))))))))
 refine aK rfl rfl ah ?_
 refine aK rfl rfl ah ?_
 refine aK rfl rfl ah ?_
 refine aK rfl rfl ah ?_
 refine aK rfl rfl ah ?_
 refine aK rfl rfl ah ?_
 refine aK rfl rfl ah ?_
 refine eN rfl rfl (eN rfl rfl (eN rfl rfl (eN rfl rfl (eN rfl rfl (eN rfl rfl (eN rfl rfl (eN rfl rfl (eN rfl rfl (aK rfl rfl ah ?_)))))))))
 exact ai (aB _ _ _ rfl bJ) (be rfl (cu rfl (aj (aG (jW (.inr rfl) rfl (.tmp eg) (.tmp bJ) (Le.out [] [] (.tup rfl (ax (co hI.symm) (ax (mw (decide_eq_false (fun h=> by omega))) bf))) rfl rfl rfl trivial trivial))))))
theorem tD (k:Int):Spec Tryz.prog 185 (aY [.ref (0,9) 0 0, .v (.int .i64 0), .sl 1 (cw [k])] [((0,9), .row 3 1 [])]) (bc (.ref (0,8) 0 1) [((0,8), .row 3 1 (cw [k]))] [(0,8)] []):=by
 refine Spec.ofNI Tryz.func185 rfl Tryz.ntmps185 rfl ?_
 refine am (ai (bp _ fC) (aj (am (gI rfl (aX rfl (ai (zE _ _ _ aa rfl rfl 0 0 (.lit rfl rfl) .dflt ab ab rfl rfl) ?_))))))
 refine aj (am (eY rfl (ai (bo _ aa rfl) (be rfl (aj (aq (am (aX rfl (gM rfl rfl rfl (aj ?_))))))))))
 refine aW rfl rfl (aT (am (gI rfl (ai (cV _ aa rfl rfl) (be rfl (aj (aq (am (aX rfl (aX rfl ?_))))))))))
 refine kf rfl rfl rfl (aj (bM rfl rfl (aq ?_)))
 refine aM (σ':=aE 95 [(0,_),(2,_)] [((0,9),_)] [(0,9)] []) kp ?_
 refine an (gI rfl (eY rfl (cA (Le.incT (25,0) rfl) ?_)))
 refine ai (mZ (b:=true) (25,0) _ _ aa rfl rfl rfl (.sl rfl) ab rfl rfl rfl rfl rfl) ?_
 exact fk rfl (aj (aG (bI (.inr rfl) rfl (.tmp dW) (Le.outI [((0,8),(25,0))] [] (cP rfl rfl) rfl rfl rfl trivial ob trivial rfl))))
end Go.Proofs.YtmjnackchaahbaaGreat
