/- Part 18 of the texts that the walk leans on: the machine, the walks, the plain laws. -/
import Derived.Shelf.SlIterI.Nil
import Derived.Shelf.SortM.Plain
import Derived.Shelf.SortM.SortNone
import Derived.Ground.GgzProg
import Derived.Ground.SlgmProg
import Derived.Test.YtmjnackchaahbaaGreatVbZ17
set_option linter.unusedSimpArgs false
set_option linter.unusedVariables false
namespace Go.Proofs.YtmjnackchaahbaaGreat
open Go.RowKit Go.Maps Go.Sort Go.Shelf

def mG:Go.Shelf.Ren:=⟨fun | 7=> 95 | 10=> 158 | n=> n,fun | 23=> 175 | 26=> 3 | 3=> 176 | 28=> 179 | 0=> 0 | 27=> 178 | 33=> 216 | 4=> 4 | n=> n,fun | n=> n⟩
theorem Bi:Go.Proofs.SlLaysZI.n7 Tryz.prog mG:=
  { mixed:=by kernel_rfl,
    f7:=⟨Tryz.f95.name,by decide,Tryz.func95.trans (congrArg some ae)⟩,
    f10:=⟨Tryz.f158.name,by decide,Tryz.func158.trans (congrArg some ae)⟩,
    t0:=Tryz.underlying0,
    a0:=Tryz.isAgg0,
    z0:=Tryz.sizeOf0,
    v0:=Tryz.zeroValue0,
    t4:=Tryz.underlying4,
    a4:=Tryz.isAgg4,
    z4:=Tryz.sizeOf4,
    v4:=Tryz.zeroValue4,
    t23:=Tryz.underlying175,
    a23:=Tryz.isAgg175,
    z23:=Tryz.sizeOf175,
    v23:=Tryz.zeroValue175,
    t26:=Tryz.underlying3,
    a26:=Tryz.isAgg3,
    z26:=Tryz.sizeOf3,
    v26:=Tryz.zeroValue3,
    t27:=Tryz.underlying178,
    a27:=Tryz.isAgg178,
    z27:=Tryz.sizeOf178,
    v27:=Tryz.zeroValue178,
    t28:=Tryz.underlying179,
    a28:=Tryz.isAgg179,
    z28:=Tryz.sizeOf179,
    v28:=Tryz.zeroValue179,
    t33:=Tryz.underlying216,
    a33:=Tryz.isAgg216,
    z33:=Tryz.sizeOf216,
    v33:=Tryz.zeroValue216 }
def kF:Go.Shelf.Ren:=⟨fun | 6=> 94 | 8=> 156 | 9=> 157 | 11=> 191 | 13=> 193 | 12=> 192 | 23=> 219 | 24=> 220 | 14=> 211 | 15=> 212 | 16=> 213 | 17=> 214 | 18=> 215 | 19=> 216 | 20=> 207 | 21=> 217 | 22=> 218 | 25=> 230 | 26=> 231 | 27=> 232 | 28=> 233 | 29=> 234 | 30=> 228 | 31=> 239 | n=> n,fun | 26=> 3 | 28=> 179 | 24=> 22 | 0=> 0 | 3=> 3 | 37=> 243 | 48=> 260 | 50=> 262 | 4=> 4 | 40=> 254 | 39=> 253 | 45=> 193 | 5=> 5 | 9=> 9 | 51=> 265 | 55=> 269 | 57=> 272 | 58=> 273 | 33=> 216 | n=> n,fun | n=> n⟩
theorem wn:Go.Proofs.SlLaysZI.n6 Tryz.prog kF:=
  { mixed:=by kernel_rfl,
    f6:=⟨Tryz.f94.name,by decide,Tryz.func94.trans (congrArg some ae)⟩,
    f8:=⟨Tryz.f156.name,by decide,Tryz.func156.trans (congrArg some ae)⟩,
    f11:=⟨Tryz.f191.name,by decide,Tryz.func191.trans (congrArg some ae)⟩,
    t0:=Tryz.underlying0,
    a0:=Tryz.isAgg0,
    z0:=Tryz.sizeOf0,
    v0:=Tryz.zeroValue0,
    t24:=Tryz.underlying22,
    a24:=Tryz.isAgg22,
    z24:=Tryz.sizeOf22,
    v24:=Tryz.zeroValue22,
    t26:=Tryz.underlying3,
    a26:=Tryz.isAgg3,
    z26:=Tryz.sizeOf3,
    v26:=Tryz.zeroValue3,
    t28:=Tryz.underlying179,
    a28:=Tryz.isAgg179,
    z28:=Tryz.sizeOf179,
    v28:=Tryz.zeroValue179,
    i26:=by kernel_rfl }
def rE:Go.Shelf.Ren:=⟨fun | 5=> 157 | 8=> 193 | 7=> 192 | 19=> 219 | 20=> 220 | 10=> 211 | 11=> 212 | 12=> 213 | 13=> 214 | 14=> 215 | 15=> 216 | 16=> 207 | 17=> 217 | 18=> 218 | 30=> 230 | 31=> 231 | 32=> 232 | 33=> 233 | 34=> 234 | 35=> 228 | 40=> 239 | n=> n,fun | 23=> 22 | 25=> 3 | 3=> 3 | 32=> 243 | 22=> 22 | 0=> 0 | 44=> 260 | 46=> 262 | 4=> 4 | 36=> 254 | 35=> 253 | 41=> 193 | 5=> 5 | 9=> 9 | 53=> 265 | 57=> 269 | 63=> 272 | 64=> 273 | n=> n,fun | n=> n⟩
theorem uy:Go.Proofs.SlLaysM.n5 Tryz.prog rE:=
  { mixed:=by kernel_rfl,
    f5:=⟨Tryz.f157.name,by decide,Tryz.func157.trans (congrArg some ae)⟩,
    f7:=⟨Tryz.f192.name,by decide,Tryz.func192.trans (congrArg some ae)⟩,
    f8:=Tryz.func193.trans (congrArg some ae),
    f10:=⟨Tryz.f211.name,by decide,Tryz.func211.trans (congrArg some ae)⟩,
    f11:=⟨Tryz.f212.name,by decide,Tryz.func212.trans (congrArg some ae)⟩,
    f12:=⟨Tryz.f213.name,by decide,Tryz.func213.trans (congrArg some ae)⟩,
    f13:=⟨Tryz.f214.name,by decide,Tryz.func214.trans (congrArg some ae)⟩,
    f14:=⟨Tryz.f215.name,by decide,Tryz.func215.trans (congrArg some ae)⟩,
    f15:=⟨Tryz.f216.name,by decide,Tryz.func216.trans (congrArg some ae)⟩,
    f16:=⟨Tryz.f207.name,by decide,Tryz.func207.trans (congrArg some ae)⟩,
    f17:=⟨Tryz.f217.name,by decide,Tryz.func217.trans (congrArg some ae)⟩,
    f18:=⟨Tryz.f218.name,by decide,Tryz.func218.trans (congrArg some ae)⟩,
    f19:=Tryz.func219.trans (congrArg some ae),
    f20:=Tryz.func220.trans (congrArg some ae),
    f30:=⟨Tryz.f230.name,by decide,Tryz.func230.trans (congrArg some ae)⟩,
    f31:=Tryz.func231.trans (congrArg some ae),
    f32:=Tryz.func232.trans (congrArg some ae),
    f33:=⟨Tryz.f233.name,by decide,Tryz.func233.trans (congrArg some ae)⟩,
    f34:=⟨Tryz.f234.name,by decide,Tryz.func234.trans (congrArg some ae)⟩,
    f35:=⟨Tryz.f228.name,by decide,Tryz.func228.trans (congrArg some ae)⟩,
    f40:=⟨Tryz.f239.name,by decide,Tryz.func239.trans (congrArg some ae)⟩,
    t0:=Tryz.underlying0,
    a0:=Tryz.isAgg0,
    z0:=Tryz.sizeOf0,
    v0:=Tryz.zeroValue0,
    t3:=Tryz.underlying3,
    a3:=Tryz.isAgg3,
    z3:=Tryz.sizeOf3,
    v3:=Tryz.zeroValue3,
    t4:=Tryz.underlying4,
    a4:=Tryz.isAgg4,
    z4:=Tryz.sizeOf4,
    v4:=Tryz.zeroValue4,
    t5:=Tryz.underlying5,
    a5:=Tryz.isAgg5,
    z5:=Tryz.sizeOf5,
    v5:=Tryz.zeroValue5,
    t9:=Tryz.underlying9,
    a9:=Tryz.isAgg9,
    z9:=Tryz.sizeOf9,
    v9:=Tryz.zeroValue9,
    t22:=Tryz.underlying22,
    a22:=Tryz.isAgg22,
    z22:=Tryz.sizeOf22,
    v22:=Tryz.zeroValue22,
    t23:=Tryz.underlying22,
    a23:=Tryz.isAgg22,
    z23:=Tryz.sizeOf22,
    v23:=Tryz.zeroValue22,
    t25:=Tryz.underlying3,
    a25:=Tryz.isAgg3,
    z25:=Tryz.sizeOf3,
    v25:=Tryz.zeroValue3,
    t32:=Tryz.underlying243,
    a32:=Tryz.isAgg243,
    z32:=Tryz.sizeOf243,
    v32:=Tryz.zeroValue243,
    t35:=Tryz.underlying253,
    a35:=Tryz.isAgg253,
    z35:=Tryz.sizeOf253,
    v35:=Tryz.zeroValue253,
    t36:=Tryz.underlying254,
    a36:=Tryz.isAgg254,
    z36:=Tryz.sizeOf254,
    v36:=Tryz.zeroValue254,
    t41:=Tryz.underlying193,
    a41:=Tryz.isAgg193,
    z41:=Tryz.sizeOf193,
    v41:=Tryz.zeroValue193,
    t44:=Tryz.underlying260,
    a44:=Tryz.isAgg260,
    z44:=Tryz.sizeOf260,
    v44:=Tryz.zeroValue260,
    t46:=Tryz.underlying262,
    a46:=Tryz.isAgg262,
    z46:=Tryz.sizeOf262,
    v46:=Tryz.zeroValue262,
    t53:=Tryz.underlying265,
    a53:=Tryz.isAgg265,
    z53:=Tryz.sizeOf265,
    v53:=Tryz.zeroValue265,
    t57:=Tryz.underlying269,
    a57:=Tryz.isAgg269,
    z57:=Tryz.sizeOf269,
    v57:=Tryz.zeroValue269,
    t63:=Tryz.underlying272,
    a63:=Tryz.isAgg272,
    z63:=Tryz.sizeOf272,
    v63:=Tryz.zeroValue272,
    t64:=Tryz.underlying273,
    a64:=Tryz.isAgg273,
    z64:=Tryz.sizeOf273,
    v64:=Tryz.zeroValue273 }
theorem Dz (m:Nat):AnyZI.SortsIn Tryz.prog kF Fence.wide m:=
  ⟨fun blk off cap ss W hH hblk hsz=> callsIn_wide.2 (AnyM.slices_Sort_int uy blk off cap ss W hH hblk hsz),
   fun p cap W=> callsIn_wide.2 (AnyM.slices_Sort_int_none uy p cap W)⟩
abbrev Ev:Value→Option (DataW Unit×List MemPlace):=fun _=> some (.nil,[])
theorem xV (M:List (Int×Value)):(eb M).map (fun x=> x.key)=M.map fun p=> Value.int .i64 p.1:=by
  apply List.ext_getElem?
  intro j
  rw [List.getElem?_map,iH,List.getElem?_map]
  cases M[j]? <;> rfl
theorem pB (M:List (Int×Value)):(eb M).map (fun x=> x.born)=List.range M.length:=by
  apply List.ext_getElem?
  intro j
  rw [List.getElem?_map,iH]
  by_cases h:j < M.length
  · rw [List.getElem?_eq_getElem h,List.getElem?_range h];rfl
  · rw [List.getElem?_eq_none ab,List.getElem?_eq_none (by simp;omega)];rfl
theorem xY {M:List (Int×Value)} {x:MapEntry} (h:x∈eb M): ∃ p∈M,x.key= .int .i64 p.1:=by
  obtain ⟨j,hj⟩:=List.getElem?_of_mem h
  rw [iH] at hj
  obtain ⟨p,hp,rfl⟩:=Option.map_eq_some_iff.1 hj
  exact ⟨p,List.mem_of_getElem? hp,rfl⟩
theorem CW {a:Int} (h:0≤a∧a≤1000000):(Lit.int .i64 a).wf=true:=by
  have h1:IntKind.i64.min= -9223372036854775808:=by decide
  have h2:IntKind.i64.max=9223372036854775807:=by decide
  simp only [Lit.wf,h1,h2,Bool.and_eq_true,decide_eq_true_eq]
  omega
theorem Ag {P:Program} {a:Int} (hk:P.underlying 3=some (.int .i64)) (h:0≤a∧a≤1000000):keyOf P 3 (.int .i64 a)=some (.int .i64 a):=keyOf_int_mk hk (CW h)
theorem Gi:Ci:=by
  intro M g b w hlen hnd hrg hlt hcell hb
  have hk3:Tryz.prog.underlying 3=some (.int .i64):=Tryz.underlying3
  have hlen2:(eb M).length=M.length:=yj M
  have hrd: ∀ x∈eb M,∃ p∈M,Go.WideElems.rd Tryz.prog 3 Ev x=some (.int .i64 p.1, .nil)∧x.key= .int .i64 p.1:=by
    intro x hx
    obtain ⟨p,hp,hkx⟩:=xY hx
    refine ⟨p,hp,?_,hkx⟩
    have:=Go.WideElems.rd_mk (P:=Tryz.prog) (k:=3) (R:=Ev) (val:=x.val) (born:=x.born) (Ag hk3 (hrg p hp)) (yv:=(.nil,[])) rfl
    rw [← hkx] at this
    exact this
  obtain ⟨E,hE⟩: ∃ E,E=((eb M).map (Go.WideElems.rg Tryz.prog 3 Ev)).foldr DataW.insert []:=⟨_,rfl⟩
  have hperm:E.Perm ((eb M).map (Go.WideElems.rg Tryz.prog 3 Ev)):=by rw [hE];exact Go.WideShapes.sorted_perm _
  have hkeys:((eb M).map (Go.WideElems.rg Tryz.prog 3 Ev)).map (fun p=> Go.intOf p.1)=M.map (·.1):=by
    apply List.ext_getElem?
    intro j
    rw [List.getElem?_map,List.getElem?_map,List.getElem?_map]
    cases hj:(eb M)[j]? with
    | none=>
      rw [iH] at hj
      have:=Option.map_eq_none_iff.1 hj
      rw [this];rfl
    | some x=>
      obtain ⟨q,_,h1,h2⟩:=hrd x (List.mem_of_getElem? hj)
      rw [iH] at hj
      obtain ⟨p,hp,rfl⟩:=Option.map_eq_some_iff.1 hj
      rw [hp]
      simp only [Option.map_some,Go.WideElems.rg_of h1,Go.intOf]
      have h2:Value.int .i64 p.1=Value.int .i64 q.1:=h2
      have h3:p.1=q.1:=by injection h2
      rw [h3]
  have hown:w.ownsMap Tryz.prog 3 Ev b M.length (.map E):=by
    refine ⟨(eb M).toArray,M.length,hb,⟨by simp only [List.size_toArray];rw [hlen2];unfold maxLen;omega,⟨?_,?_,?_⟩,fun x hx=> ?_⟩,by simp only [List.size_toArray];omega,by rw [hE]⟩
    · intro x hx
      have h1:x.born∈(eb M).map (fun x=> x.born):=List.mem_map_of_mem (by simpa using hx)
      rw [pB] at h1
      simpa using h1
    · show ((eb M).map (fun x=> x.born)).Nodup
      rw [pB];exact List.nodup_range
    · show ((eb M).map (fun x=> x.key)).Nodup
      rw [xV]
      have:(M.map fun p=> Value.int .i64 p.1)=(M.map (·.1)).map (fun n=> Value.int .i64 n):=by rw [List.map_map];rfl
      rw [this]
      exact hnd.map (fun n=> Value.int .i64 n) fun a b h e=> h (by cases e;rfl)
    · obtain ⟨p,_,h1,_⟩:=hrd x (by simpa using hx)
      exact ⟨_,h1⟩
  have hsz:Maps.size (.map E:DataW Unit)=M.length:=by
    show E.length=_
    rw [hperm.length_eq,List.length_map,hlen2]
  have hseq:SeqGives Fence.wide 2 Tryz.prog 158 #[.pointer (some ⟨g,0,none⟩)] encZ (fun ss=> ss.Perm (intKeys (.map E:DataW Unit))) (Maps.size (.map E:DataW Unit)) w:=
    AnyZI.keys_gives (ρ:=mG) { Bi with } Fence.wide 2 trivial rfl ab g b M.length (.map E) w hlt hcell hown
  have cS:=AnyZI.sorted_in wn Fence.wide 5 trivial trivial trivial trivial rfl ab (Dz _) (enters_of Tryz.func157 ae rfl) 158 #[.pointer (some ⟨g,0,none⟩)] trivial (enters_of Tryz.func158 ae rfl) _ _ (by rw [hsz];unfold maxLen;omega) (by rw [hsz];omega) _ hseq
  change CallsIn _ _ Tryz.prog 94 _ _ _ at cS
  refine ((callsIn_wide (n:=5)).1 cS).mono ?_
  rintro e w' ⟨v,ss,rfl,hS,hrow,_,hbl⟩
  refine ⟨v,ss,rfl,?_,hrow,hbl⟩
  have h1:ss.Perm (E.map fun p=> Go.intOf p.1):=hS
  have h2:=hperm.map (fun p=> Go.intOf p.1)
  rw [hkeys] at h2
  exact h1.trans h2
theorem EP:wQ:=yi Gi

def jF (l:List Int) (x:Int):List Int:=if x∈l then l else l.takeWhile (fun y=> decide (y < x))++[x]++l.dropWhile (fun y=> decide (y < x))

def ky (l:List Nat):List Int:=l.foldl (fun m (i:Nat)=> jF m (i:Int)) []
theorem wT (l:List Int) (x:Int):(jF l x).length≤l.length+1:=by
 unfold jF
 split
 ·omega
 ·have h:=congrArg List.length (List.takeWhile_append_dropWhile (p:=fun y=> decide (y < x)) (l:=l))
  simp only [List.length_append,List.length_cons,List.length_nil] at h ⊢
  omega
theorem ya (l:List Nat):(ky l).length≤l.length:=by
 have: ∀ (l:List Nat) (m:List Int),(l.foldl (fun m (i:Nat)=> jF m (i:Int)) m).length≤m.length+l.length:=by
  intro l
  induction l with
  | nil=> intro m;simp
  | cons a l ih=> intro m;have h1:=ih (jF m a);have h2:=wT m a;simp only [List.foldl_cons,List.length_cons];omega
 simpa [ky] using this l []

theorem px {l:List Int} {x:Int} (h:x∉l):(jF l x).Perm (l++[x]):=by
 unfold jF
 rw [if_neg h]
 have e:=List.takeWhile_append_dropWhile (p:=fun y=> decide (y < x)) (l:=l)
 conv=> rhs;rw [← e]
 rw [List.append_assoc,List.append_assoc]
 exact List.Perm.append_left _ List.perm_append_comm
theorem uD {p:Int→Bool}: ∀ {l:List Int} {y:Int},y∈l.takeWhile p→p y=true
 | a::l,y,h=> by
  rw [List.takeWhile_cons] at h
  split at h
  ·rename_i ha
   rcases List.mem_cons.1 h with rfl | h
   ·exact ha
   ·exact uD h
  ·cases h
theorem yE {l:List Int} {x:Int} (h:l.Pairwise (· < ·)):(jF l x).Pairwise (· < ·):=by
 unfold jF
 split
 ·exact h
 ·rename_i hx
  have e:=List.takeWhile_append_dropWhile (p:=fun y=> decide (y < x)) (l:=l)
  have h':=h
  rw [← e] at h'
  obtain ⟨h1,h2,h3⟩:=List.pairwise_append.1 h'
  have ht: ∀ y∈l.takeWhile (fun y=> decide (y < x)),y < x:=fun y hy=> by
   have:=uD hy
   simpa using this
  have hd: ∀ y∈l.dropWhile (fun y=> decide (y < x)),x < y:=by
   intro y hy
   have hyl:y∈l:=by rw [← e];exact List.mem_append_right _ hy
   have hne:y≠x:=fun e=> hx (e ▸ hyl)
   cases hdw:l.dropWhile (fun y=> decide (y < x)) with
   | nil=> rw [hdw] at hy;cases hy
   | cons a t=>
    have ha: ¬ a < x:=by
     have:=List.head_dropWhile_not (p:=fun y=> decide (y < x)) (l:=l) (by rw [hdw];simp)
     simp only [hdw,List.head_cons] at this
     simpa using this
    rw [hdw] at hy h2
    rcases List.mem_cons.1 hy with rfl | hy
    ·omega
    ·have:=List.rel_of_pairwise_cons h2 hy;omega
  refine List.pairwise_append.2 ⟨List.pairwise_append.2 ⟨h1,by simp,fun a ha b hb=> ?_⟩,h2,fun a ha b hb=> ?_⟩
  ·rw [List.mem_singleton.1 hb];exact ht a ha
  ·rcases List.mem_append.1 ha with ha | ha
   ·exact h3 a ha b hb
   ·rw [List.mem_singleton.1 ha];exact hd b hb
theorem pL: ∀ (l:List Nat) (m:List Int) (M:List (Int×Value)),m.Perm (M.map (·.1))→(l.foldl (fun m (i:Nat)=> jF m (i:Int)) m).Perm ((l.foldl (fun M (i:Nat)=> fU M (i:Int) (.agg #[])) M).map (·.1))
 | [],_,_,h=> h
 | i::l,m,M,h=> pL l _ _ (by
  show (jF m (i:Int)).Perm ((fU M (i:Int) (.agg #[])).map (·.1))
  cases hg:lZ M (i:Int) with
  | none=>
   have hn:(i:Int)∉m:=fun hm=> ue hg (h.mem_iff.1 hm)
   have e:fU M (i:Int) (.agg #[])=M++[((i:Int), .agg #[])]:=by unfold fU;rw [hg];rfl
   rw [e,List.map_append]
   exact (px hn).trans (h.append_right _)
  | some u=>
   have hm:(i:Int)∈m:=h.mem_iff.2 (List.mem_map.2 ⟨_,sB hg,rfl⟩)
   have e:fU M (i:Int) (.agg #[])=M:=by unfold fU;rw [hg];rfl
   rw [e]
   unfold jF
   rw [if_pos hm];exact h)
theorem ow: ∀ (l:List Nat) (m:List Int),m.Pairwise (· < ·)→(l.foldl (fun m (i:Nat)=> jF m (i:Int)) m).Pairwise (· < ·)
 | [],_,h=> h
 | _::l,_,h=> ow l _ (yE h)
theorem Dl (l:List Nat):ky l=jq (np l):=by
 have hp:(ky l).Perm ((np l).map (·.1)):=pL l [] [] (.refl _)
 have hs:(ky l).Pairwise (· < ·):=ow l [] .nil
 have h1:=qU hp
 have h2:(ky l).mergeSort (fun x y=> decide (x≤y))=ky l:=List.mergeSort_of_pairwise (hs.imp fun h=> by simp only [decide_eq_true_eq];omega)
 rw [← h2,h1];rfl

set_option maxHeartbeats 1000000 in
theorem tJ (M:Mk) (h:Nat) (hh:h < 40) (he:M.P.e h < 0) (h0:0 < M.iv.length) (h1:M.iv.length≤1000):
  Spec Tryz.prog 59 (be [xf M.P, .v (.int .i64 (h:Int)), .agg [.sl M.iv.length (du M.iv), .v (.int .i64 (M.nm 0)), .v (.int .i64 (M.nm 1)), .v (.int .i64 (M.nm 2)), .v (.int .i64 (M.nm 3)), .v (.int .i64 (M.nm 4)), .v (.int .i64 (M.nm 5)), .v (.int .i64 (M.nm 6)), .v (.int .i64 (M.nm 7)), .v (.int .i64 (M.nm 8))],DA (4,9)] (zx M.ans [] (5,9))) (bg (.agg [.sl M.iv.length (du M.iv), .sl 0 [], .v (.int .i64 0), .v (.bool false), .sl 0 []]) (zx M.ans [] (5,8)) [(4,9),(5,8)] [(4,9)]):=by
 have hcl:=nr M.iv ab ab
 have hg:=qk M.P.c.length (inl M.P.c) M.P.e (M.P.d:Int) (M.P.v:Int) h hh
 refine Spec.ofNI Tryz.func59 rfl Tryz.ntmps59 rfl ?_
 refine am (ai (bk (4,0) _ rfl rfl) (ai (bk (6,0) _ rfl rfl) (ai (ay (8,0) aa rfl rfl) (aj (ap (bF 11 [13,14,15,16,17,18,19,20,21,22,23] [(22,0)] ae ae rfl (aM rfl) (rfl:_=[_,_,_,_,_,_,_,_,_,_,_]) (rfl:_=[_,_,_]) ?_))))))
 refine aq (_,[]) (fun τ=> aR _ aa rfl rfl rfl rfl) ?_
 refine eJ rfl ?_
 refine aq (_,[]) (fun τ=> aR _ aa rfl rfl rfl rfl) ?_
 refine eK rfl ?_
 refine aq (_,[]) (fun τ=> aE _ (rfl:_=AV.fn _ _ _)) ?_
 refine eH rfl ?_
 refine aq (_,[]) (fun τ=> aE _ (rfl:_=AV.v (.int _ _))) ?_
 refine eS rfl ?_
 refine aq (_,[]) (fun τ=> aH _ aa rfl rfl rfl) ?_
 refine eZ rfl ?_
 refine aq (_,[]) (fun τ=> eD _ _ aa rfl rfl rfl h rfl ab (by exact congrArg (fun z=> 0+1+z) (Nat.mul_one h))) ?_
 refine fH rfl ?_
 refine aq (_,[]) (fun τ=> aK _ aa rfl rfl (by exact (congrArg (fun z=> (Aa M.P.c.length (inl M.P.c) M.P.e (M.P.d:Int) (M.P.v:Int))[z]?) ab).trans hg)) ?_
 refine gF rfl ?_
 refine aq (_,[]) (fun τ=> aH _ aa rfl rfl rfl) ?_
 refine kv rfl ?_
 refine aq (_,[]) (fun τ=> aK _ aa rfl rfl (rfl:_=some (AV.sl _ _))) ?_
 refine ko rfl ?_
 refine aq (_,[((22,0),_)]) (fun τ=> (ef aa [((0,8),(22,0))] ar (hcl.toI) trivial tr tr rfl rfl ae ae)) ?_
 refine gj rfl ?_
 refine aq (_,[]) (fun τ=> aA _ aa rfl (by exact (rfl:_=some [AV.ref (22,0) 0 M.iv.length,AV.v (.slice none 0 0),AV.v (.int .i64 0),AV.v (.bool false),AV.v (.slice none 0 0)]))) ?_
 refine gH rfl (bh ⟨rfl,?_⟩)
 refine ai (aA _ aa rfl (by exact (rfl:_=some [_,_,_,_,_,_,_,_,_,_,_,_,_,_,_,_,_,_,_,_,_,_,_,_,_,_,_,_,_,_,_,_,_,_,_,_,_,_,_,_,_,_,_,_,_,_,_,_,_,_,_,_,_,_,_,_,_,_,_,_,_,_,_,_]))) ?_
 refine ai (bk (25,0) _ rfl rfl) (ED rfl (aj (ap (ap ?_))))
 refine aN (σ':=aB 108 [(4,_),(8,_),(9,_)] [((4,9),_),((5,9),_),((4,0),_),((8,0),_),((22,0),_),((25,0),_)] [(4,9),(5,9)] [(4,9)]) kp ?_
 refine an (bi rfl (ai (aS _ rfl rfl) (bA rfl rfl rfl (cC rfl rfl rfl (ai (bo (r:=true) _ _ rfl rfl (decide_eq_true he)) ?_)))))
 exact aj (bD rfl rfl (am (bi rfl (ai (aS _ rfl rfl) (bA rfl rfl rfl (ai (aR _ aa rfl rfl rfl rfl) (bO rfl rfl rfl rfl rfl rfl (aj (aC (aY (.inr rfl) rfl (.cellA aa rfl rfl rfl) (Le.outI [((5,8),(5,9))] [(22,0)] (.agg rfl (aI (iu rfl rfl (by simp) rfl) lz)) rfl rfl rfl tr ob tr rfl)))))))))))
set_option maxHeartbeats 1000000 in
theorem rm (M:Mk) (D:Nat→Nat) (nv:Nat) (hK:PG M.cx D nv) (h:Nat) (hh:h < 40) (e0:Nat) (he:M.P.e h=(e0:Int)) (he2:e0 < M.P.c.length) (hD:D e0=0) (hiv:M.iv.length=nv) (hir: ∀ v∈M.iv,Rg v) (h0:0 < nv) (hc:M.P.c.length≤1000000) (hn:M.ans.length≤4611686018427387904) (R:Ms) (hR:R=fV M.cx 500 (dC M.iv e0)):
  Spec Tryz.prog 24 (bj [xf M.P, .v (.int .i64 (h:Int)), .sl M.iv.length (du M.iv), .agg [.v (.int .i64 (M.nm 0)), .v (.int .i64 (M.nm 1)), .v (.int .i64 (M.nm 2)), .v (.int .i64 (M.nm 3)), .v (.int .i64 (M.nm 4)), .v (.int .i64 (M.nm 5)), .v (.int .i64 (M.nm 6)), .v (.int .i64 (M.nm 7)), .v (.int .i64 (M.nm 8))], .sl M.ans.length (du M.ans)] []) (aX (.tup [.agg [.sl R.vars.length (du R.vars), .sl R.acts.length (vJ R.acts), .v (.int .i64 (R.steps:Int)), .v (.bool (!R.fin)), .sl (jq (np R.cov)).length (du (jq (np R.cov)))], .sl R.asked.length (du R.asked), .v (.bool true)]) []):=by
 have hv:=va M EP D nv hK h hh e0 he he2 hD hiv hir h0 hc hn R hR
 refine Spec.ofN Tryz.func24 rfl Tryz.ntmps24 rfl ?_
 refine am (ai (bk (5,0) _ rfl rfl) (ai (bk (8,0) _ rfl rfl) (ai (ay (10,0) aa rfl rfl) (ai (bG _ (rfl:_=AV.v (.slice _ _ _))) (ct rfl (aj (am (eV rfl (ai (aA _ aa rfl (by exact (rfl:_=some [_,_,_]))) ?_)))))))))
 refine ai (bk (17,0) _ rfl rfl) (ED rfl (aj (ap ?_)))
 refine aN (Le.nilB (17,0) 1 (62,0) 3 1 rfl rfl rfl) ?_
 refine an (ai (aR _ aa rfl rfl rfl rfl) (aQ rfl (eV rfl (ai (aR _ aa rfl rfl rfl rfl) (ai (aA _ aa rfl (by exact (rfl:_=some [_,_,_,_,_,_,_,_,_,_]))) ?_)))))
 refine bi rfl (ai (pd _ _ (rfl:_=[_]) (rfl:_=[])) ?_)
 refine ai (ef aa [((4,9),(17,0)),((5,9),(62,0)),((2,8),(25,0)),((5,8),(25,1))] ar (hv) ob tr tr rfl rfl ae ae) ?_
 refine ai (ay (14,0) aa rfl rfl) (bO rfl rfl rfl rfl rfl rfl (aj (ap ?_)))
 refine aN (σ':=aB 35 [(10,_),(13,_),(14,_)] [((10,0),_),((17,0),_),((25,0),_),((25,1),_),((14,0),_)] [] []) kp ?_
 refine qB 12 [26,27,28,29,30,31,32,33,34,11,12] [(10,0)] ae ae rfl (rfl:_=[_,_,_,_,_,_,_,_,_,_,_,_]) (rfl:_=[]) ?_
 refine cg (_,[]) (fun τ=> aR _ aa rfl rfl rfl rfl) ?_
 refine ci (rfl:_=[_]) ?_
 refine cg (_,[]) (fun τ=> aE _ (rfl:_=AV.ptr _ _)) ?_
 refine ci (rfl:_=[_,_]) ?_
 refine cg (_,[]) (fun τ=> aS _ rfl rfl) ?_
 refine ci (rfl:_=[_,_,_]) ?_
 refine cg (_,[]) (fun τ=> aH _ aa rfl rfl rfl) ?_
 refine ci (rfl:_=[_,_,_,_]) ?_
 refine cg (_,[]) (fun τ=> aK _ aa rfl rfl (rfl:_=some (AV.ref _ _ _))) ?_
 refine ci (rfl:_=[_,_,_,_,_]) ?_
 refine cg (_,[]) (fun τ=> aE _ (rfl:_=AV.ptr _ _)) ?_
 refine ci (rfl:_=[_,_,_,_,_,_]) ?_
 refine cg (_,[]) (fun τ=> aS _ rfl rfl) ?_
 refine ci (rfl:_=[_,_,_,_,_,_,_]) ?_
 refine cg (_,[]) (fun τ=> aH _ aa rfl rfl rfl) ?_
 refine ci (rfl:_=[_,_,_,_,_,_,_,_]) ?_
 refine cg (_,[]) (fun τ=> aK _ aa rfl rfl (rfl:_=some (AV.v (.bool _)))) ?_
 refine ci (rfl:_=[_,_,_,_,_,_,_,_,_]) ?_
 refine cg (_,[((10,0),_)]) (fun τ=> jN _ _ aa rfl rfl rfl rfl (Nat.le_of_ble_eq_true rfl) rfl) ?_
 refine ci (rfl:_=[_,_,_,_,_,_,_,_,_,_]) ?_
 refine cg (_,[]) (fun τ=> bG _ (rfl:_=AV.ref _ _ _)) ?_
 refine ci (rfl:_=[_,_,_,_,_,_,_,_,_,_,_]) ?_
 refine cg (_,[]) (fun τ=> bG _ (rfl:_=AV.v (.bool _))) ?_
 refine ci (rfl:_=[_,_,_,_,_,_,_,_,_,_,_,_]) ?_
 refine nB ⟨⟨rfl,by kernel_rfl,by kernel_rfl⟩,?_⟩
 exact aj (aC (By (.inr rfl) rfl (.cellA aa rfl rfl rfl) (.tmp (rfl:_=AV.ref _ _ _)) (.tmp (rfl:_=AV.v _)) (Le.out [] [(25,0),(25,1)] (.tup rfl (aI (.agg rfl (aI .sl (aI (iu rfl rfl (gn _).symm rfl) lz))) (aI (iu rfl rfl (by simp) rfl) lz))) rfl rfl rfl tr trivial)))

theorem th (w:World) (a b c d e:Int):(Op.equal 57 (.agg #[.int .i64 a, .int .i64 b, .int .i64 c, .int .i64 d, .int .i64 e]) (.agg #[.int .i64 a, .int .i64 b, .int .i64 c, .int .i64 d, .int .i64 e])).run Tryz.prog w= .ok true w:=by
 have he:Tryz.prog.underlying 3=some (.int .i64):=Tryz.underlying3
 have hp: ∀ (cs:Array Value) (j:Nat) (v:Value),cs[j]? =some v→(part 3 cs j).run Tryz.prog w= .ok v w:=by
  intro cs j v hv
  simp [part,isAgg,run_underlying he,hv]
 have e1: ∀ a:Int,(Op.equalIn 9999 3 (.int .i64 a) (.int .i64 a)).run Tryz.prog w= .ok true w:=fun a=> by
  rw [run_equalIn_int w 9998 3 .i64 .i64 a a he];simp
 have h0:=hp #[.int .i64 a, .int .i64 b, .int .i64 c, .int .i64 d, .int .i64 e] 0 (.int .i64 a) rfl
 have h1:=hp #[.int .i64 a, .int .i64 b, .int .i64 c, .int .i64 d, .int .i64 e] 1 (.int .i64 b) rfl
 have h2:=hp #[.int .i64 a, .int .i64 b, .int .i64 c, .int .i64 d, .int .i64 e] 2 (.int .i64 c) rfl
 have h3:=hp #[.int .i64 a, .int .i64 b, .int .i64 c, .int .i64 d, .int .i64 e] 3 (.int .i64 d) rfl
 have h4:=hp #[.int .i64 a, .int .i64 b, .int .i64 c, .int .i64 d, .int .i64 e] 4 (.int .i64 e) rfl
 show (Op.equalIn (9999+1) 57 _ _).run Tryz.prog w=_
 rw [Op.equalIn]
 simp only [Sem.run_bind,run_underlying Tryz.underlying57,Result.andThen_ok]
 simp [Op.eqFields,h0,h1,h2,h3,h4,e1]
section
variable {σ:St} {dd:Option Tmp} {ty:TypeId}
theorem xA {t':TypeId} (x y:Operand) {a b c d e:Int} (hx:σ.eval x= .agg [.v (.int .i64 a), .v (.int .i64 b), .v (.int .i64 c), .v (.int .i64 d), .v (.int .i64 e)]) (hy:σ.eval y= .agg [.v (.int .i64 a), .v (.int .i64 b), .v (.int .i64 c), .v (.int .i64 d), .v (.int .i64 e)]):Stp Tryz.prog dd (.binOp .neq 57 x y t') ty σ (σ.put dd (.v (.bool false))):=by
 refine zY [.int .i64 a, .int .i64 b, .int .i64 c, .int .i64 d, .int .i64 e] [.int .i64 a, .int .i64 b, .int .i64 c, .int .i64 d, .int .i64 e] hx hy fun o ρ w ho hx hy=> ?_
 have:=th w a b c d e
 have hg:Tryz.prog.eqGuardType Tryz.prog.depth 57=false:=by kernel_rfl
 simp [execOp,ho,hx,hy,eqGuard,binOp,hg,this,Sem.run]
end
theorem oP (l:List Ac) (h1:l.length≤1000000):Spec Tryz.prog 34 (bj [.sl l.length (vJ l), .sl l.length (vJ l)] []) (aX (.v (.bool true)) []):=by
 refine Spec.ofN Tryz.func34 rfl Tryz.ntmps34 rfl ?_
 refine am (ct rfl (aj (ap (am (eV rfl (ai (bE _ aa rfl) (eV rfl (ai (bE _ aa rfl) (ai (ca (r:=false) _ _ rfl rfl (by simp)) ?_)))))))))
 refine aj (aP rfl rfl (aJ (aF fun K4 hK4=> ?_)))
 refine am (aZ rfl (aj (au ?_)))
 refine bw (α:=Nat) (fun k=> k≤l.length) 26 [(0,_),(1,_)] [] (fun k=> [(5, .v (.int .i64 (k:Int)))]) (fun k=> []) [] [] (fun k=> l.length - k) 0 ?_ (by
  refine Le.mkJ [] [] rfl ?_ ?_ trivial trivial ?_
  ·exact ⟨(iS rfl),(iS rfl),(ck ag),trivial⟩
  ·exact trivial
  ·kernel_rfl) ?_
 ·omega
 intro k hk
 refine aF fun K6 hK6=> ?_
 refine am (aQ rfl (eV rfl (ai (bE _ aa rfl) (ai (bo _ _ rfl rfl rfl) (aj (aT rfl (fun hc14=> ?_) (fun hc14=> ?_)))))))
 ·skip
  have hia:=sq l k ab
  refine bv (hK6 _ ?_)
  clear hK6;try clear K6
  refine ap (au (ap ?_))
  refine aN (σ':=aB 26 [(0,_),(1,_),(5,_)] [] [] []) kp ?_
  refine bF 9 [17,18,19,20,21,22,23,24,25] [] ae ae rfl (aM rfl) (rfl:_=[_,_,_,_,_,_,_,_,_]) (rfl:_=[]) ?_
  refine aq (_,[]) (fun τ=> aE _ (rfl:_=AV.sl _ _)) ?_
  refine eJ rfl ?_
  refine aq (_,[]) (fun τ=> aE _ (rfl:_=AV.v (.int _ _))) ?_
  refine eK rfl ?_
  refine aq (_,[]) (fun τ=> bf _ _ aa rfl rfl _ rfl ab (by (simp only [ba,bn,bl,ba,gn,bM];omega)) ag) ?_
  refine eH rfl ?_
  refine aq (_,[]) (fun τ=> cd _ aa rfl (by exact hia) rfl) ?_
  refine eS rfl ?_
  refine aq (_,[]) (fun τ=> aE _ (rfl:_=AV.sl _ _)) ?_
  refine eZ rfl ?_
  refine aq (_,[]) (fun τ=> aE _ (rfl:_=AV.v (.int _ _))) ?_
  refine fH rfl ?_
  refine aq (_,[]) (fun τ=> bf _ _ aa rfl rfl _ rfl ab (by (simp only [ba,bn,bl,ba,gn,bM];omega)) ag) ?_
  refine gF rfl ?_
  refine aq (_,[]) (fun τ=> cd _ aa rfl (by exact hia) rfl) ?_
  refine kv rfl ?_
  refine aq (_,[]) (fun τ=> xA _ _ rfl rfl) ?_
  refine ko rfl (bh ⟨rfl,?_⟩)
  refine aj (aP rfl rfl (bZ (an (aQ rfl (ai (bc _ _ rfl rfl (bq ab)) ?_)))))
  refine aZ rfl (az (⟨k+1,?_,?_,?_⟩))
  ·omega
  ·skip
   refine Le.mkJ [] [] rfl ?_ ?_ trivial trivial ?_
   ·exact ⟨(iS rfl),(iS rfl),(ck ag),trivial⟩
   ·exact trivial
   ·kernel_rfl
  ·omega
 ·skip
  refine bK (id (hK4 _ ?_))
  clear hK4;try clear K4
  refine am (ct rfl (aj (aC (aY (.inr rfl) rfl (.tmp (rfl:_=AV.v (.bool _))) (Le.out [] [] (ic ?_) rfl rfl rfl trivial trivial)))))
  rfl

theorem sH (xs:List Int) (h:xs.length≤1000000):Spec Tryz.prog 30 (bj [.sl xs.length (du xs), .sl xs.length (du xs)] []) (aX (.v (.bool true)) []):=by
 have:=vg xs.length xs.length xs xs rfl rfl ab ab
 rw [decide_eq_true rfl] at this;exact this
def xJ (n:Int):Int:=([n % 9 - 4,n, -n,2147483647, -2147483647,1,0]:List Int).getD (n % 7).toNat 0
def fI (a:List Int) (n:Nat):List Int:=(List.range n).map fun i=> xJ (cW a i)
theorem tB (a:List Int) (n:Nat):fI a (n+1)=fI a n++[xJ (cW a n)]:=by simp [fI,List.range_succ]
theorem iG (a:List Int) (n:Nat):(fI a n).length=n:=by simp [fI]
theorem yU (n:Int) (h0:0≤n):(du [n % 9 - 4,n, -n,2147483647, -2147483647,1,0])[(n % 7).toNat]? =some (.v (.int .i64 (xJ n))):=dH _ _ (by simp;omega)

theorem vj (P:Pg) (a:List Int) (G:GL a) (hd:P.d+P.v≤1000):
  Spec Tryz.prog 22 (bj [xf P, .sl a.length (du a)] []) (aX (.sl (fI a (P.d+P.v)).length (du (fI a (P.d+P.v)))) []):=by
 have hpk:=fun i hi=> ny G i hi
 refine Spec.ofN Tryz.func22 rfl Tryz.ntmps22 rfl ?_
 refine am (ai (bk (2,0) _ rfl rfl) (ai (bG _ (rfl:_=AV.v (.slice _ _ _))) (aj (am (ai (oJ (5,0) _ 3 1 rfl rfl) ?_)))))
 refine aj (aF fun K3 hK3=> ?_)
 refine am (aZ rfl (aj (au ?_)))
 refine bw (α:=Nat) (fun q=> q≤P.d+P.v) 35 [(1,_),(2,_)] [((2,0),_)] (fun q=> [(6, .v (.int .i64 (q:Int))),(5, .ref (5,0) 0 (fI a q).length)]) (fun q=> [((5,0), .row 3 1 (du (fI a q)))]) [] [] (fun q=> P.d+P.v - q) 0 ?_ (by
  refine Le.mkJ [] [] rfl ?_ ?_ trivial trivial ?_
  ·exact ⟨(iS rfl),(iP rfl),(ck ag),(dh rfl ag),trivial⟩
  ·exact ⟨(cF rfl rfl rfl),(gM rfl rfl rfl ag),trivial⟩
  ·kernel_rfl) ?_
 ·omega
 intro q hq
 have hq0:=hpk q ab
 have hlo:=sM a q
 have hhi:=sE a q
 have hvl:=iG a q
 have hs:=tB a q
 have hl1:(fI a (q+1)).length=(fI a q).length+1:=by rw [hs];simp
 have hvg:=yU (cW a q) hlo
 generalize cW a q=x at hq0 hlo hhi hs hvg
 refine aF fun K5 hK5=> ?_
 refine am (aQ rfl (bA rfl rfl rfl (cC rfl rfl rfl (bA rfl rfl rfl (cC rfl rfl rfl (ai (bc (r:=((P.d+P.v:Nat):Int)) _ _ rfl rfl ((bq ab).trans ab)) ?_))))))
 refine ai (bo _ _ rfl rfl rfl) (aj (aT rfl (fun hc14=> ?_) (fun hc14=> ?_)))
 ·skip
  refine bv (hK5 _ ?_)
  clear hK5;try clear K5
  refine ap (au (am (eV rfl (aQ rfl (ai (aL aa al (hq0) rfl rfl) ?_)))))
  refine aZ rfl (aj (an (gG rfl (aQ rfl (ai (cY (r:=x % 9) _ _ rfl rfl ab (Int.tmod_eq_emod_of_nonneg ab)) ?_)))))
  refine ai (ce (r:=x % 9 - 4) _ _ rfl rfl (bq ab)) ?_
  refine aQ rfl (aQ rfl (ai (tu (r:= -x) _ rfl (bq ab)) ?_))
  refine ai (aV _ _ aa rfl ag (by (simp <;> rfl)) ah rfl) ?_
  refine aQ rfl (ai (cY (r:=(((x % 7).toNat:Nat):Int)) _ _ rfl rfl ab ((Int.tmod_eq_emod_of_nonneg ab).trans ab)) ?_)
  refine ai (bf _ _ aa rfl rfl _ rfl ab (by (simp;done)) (by exact Nat.mul_one _)) ?_
  refine ai (bH _ aa rfl (by exact hvg) rfl) ?_
  refine ai (aV _ _ aa rfl ag (by (simp <;> rfl)) ah rfl) ?_
  refine ai (dl (33,0) _ _ aa rfl rfl (by simp) (.sl rfl) ab rfl ((lF _ _).trans (congrArg du hs.symm)) hl1.symm) ?_
  refine fa rfl (fY ?_)
  refine aN (σ':=aB 35 [(1,_),(2,_),(5,_),(6,_)] [((2,0),_),((33,0),_)] [] []) kp ?_
  refine an (aQ rfl (ai (bc _ _ rfl rfl (bq ab)) ?_))
  refine aZ rfl (az (⟨q+1,?_,?_,?_⟩))
  ·omega
  ·skip
   refine Le.mkJ [((5,0),(33,0))] [] rfl ?_ ?_ trivial trivial ?_
   ·exact ⟨(by repeat' (exact Lv.sl)),(dW (id:=(2,0)) rfl),(ck ag),(dh rfl ag),trivial⟩
   ·exact ⟨(fS rfl rfl rfl rfl (by repeat' (first | exact Lv.v | exact Lv.sl | exact bu | refine aI ?_ ?_))),(gM rfl rfl rfl ag),trivial⟩
   ·kernel_rfl
  ·omega
 ·skip
  obtain rfl:q=P.d+P.v:=by omega
  refine bK (id (hK3 _ ?_))
  clear hK3;try clear K3
  exact am (gG rfl (fa rfl (aj (aC (aY (.inr rfl) rfl (.tmp (rfl:_=AV.ref _ _ _)) (Le.out [] [(5,0)] (iu rfl rfl (by simp) rfl) rfl rfl rfl tr trivial))))))
def pO (L:List Int) (i:Nat) (m:Int):Int:=if i < L.length then gf (L.getD i 0) m else 0
theorem qw (L:List Int) (i:Nat) {m:Int} (hm:1≤m):0≤pO L i m:=by
 unfold pO;split
 ·exact km _ _ ab
 ·omega
theorem qj (L:List Int) (i:Nat) {m:Int} (hm:1≤m):pO L i m < m:=by
 unfold pO;split
 ·exact kr _ _ ab
 ·omega
theorem nR {L:List Int} (h:GL L) (i:Nat) (hi:i≤2000000) (m:Int) (hm:1≤m∧m≤1000):
  Spec Tryz.prog 58 (bj [.sl L.length (du L), .v (.int .i64 (i:Int)), .v (.int .i64 m)] []) (aX (.v (.int .i64 (pO L i m))) []):=by
 have hn:=h.n
 by_cases hk:i < L.length
 ·have hr:=h.r (L.getD i 0) (by rw [List.getD_eq_getElem?_getD,List.getElem?_eq_getElem hk];exact List.getElem_mem hk)
  have ha:=gE (L.getD i 0) m ab ab hr.1 hr.2
  rw [show pO L i m=gf (L.getD i 0) m from if_pos hk]
  refine Spec.ofN Tryz.func58 rfl Tryz.ntmps58 rfl ?_
  refine am (aZ rfl (aj (ap (am (aQ rfl (ai (bo (r:=false) _ _ rfl rfl (decide_eq_false ab)) ?_))))))
  refine cJ rfl (ax rfl rfl (aE _ (rfl:_=AV.v (.int _ _))) (ax rfl rfl (aE _ (rfl:_=AV.sl _ _)) (ax rfl rfl (bE _ aa rfl) (ax rfl rfl (eR (r:=false) _ _ rfl rfl (decide_eq_false ab)) ?_))))
  refine ai (aD _ _ _ rfl (rfl:_=AV.v (.bool _))) (aj (aP rfl rfl (aJ (am (eV rfl (aQ rfl (ai (bf _ _ aa rfl rfl _ rfl ab (by (simp only [ba,bn,bl,ba,gn,bM];omega)) (by exact Nat.mul_one _)) ?_)))))))
  refine ai (bH _ aa rfl (by exact dH _ _ ab) rfl) ?_
  refine aQ rfl (ai (aL aa al (ha) rfl rfl) ?_)
  exact aZ rfl (aj (aC (aY (.inr rfl) rfl (.tmp (rfl:_=AV.v _)) (Le.out [] [] .v rfl rfl rfl trivial trivial))))
 ·rw [show pO L i m=0 from if_neg hk]
  refine Spec.ofN Tryz.func58 rfl Tryz.ntmps58 rfl ?_
  refine am (aZ rfl (aj (ap (am (aQ rfl (ai (bo (r:=false) _ _ rfl rfl (decide_eq_false ab)) ?_))))))
  refine cJ rfl (ax rfl rfl (aE _ (rfl:_=AV.v (.int _ _))) (ax rfl rfl (aE _ (rfl:_=AV.sl _ _)) (ax rfl rfl (bE _ aa rfl) (ax rfl rfl (eR (r:=true) _ _ rfl rfl (decide_eq_true ab)) ?_))))
  exact ai (aD _ _ _ rfl (rfl:_=AV.v (.bool _))) (aj (bD rfl rfl (am (aZ rfl (aj (aC (aY (.inr rfl) rfl (.tmp (rfl:_=AV.v _)) (Le.out [] [] .v rfl rfl rfl trivial trivial))))))))
def xd (b:List Int) (k:Nat):Int:=if k=0 then pO b 0 9 % (1+pO b 1 3) else if k=1 then 1+pO b 1 3 else pO b k 9
def vK (b:List Int) (q k:Nat):Int:=if k < q then pO b k 9 else 0
abbrev L9 (e:Nat→Int):List AV:=[.v (.int .i64 (e 0)), .v (.int .i64 (e 1)), .v (.int .i64 (e 2)), .v (.int .i64 (e 3)), .v (.int .i64 (e 4)), .v (.int .i64 (e 5)), .v (.int .i64 (e 6)), .v (.int .i64 (e 7)), .v (.int .i64 (e 8))]
theorem DU (e:Nat→Int) (h:Nat) (hh:h < 9) (x:Int):fj (L9 e) h [.v (.int .i64 x)]=L9 (oQ e h x):=by
 rcases h with _ | _ | _ | _ | _ | _ | _ | _ | _ | h
 all_goals first | rfl | omega
theorem zM (b:List Int) (q:Nat):oQ (vK b q) q (pO b q 9)=vK b (q+1):=by
 funext k
 unfold oQ vK
 by_cases h1:k=q
 ·rw [if_pos h1,if_pos ab,h1]
 ·rw [if_neg h1]
  by_cases h2:k < q
  ·rw [if_pos h2,if_pos ab]
  ·rw [if_neg h2,if_neg ab]
theorem sR (b:List Int) (G:GL b):
  Spec Tryz.prog 23 (bj [.sl b.length (du b)] []) (aX (.agg (L9 (xd b))) []):=by
 have h1:=nR G 1 ab 3 ab
 have hlo:=qw b 1 (m:=3) ab
 have hhi:=qj b 1 (m:=3) ab
 have hlo0:=qw b 0 (m:=9) ab
 have hhi0:=qj b 0 (m:=9) ab
 refine Spec.ofN Tryz.func23 rfl Tryz.ntmps23 rfl ?_
 refine am (ai (ay (2,0) aa rfl rfl) (aj (am (ai (ay (3,0) aa rfl rfl) (aj (aF fun K3 hK3=> ?_))))))
 refine am (aZ rfl (aj (au ?_)))
 refine bw (α:=Nat) (fun q=> q≤9) 25 [(0,_),(2,_),(3,_)] [((2,0),_)] (fun q=> [(4, .v (.int .i64 (q:Int)))]) (fun q=> [((3,0), .box 30 [.v (.int .i64 (vK b q 0)), .v (.int .i64 (vK b q 1)), .v (.int .i64 (vK b q 2)), .v (.int .i64 (vK b q 3)), .v (.int .i64 (vK b q 4)), .v (.int .i64 (vK b q 5)), .v (.int .i64 (vK b q 6)), .v (.int .i64 (vK b q 7)), .v (.int .i64 (vK b q 8))])]) [] [] (fun q=> 9 - q) 0 ?_ (by
  refine Le.mkJ [] [] rfl ?_ ?_ trivial trivial ?_
  ·exact ⟨(iS rfl),(iP rfl),(iP rfl),(ck ag),trivial⟩
  ·exact ⟨(cF rfl rfl rfl),(fS rfl rfl rfl rfl lz),trivial⟩
  ·kernel_rfl) ?_
 ·omega
 intro q hq
 refine aF fun K5 hK5=> ?_
 refine am (aQ rfl (ai (bo _ _ rfl rfl rfl) (aj (aT rfl (fun hc6=> ?_) (fun hc6=> ?_)))))
 ·skip
  have hq9:=nR G q ab 9 ab
  refine bv (hK5 _ ?_)
  clear hK5;try clear K5
  refine ap (au (an (aQ rfl (eV rfl (aQ rfl (ai (aL aa al (hq9) rfl rfl) ?_))))))
  refine ai (eD _ _ aa rfl rfl rfl q rfl ab (by exact (Nat.zero_add _).trans (Nat.mul_one _))) ?_
  refine ai (jN _ _ aa rfl rfl rfl rfl (show q+1≤9 by omega) ((DU (vK b q) q ab _).trans (by rw [zM]))) ?_
  refine fY (an (aQ rfl (ai (bc _ _ rfl rfl (bq ab)) ?_)))
  refine aZ rfl (az (⟨q+1,?_,?_,?_⟩))
  ·omega
  ·skip
   refine Le.mkJ [] [] rfl ?_ ?_ trivial trivial ?_
   ·exact ⟨(iS rfl),(iP rfl),(iP rfl),(ck ag),trivial⟩
   ·exact ⟨(cF rfl rfl rfl),(fS rfl rfl rfl rfl lz),trivial⟩
   ·kernel_rfl
  ·omega
 ·skip
  obtain rfl:q=9:=by omega
  refine bK (id (hK3 _ ?_))
  clear hK3;try clear K3
  refine am (eV rfl (ai (aL aa al (h1) rfl rfl) ?_))
  refine ai (bc (r:=1+pO b 1 3) _ _ rfl rfl (bq ab)) ?_
  refine ai (eD _ _ aa rfl rfl rfl 1 rfl ab (by exact (Nat.zero_add _).trans (Nat.mul_one _))) ?_
  refine bO rfl rfl rfl rfl rfl rfl (aj (am (ai (eD _ _ aa rfl rfl rfl 0 rfl ab (by exact (Nat.zero_add _).trans (Nat.mul_one _))) ?_)))
  refine cC rfl rfl rfl (ai (eD _ _ aa rfl rfl rfl 1 rfl ab (by exact (Nat.zero_add _).trans (Nat.mul_one _))) ?_)
  refine cC rfl rfl rfl (ai (cY (r:=pO b 0 9 % (1+pO b 1 3)) _ _ rfl rfl ab (Int.tmod_eq_emod_of_nonneg hlo0)) ?_)
  refine ai (eD _ _ aa rfl rfl rfl 0 rfl ab (by exact (Nat.zero_add _).trans (Nat.mul_one _))) ?_
  exact bO rfl rfl rfl rfl rfl rfl (aj (am (ai (aR _ aa rfl rfl rfl rfl) (bO rfl rfl rfl rfl rfl rfl (aj (aC (aY (.inr rfl) rfl (.cellA aa rfl rfl rfl) (Le.out [] [] (.agg rfl lz) rfl rfl rfl trivial trivial))))))))

def xc (p v b r:List Int):Mk:=⟨fK p,fI v ((fK p).d+(fK p).v),(List.range 9).map (xd b),r.take 30⟩
theorem CI (b:List Int) (k:Nat):Rg (xd b k):=by
 have h1:=qw b 1 (m:=3) ab
 have h2:=qj b 1 (m:=3) ab
 have h3:=qw b k (m:=9) ab
 have h4:=qj b k (m:=9) ab
 unfold xd Rg
 split
 ·have h5:=Int.emod_nonneg (pO b 0 9) (show 1+pO b 1 3≠0 by omega)
  have h6:=Int.emod_lt_of_pos (pO b 0 9) (show 0 < 1+pO b 1 3 by omega)
  omega
 ·split <;> omega
theorem zC {n:Int} (h0:0≤n) (h1:n < 1000000):Rg (xJ n):=by
 unfold xJ
 refine lH (fun x hx=> ?_) _
 simp only [List.mem_cons,List.not_mem_nil,or_false] at hx
 unfold Rg
 rcases hx with rfl | rfl | rfl | rfl | rfl | rfl | rfl <;> omega
theorem nH (a:List Int) (n:Nat): ∀ x∈fI a n,Rg x:=fun x hx=> by
 obtain ⟨i,_,rfl⟩:=List.mem_map.1 hx
 exact zC (sM a i) (sE a i)
theorem nV (b:List Int): ∀ i,Rg (((List.range 9).map (xd b)).getD i 0):=fun i=> lH (fun x hx=> by
 obtain ⟨j,_,rfl⟩:=List.mem_map.1 hx
 exact CI b j) i
structure vI (M:Mk) (D:Nat→Nat) (nv:Nat):Prop where
 pg:PG M.cx D nv
 iv:M.iv.length=nv
 ir: ∀ v∈M.iv,Rg v
 nv:0 < nv
 ent: ∀ h,h < 40→M.P.e h < 0∨ ∃ e0:Nat,M.P.e h=(e0:Int)∧e0 < M.P.c.length∧D e0=0
 c:M.P.c.length≤1000000
theorem xD (p v b r:List Int): ∃ D nv,vI (xc p v b r) D nv:=by
 by_cases hc:ia (py p)=true
 ·have e:fK p=⟨bS (py p) 0,bY (py p),2,2⟩:=if_pos hc
  have U:=yp p
  refine ⟨qP (py p),4,?_,?_,nH _ _,by omega,fun h hh=> ?_,?_⟩
  ·show PG ⟨(fK p).c,(fK p).d,(List.range 9).map (xd b),r.take 30⟩ _ _
   rw [e]
   exact Cw ab U.ok (nV b)
  ·show (fI v ((fK p).d+(fK p).v)).length=4
   rw [iG,e];rfl
  ·show (fK p).e h < 0∨ ∃ e0:Nat,(fK p).e h=(e0:Int)∧e0 < (fK p).c.length∧_
   rw [e]
   rcases tw (py p) h with h1 | ⟨e0,_,h1,h2,h3⟩
   ·exact .inl (by show (lk (iJ (py p) 0)).getD h (-1) < 0;omega)
   ·exact .inr ⟨e0,h1,h2,h3⟩
  ·show (fK p).c.length≤1000000
   rw [e];exact U.c
 ·have e:fK p=kD 3 0:=if_neg hc
  refine ⟨nW,1,?_,?_,nH _ _,by omega,fun h hh=> ?_,?_⟩
  ·show PG ⟨(fK p).c,(fK p).d,(List.range 9).map (xd b),r.take 30⟩ _ _
   rw [e]
   exact tS (by unfold Rg;omega) (by unfold Rg;omega) (nV b)
  ·show (fI v ((fK p).d+(fK p).v)).length=1
   rw [iG,e];rfl
  ·show (fK p).e h < 0∨ ∃ e0:Nat,(fK p).e h=(e0:Int)∧e0 < (fK p).c.length∧_
   rw [e]
   by_cases h0:h=0
   ·subst h0
    exact .inr ⟨0,rfl,by show 0 < (oy 3 0).length;decide,rfl⟩
   ·exact .inl (by show eB 40 h < 0;unfold eB;rw [if_pos ab];omega)
  ·show (fK p).c.length≤1000000
   rw [e];show (oy 3 0).length≤1000000;decide

set_option maxHeartbeats 1000000 in
theorem vw (M:Mk) (h:Nat) (hh:h < 40) (he:M.P.e h < 0) (h0:0 < M.iv.length) (h1:M.iv.length≤1000):
  Spec Tryz.prog 24 (bj [xf M.P, .v (.int .i64 (h:Int)), .sl M.iv.length (du M.iv), .agg [.v (.int .i64 (M.nm 0)), .v (.int .i64 (M.nm 1)), .v (.int .i64 (M.nm 2)), .v (.int .i64 (M.nm 3)), .v (.int .i64 (M.nm 4)), .v (.int .i64 (M.nm 5)), .v (.int .i64 (M.nm 6)), .v (.int .i64 (M.nm 7)), .v (.int .i64 (M.nm 8))], .sl M.ans.length (du M.ans)] []) (aX (.tup [.agg [.sl M.iv.length (du M.iv), .sl 0 [], .v (.int .i64 0), .v (.bool false), .sl 0 []], .sl 0 [], .v (.bool true)]) []):=by
 have hv:=tJ M h hh he h0 h1
 refine Spec.ofN Tryz.func24 rfl Tryz.ntmps24 rfl ?_
 refine am (ai (bk (5,0) _ rfl rfl) (ai (bk (8,0) _ rfl rfl) (ai (ay (10,0) aa rfl rfl) (ai (bG _ (rfl:_=AV.v (.slice _ _ _))) (ct rfl (aj (am (eV rfl (ai (aA _ aa rfl (by exact (rfl:_=some [_,_,_]))) ?_)))))))))
 refine ai (bk (17,0) _ rfl rfl) (ED rfl (aj (ap ?_)))
 refine aN (Le.nilB (17,0) 1 (62,0) 3 1 rfl rfl rfl) ?_
 refine an (ai (aR _ aa rfl rfl rfl rfl) (aQ rfl (eV rfl (ai (aR _ aa rfl rfl rfl rfl) (ai (aA _ aa rfl (by exact (rfl:_=some [_,_,_,_,_,_,_,_,_,_]))) ?_)))))
 refine bi rfl (ai (pd _ _ (rfl:_=[_]) (rfl:_=[])) ?_)
 refine ai (ef aa [((4,9),(17,0)),((5,9),(62,0)),((5,8),(25,1))] ar (hv) ob tr tr rfl rfl ae ae) ?_
 refine ai (ay (14,0) aa rfl rfl) (bO rfl rfl rfl rfl rfl rfl (aj (ap ?_)))
 refine aN (σ':=aB 35 [(10,_),(13,_),(14,_)] [((10,0),_),((17,0),_),((25,1),_),((14,0),_)] [] []) kp ?_
 refine qB 12 [26,27,28,29,30,31,32,33,34,11,12] [(10,0)] ae ae rfl (rfl:_=[_,_,_,_,_,_,_,_,_,_,_,_]) (rfl:_=[]) ?_
 refine cg (_,[]) (fun τ=> aR _ aa rfl rfl rfl rfl) ?_
 refine ci (rfl:_=[_]) ?_
 refine cg (_,[]) (fun τ=> aE _ (rfl:_=AV.ptr _ _)) ?_
 refine ci (rfl:_=[_,_]) ?_
 refine cg (_,[]) (fun τ=> aS _ rfl rfl) ?_
 refine ci (rfl:_=[_,_,_]) ?_
 refine cg (_,[]) (fun τ=> aH _ aa rfl rfl rfl) ?_
 refine ci (rfl:_=[_,_,_,_]) ?_
 refine cg (_,[]) (fun τ=> aK _ aa rfl rfl (rfl:_=some (AV.ref _ _ _))) ?_
 refine ci (rfl:_=[_,_,_,_,_]) ?_
 refine cg (_,[]) (fun τ=> aE _ (rfl:_=AV.ptr _ _)) ?_
 refine ci (rfl:_=[_,_,_,_,_,_]) ?_
 refine cg (_,[]) (fun τ=> aS _ rfl rfl) ?_
 refine ci (rfl:_=[_,_,_,_,_,_,_]) ?_
 refine cg (_,[]) (fun τ=> aH _ aa rfl rfl rfl) ?_
 refine ci (rfl:_=[_,_,_,_,_,_,_,_]) ?_
 refine cg (_,[]) (fun τ=> aK _ aa rfl rfl (rfl:_=some (AV.v (.bool _)))) ?_
 refine ci (rfl:_=[_,_,_,_,_,_,_,_,_]) ?_
 refine cg (_,[((10,0),_)]) (fun τ=> jN _ _ aa rfl rfl rfl rfl (Nat.le_of_ble_eq_true rfl) rfl) ?_
 refine ci (rfl:_=[_,_,_,_,_,_,_,_,_,_]) ?_
 refine cg (_,[]) (fun τ=> bG _ (rfl:_=AV.ref _ _ _)) ?_
 refine ci (rfl:_=[_,_,_,_,_,_,_,_,_,_,_]) ?_
 refine cg (_,[]) (fun τ=> bG _ (rfl:_=AV.v (.bool _))) ?_
 refine ci (rfl:_=[_,_,_,_,_,_,_,_,_,_,_,_]) ?_
 refine nB ⟨⟨rfl,by kernel_rfl,by kernel_rfl⟩,?_⟩
 exact aj (aC (By (.inr rfl) rfl (.cellA aa rfl rfl rfl) (.tmp (rfl:_=AV.ref _ _ _)) (.tmp (rfl:_=AV.v _)) (Le.out [] [(25,1)] (.tup rfl (aI (.agg rfl lz) (aI (iu rfl rfl rfl rfl) lz))) rfl rfl rfl tr trivial)))

def sU (M:Mk) (h:Nat):Ms:=if M.P.e h < 0 then { vars:=M.iv,pc:=0,fin:=true } else fV M.cx 500 (dC M.iv (M.P.e h).toNat)
theorem tN {M:Mk} {h:Nat} (he:M.P.e h < 0):sU M h={ vars:=M.iv,pc:=0,fin:=true }:=if_pos he
theorem rZ {M:Mk} {h e0:Nat} (he:M.P.e h=(e0:Int)):sU M h=fV M.cx 500 (dC M.iv e0):=by
  unfold sU;rw [if_neg ab,he];rfl
abbrev Fr (M:Mk) (h:Nat):List AV:=[xf M.P, .v (.int .i64 (h:Int)), .sl M.iv.length (du M.iv), .agg [.v (.int .i64 (M.nm 0)), .v (.int .i64 (M.nm 1)), .v (.int .i64 (M.nm 2)), .v (.int .i64 (M.nm 3)), .v (.int .i64 (M.nm 4)), .v (.int .i64 (M.nm 5)), .v (.int .i64 (M.nm 6)), .v (.int .i64 (M.nm 7)), .v (.int .i64 (M.nm 8))], .sl M.ans.length (du M.ans)]
abbrev FZ (s:Ms):AV:= .tup [.agg [.sl s.vars.length (du s.vars), .sl s.acts.length (vJ s.acts), .v (.int .i64 (s.steps:Int)), .v (.bool (!s.fin)), .sl (ky s.cov).length (du (ky s.cov))], .sl s.asked.length (du s.asked), .v (.bool true)]
theorem wi {M:Mk} {D:Nat→Nat} {nv:Nat} (K:vI M D nv) (hn:M.ans.length≤4611686018427387904) (h:Nat) (hh:h < 40):
    Spec Tryz.prog 24 (bj (Fr M h) []) (aX (FZ (sU M h)) []):=by
  have hnv:=K.pg.nv
  have h0:0 < M.iv.length:=by rw [K.iv];exact K.nv
  have h1:M.iv.length≤1000:=by rw [K.iv];omega
  rcases K.ent h hh with he | ⟨e0,he,he2,hD⟩
  · rw [tN he];exact vw M h hh he h0 h1
  · rw [rZ he]
    have hr:=rm M D nv K.pg h hh e0 he he2 hD K.iv K.ir K.nv K.c hn _ rfl
    rw [← Dl] at hr
    exact hr
theorem yD {l:List Int} {x y:Int}:y∈jF l x↔y∈l∨y=x:=by
  by_cases hx:x∈l
  · have e:jF l x=l:=by unfold jF;rw [if_pos hx]
    rw [e]
    exact ⟨.inl,fun h=> h.elim id fun e=> e ▸ hx⟩
  · rw [(px hx).mem_iff,List.mem_append,List.mem_singleton]
theorem rf: ∀ (l:List Nat) (m:List Int) (y:Int),y∈l.foldl (fun m (i:Nat)=> jF m (i:Int)) m↔y∈m∨ ∃ i∈l,y=(i:Int)
  | [],m,y=> by simp
  | i::l,m,y=> by
    rw [List.foldl_cons,rf l,yD]
    constructor
    · rintro ((h | h) | ⟨j,hj,h⟩)
      · exact .inl h
      · exact .inr ⟨i,List.mem_cons_self,h⟩
      · exact .inr ⟨j,List.mem_cons_of_mem _ hj,h⟩
    · rintro (h | ⟨j,hj,h⟩)
      · exact .inl (.inl h)
      · rcases List.mem_cons.1 hj with rfl | hj
        · exact .inl (.inr h)
        · exact .inr ⟨j,hj,h⟩
theorem mem_covS {l:List Nat} {y:Int}:y∈ky l↔ ∃ i∈l,y=(i:Int):=by
  unfold ky;rw [rf];simp
theorem Bu {K:Cx} (k:Nat) {s:Ms} (h:s.fin=false):fV K (k+1) s=fV K k (fP K s):=by rw [fV,if_neg (by rw [h];decide)]
structure Fs (M:Mk) (nv h:Nat) (s:Ms):Prop where
  vl:s.vars.length=nv
  rv: ∀ v∈s.vars,Rg v
  ac: ∀ a∈s.acts,qZ M.cx nv a
  sn:cm s.acts≤20
  ar: ∀ k∈s.asked,2≤k∧k≤4
  al:s.acts.length≤500
  kl:s.asked.length≤500
  wr:s.vars.take M.P.d=wD (M.iv.take M.P.d) s.acts
  st:s.steps≤500
  sf:s.fin=false→s.steps=500
  cl:(ky s.cov).length≤s.steps
  no:M.P.e h < 0→s={ vars:=M.iv,pc:=0,fin:=true }
  srt:(ky s.cov).Pairwise (· < ·)
  rg: ∀ i∈ky s.cov,∃ j:Nat,i=(j:Int)∧j < M.P.c.length
  en:0≤M.P.e h→M.P.e h∈ky s.cov
  fn:0≤M.P.e h→s.fin=true→ ∃ j:Nat,(j:Int)∈ky s.cov∧ ∃ x,M.P.c[j]? =some x∧x.op= .stop
theorem DV {M:Mk} {D:Nat→Nat} {nv:Nat} (K:vI M D nv) (h:Nat) (hh:h < 40):Fs M nv h (sU M h):=by
  rcases K.ent h hh with he | ⟨e0,he,he2,hD⟩
  · rw [tN he]
    refine ⟨K.iv,K.ir,fun a ha=> absurd ha (List.not_mem_nil),Nat.zero_le _,fun k hk=> absurd hk (List.not_mem_nil),Nat.zero_le _,Nat.zero_le _,rfl,Nat.zero_le _,(fun h=> nomatch h),Nat.le_refl _,fun _=> rfl, .nil,fun i hi=> absurd hi (List.not_mem_nil),fun h=> ?_,fun h=> ?_⟩
    · omega
    · omega
  · rw [rZ he]
    have hat0:=qQ (K:=M.cx) (D:=D) K.iv K.ir he2 hD
    have hat:=Et K.pg hat0 500
    have hst:=pK (K:=M.cx) 500 (dC M.iv e0)
    have hsz:Sz (fV M.cx 500 (dC M.iv e0)):=mb (I:=Sz) (fun s hs _=> ul hs) 500 _ ⟨Nat.le_refl _,Nat.le_refl _,Nat.le_refl _⟩
    have hwr:=AO K.pg hat0 500
    obtain ⟨cl,hcl⟩: ∃ l,(fV M.cx 500 (dC M.iv e0)).cov=e0::l:=by
      obtain ⟨l,hl⟩:=uh (K:=M.cx) 499 (fP M.cx (dC M.iv e0))
      rw [stepM_steps.2] at hl
      have e:=Bu (K:=M.cx) 499 (s:=dC M.iv e0) rfl
      exact ⟨l,(congrArg Ms.cov e).trans hl⟩
    generalize fV M.cx 500 (dC M.iv e0)=s at*
    have hs5:s.steps≤500:=by simpa [dC] using hst.1
    have h2:=hsz.ac
    have h3:=hsz.ak
    have h5:=ya s.cov
    have h6:=hat.cn
    refine ⟨hat.iv.vl,hat.iv.rv,hat.iv.ac,hat.iv.sn,hat.iv.ar,by omega,by omega,hwr,hs5,fun hf=> ?_,by omega,fun h=> by omega,?_,fun i hi=> ?_,fun _=> ?_,fun _ hf=> ?_⟩
    · have:=hst.2 hf;simpa [dC] using this
    · exact ow _ _ .nil
    · obtain ⟨j,hj,rfl⟩:=mem_covS.1 hi
      exact ⟨j,rfl,hat.cl j hj⟩
    · rw [he];exact mem_covS.2 ⟨e0,by rw [hcl];exact List.mem_cons_self,rfl⟩
    · obtain ⟨i,hi,x,hx,ho⟩:=hat.fn hf
      exact ⟨i,mem_covS.2 ⟨i,hi,rfl⟩,x,hx,ho⟩

abbrev KB (l:List Int):Prop:=l.length≤4611686018427387904∧ ∀ x∈l, -9223372036854775808≤x∧x≤9223372036854775807

def mL:Mk:=⟨⟨bS onsL 0,bY onsL,0,1⟩,[0],[0,1,0,0,0,0,0,0,0],[]⟩
def rL:Ms:=fV mL.cx 500 (dC [0] 0)
theorem AU:rL.vars=[3]:=by kernel_rfl
theorem BI:rL.acts=[{ k:=3,a:=0,b:=3,c:=3,d:=1 }]:=by kernel_rfl
theorem Em:rL.fin=true:=by kernel_rfl
theorem zu:0 < rL.steps:=of_decide_eq_true ae
theorem Gm:PG mL.cx (qP onsL) 1:=Cw ab usrcL.ok (fun i=> lH (fun x hx=> by
 have hx:x∈[(0:Int),1,0,0,0,0,0,0,0]:=hx
 simp only [List.mem_cons,List.not_mem_nil,or_false] at hx
 unfold Rg;omega) i)
theorem Ds:mL.P.e 0=((0:Nat):Int):=by kernel_rfl
theorem Ef:0 < mL.P.c.length:=of_decide_eq_true ae
theorem De:qP onsL 0=0:=by kernel_rfl
set_option maxHeartbeats 1000000 in
theorem sK:Spec Tryz.prog 27 (bj [] []) (aX (.v (.bool true)) []):=by
 have hb:=tq usrcL
 rw [wy,if_pos (vB srcOkL)] at hb
 have hb:Spec Tryz.prog 64 (bj [.v (bt CM)] []) (aX (.tup [xf mL.P, .v (.int .i64 0)]) []):=hb
 have hrun:=rm mL (qP onsL) 1 Gm 0 ab 0 Ds Ef De rfl (fun x hx=> by rw [List.mem_singleton.1 hx];unfold Rg;omega) ab usrcL.c (by show 0≤_;omega) rL rfl
 rw [AU,BI,Em] at hrun
 have hn:=zu
 have hrun:Spec Tryz.prog 24 (bj [xf mL.P, .v (.int .i64 0), .sl 1 (du [0]), .agg [.v (.int .i64 0), .v (.int .i64 1), .v (.int .i64 0), .v (.int .i64 0), .v (.int .i64 0), .v (.int .i64 0), .v (.int .i64 0), .v (.int .i64 0), .v (.int .i64 0)], .sl 0 []] []) (aX (.tup [.agg [.sl 1 (du [3]), .sl 1 (vJ [{ k:=3,a:=0,b:=3,c:=3,d:=1 }]), .v (.int .i64 (rL.steps:Int)), .v (.bool false), .sl (jq (np rL.cov)).length (du (jq (np rL.cov)))], .sl rL.asked.length (du rL.asked), .v (.bool true)]) []):=hrun
 generalize rL.steps=n at hn hrun
 generalize jq (np rL.cov)=cv at hrun
 generalize rL.asked=ak at hrun
 generalize mL.P=P at hb hrun
 refine Spec.ofN Tryz.func27 rfl Tryz.ntmps27 rfl ?_
 refine am (ct rfl (aj (am (ai (aL aa al (hb) rfl rfl) ?_))))
 refine ai (aE _ (rfl:_=AV.tup _)) (ai (db _ rfl (rfl:_=some (AV.agg _))) (ai (db _ rfl (rfl:_=some (AV.v (.int _ _)))) (ai (ay (1,0) aa rfl rfl) (bO rfl rfl rfl rfl rfl rfl (aZ rfl (aj (am (ai (ay (3,0) aa rfl rfl) (aj (am ?_))))))))))
 refine ai (eD _ _ aa rfl rfl rfl 1 rfl ab (by exact (Nat.zero_add _).trans (Nat.mul_one _))) ?_
 refine bO rfl rfl rfl rfl rfl rfl (aj (am (ai (aR _ aa rfl rfl rfl rfl) (ai (aV _ _ aa rfl ag (by (simp <;> rfl)) ah rfl) ?_))))
 refine ai (aR _ aa rfl rfl rfl rfl) (ai (aL aa al (hrun) rfl rfl) ?_)
 refine ai (aE _ (rfl:_=AV.tup _)) (ai (db _ rfl (rfl:_=some (AV.agg _))) (ai (db _ rfl (rfl:_=some (AV.sl _ _))) (ai (db _ rfl (rfl:_=some (AV.v (.bool _)))) (ai (ay (4,0) aa rfl rfl) (bO rfl rfl rfl rfl rfl rfl (kJ rfl (ct rfl (aj (ap ?_)))))))))
 refine aN (σ':=aB 48 [(2,_),(4,_),(6,_)] [((4,0),_)] [] []) kp ?_
 refine an (aQ rfl (iY rfl rfl rfl (cJ rfl (ax rfl rfl (aE _ (rfl:_=AV.v (.bool _))) (ai (aD _ _ _ rfl (rfl:_=AV.v (.bool _))) (cJ rfl (ax rfl rfl (aH _ aa rfl rfl rfl) (ax rfl rfl (aK _ aa rfl rfl (rfl:_=some (AV.sl _ _))) (ax rfl rfl (aV _ _ aa rfl ag (by (simp <;> rfl)) ah rfl) ?_)))))))))
 refine ax rfl rfl (aL aa al (sH [3] ah) rfl rfl) ?_
 refine ai (aD _ _ _ rfl (rfl:_=AV.v (.bool _))) (cJ rfl (ax rfl rfl (aH _ aa rfl rfl rfl) (ax rfl rfl (aK _ aa rfl rfl (rfl:_=some (AV.sl _ _))) (ax rfl rfl (aA _ aa rfl (by exact (rfl:_=some [_,_,_,_,_]))) ?_))))
 refine ax rfl rfl (aV _ _ aa rfl ag (by (simp <;> rfl)) ah rfl) ?_
 refine ax rfl rfl (aL aa al (oP [{ k:=3,a:=0,b:=3,c:=3,d:=1 }] ah) rfl rfl) ?_
 refine ai (aD _ _ _ rfl (rfl:_=AV.v (.bool _))) (cJ rfl (ax rfl rfl (aH _ aa rfl rfl rfl) (ax rfl rfl (aK _ aa rfl rfl (rfl:_=some (AV.v (.bool _)))) (ax rfl rfl (dc (r:=true) _ rfl rfl) (ai (aD _ _ _ rfl (rfl:_=AV.v (.bool _))) (cJ rfl (ax rfl rfl (aH _ aa rfl rfl rfl) (ax rfl rfl (aK _ aa rfl rfl (rfl:_=some (AV.v (.int _ _)))) (ax rfl rfl (cP (r:=true) _ _ rfl rfl (decide_eq_true ab)) ?_)))))))))
 refine ai (aD _ _ _ rfl (rfl:_=AV.v (.bool _))) (ct rfl (aj (aC (aY (.inr rfl) rfl (.tmp (rfl:_=AV.v (.bool _))) (Le.out [] [] (ic ?_) rfl rfl rfl trivial trivial)))))
 rfl

theorem Db {K:Cx} {nv:Nat} {l:List Ac} (h: ∀ a∈l,qZ K nv a) {k:Nat} (hk:k < l.length):qZ K nv (sD l k):=by
 unfold sD;rw [List.getD_eq_getElem?_getD,List.getElem?_eq_getElem hk];exact h _ (List.getElem_mem hk)

theorem uJ (l:List Ac) {k:Nat} (h:k < l.length):cm (l.take (k+1))=cm (l.take k)+(if (sD l k).k=3 then 1 else 0):=by
 have e:l.take (k+1)=l.take k++[sD l k]:=by
  rw [List.take_add_one,List.getElem?_eq_getElem h];unfold sD;rw [List.getD_eq_getElem?_getD,List.getElem?_eq_getElem h];rfl
 rw [e]
 split
 ·rename_i h3;exact pQ h3
 ·rename_i h3;exact gZ h3
theorem zJ (l:List Ac):cm l≤l.length:=List.countP_le_length
def Ob (P:Pg):List PV:=[.sl P.c.length (inl P.c), .v (.int .i64 (P.e 0)), .v (.int .i64 (P.e 1)), .v (.int .i64 (P.e 2)), .v (.int .i64 (P.e 3)), .v (.int .i64 (P.e 4)), .v (.int .i64 (P.e 5)), .v (.int .i64 (P.e 6)), .v (.int .i64 (P.e 7)), .v (.int .i64 (P.e 8)), .v (.int .i64 (P.e 9)), .v (.int .i64 (P.e 10)), .v (.int .i64 (P.e 11)), .v (.int .i64 (P.e 12)), .v (.int .i64 (P.e 13)), .v (.int .i64 (P.e 14)), .v (.int .i64 (P.e 15)), .v (.int .i64 (P.e 16)), .v (.int .i64 (P.e 17)), .v (.int .i64 (P.e 18)), .v (.int .i64 (P.e 19)), .v (.int .i64 (P.e 20)), .v (.int .i64 (P.e 21)), .v (.int .i64 (P.e 22)), .v (.int .i64 (P.e 23)), .v (.int .i64 (P.e 24)), .v (.int .i64 (P.e 25)), .v (.int .i64 (P.e 26)), .v (.int .i64 (P.e 27)), .v (.int .i64 (P.e 28)), .v (.int .i64 (P.e 29)), .v (.int .i64 (P.e 30)), .v (.int .i64 (P.e 31)), .v (.int .i64 (P.e 32)), .v (.int .i64 (P.e 33)), .v (.int .i64 (P.e 34)), .v (.int .i64 (P.e 35)), .v (.int .i64 (P.e 36)), .v (.int .i64 (P.e 37)), .v (.int .i64 (P.e 38)), .v (.int .i64 (P.e 39)), .v (.int .i64 (P.d:Int)), .v (.int .i64 (P.v:Int))]
def EF (P Q:Pg):List PV:=Ob P++Ob Q
theorem Fo (P Q:Pg):PV.ups (((EF P Q).drop (0*43)).take 43)=Iv P:=rfl
theorem FY (P Q:Pg):PV.ups (((EF P Q).drop (1*43)).take 43)=Iv Q:=rfl
abbrev DM (P:Pg) (v r:List Int):Mk:=⟨P,fI v (P.d+P.v),(List.range 9).map (xd v),r⟩
theorem uX (v r:List Int) {n k:Int} (hn:Rg n) (hk:Rg k):vI (DM (kD n k) v r) nW 1:=by
 refine ⟨tS hn hk (nV v),?_,nH _ _,by omega,fun h hh=> ?_,?_⟩
 ·show (fI v (1+0)).length=1
  rw [iG]
 ·by_cases h0:h=0
  ·subst h0
   exact .inr ⟨0,rfl,by show 0 < (oy n k).length;exact Nat.zero_lt_succ _,rfl⟩
  ·exact .inl (by show eB 40 h < 0;unfold eB;rw [if_pos ab];omega)
 ·show (oy n k).length≤1000000
  exact (by decide:14≤1000000)
theorem wk (p v r:List Int) (hr:r.length≤30): ∃ D nv,vI (DM (fK p) v r) D nv:=by
 obtain ⟨D,nv,K⟩:=xD p v v r
 refine ⟨D,nv,?_⟩
 have e:xc p v v r=DM (fK p) v r:=by unfold xc;rw [List.take_of_length_le hr]
 rw [← e];exact K
theorem Ec (p v r:List Int) (hr:r.length≤30) {n k:Int} (hn:Rg n) (hk:Rg k) (i:Nat) (hi:i < 2): ∃ (P:Pg) (D:Nat→Nat) (nv:Nat),vI (DM P v r) D nv∧PV.ups (((EF (fK p) (kD n k)).drop (i*43)).take 43)=Iv P:=by
 rcases (show i=0∨i=1 by omega) with rfl | rfl
 ·obtain ⟨D,nv,K⟩:=wk p v r hr
  exact ⟨fK p,D,nv,K,Fo _ _⟩
 ·exact ⟨kD n k,nW,1,uX v r hn hk,FY _ _⟩
set_option maxHeartbeats 2000000 in
theorem oX (p v r:List Int) (hp:KB p) (hv:KB v) (hr:KB r) (it to:Int) (hit: -9223372036854775808≤it∧it≤9223372036854775807) (hto: -9223372036854775808≤to∧to≤9223372036854775807):
  Spec Tryz.prog 6 (bj [.sl p.length (du p), .sl v.length (du v), .sl r.length (du r), .v (.int .i64 it), .v (.int .i64 to)] []) (aX (.v (.bool true)) []):=by
 have a1:=gE it 101 ab ab hit.1 hit.2
 have a2:=km it 101 ab
 have a3:=kr it 101 ab
 have b1:=gE to 4 ab ab hto.1 hto.2
 have b2:=km to 4 ab
 have b3:=kr to 4 ab
 generalize gf it 101=I at a1 a2 a3
 generalize gf to 4=J at b1 b2 b3
 have hl:(r.take 20).length≤20:=by rw [List.length_take];omega
 have h1:=ww p hp.1 hp.2
 have h2:Spec Tryz.prog 21 (bj [.sl r.length (du r), .v (.int .i64 20)] []) (aX (.sl (r.take 20).length (du (r.take 20))) []):=pz r hr.1 20 ab
 have h4:Spec Tryz.prog 23 (bj [.sl v.length (du v)] []) (aX (.agg (L9 (xd v))) []):=sR v ⟨hv.1,hv.2⟩
 have hA:=fun i hi=> Ec p v (r.take 20) ab (n:=I) (k:=J - 1) (by unfold Rg;omega) (by unfold Rg;omega) i hi
 have hxl:0 < (EF (fK p) (kD I (J - 1))).length:=Nat.zero_lt_succ _
 have hby:=pm I (J - 1)
 generalize r.take 20=A at h2 hA hl
 have hxs: ∃ XS,XS=EF (fK p) (kD I (J - 1)):=⟨_,rfl⟩
 obtain ⟨XS,hXS⟩:=hxs
 rw [← hXS] at hA hxl
 generalize fK p=P0 at h1 hXS
 generalize kD I (J - 1)=P1 at hby hXS
 refine Spec.ofN Tryz.func6 rfl Tryz.ntmps6 rfl ?_
 refine am (ct rfl (aj (am (aQ rfl (ai (aL aa al (a1) rfl rfl) ?_)))))
 refine aQ rfl (ai (aL aa al (b1) rfl rfl) ?_)
 refine ai (ce _ _ rfl rfl (bq ab)) ?_
 refine ai (aL aa al (hby) rfl rfl) ?_
 refine ai (ay (11,0) aa rfl rfl) (bO rfl rfl rfl rfl rfl rfl (aj (ap ?_)))
 refine aN (σ':=aB 164 [(0,_),(1,_),(2,_),(11,_)] [((11,0),_)] [] []) kp ?_
 refine bF 5 [30,31,32,33,12] [] ae ae rfl (aM rfl) (rfl:_=[_,_,_,_,_]) (rfl:_=[]) ?_
 refine aq (_,[]) (fun τ=> aE _ (rfl:_=AV.sl _ _)) ?_
 refine eJ rfl ?_
 refine aq (_,[]) (fun τ=> (aL aa al (h1) rfl rfl)) ?_
 refine eK rfl ?_
 refine aq (_,[]) (fun τ=> aR _ aa rfl rfl rfl rfl) ?_
 refine eH rfl ?_
 refine aq (_,[]) (fun τ=> aV _ _ aa rfl ag (by intro c hc;simp only [List.mem_cons,List.not_mem_nil,or_false] at hc;rcases hc with rfl | rfl <;> rfl) ah (by exact (rfl:_=some (EF P0 P1)))) ?_
 refine eS rfl ?_
 refine aq (_,[]) (fun τ=> bG _ (rfl:_=AV.sl _ _)) ?_
 refine eZ rfl (bh ⟨rfl,?_⟩)
 refine aj (am (eV rfl (ai (aL aa al (h2) rfl rfl) ?_)))
 refine kJ rfl (aj (aF fun K5 hK5=> ?_))
 refine am (aZ rfl (aj (au ?_)))
 refine bw (α:=Nat) (fun i=> i≤2) 164 [(1,_),(12,_),(13,_)] [] (fun i=> [(14, .v (.int .i64 (i:Int)))]) (fun i=> []) [] [] (fun i=> 2 - i) 0 ?_ (by
  refine Le.mkJ [] [] rfl ?_ ?_ trivial trivial ?_
  ·exact ⟨(iS rfl),(iS rfl),(iS rfl),(ck ag),trivial⟩
  ·exact trivial
  ·kernel_rfl) ?_
 ·omega
 intro i hi
 refine aF fun K7 hK7=> ?_
 refine am (aQ rfl (ai (bo _ _ rfl rfl rfl) (aj (aT rfl (fun hc37=> ?_) (fun hc37=> ?_)))))
 ·skip
  obtain ⟨P,D,nv,K,hups⟩:=hA i ab
  have hans:A.length≤4611686018427387904:=by omega
  have hB:=fun h hh=> DV K h hh
  have hR:=fun h hh=> wi K hans h hh
  have hnv:=K.pg.nv
  have hiv:(fI v (P.d+P.v)).length=nv:=K.iv
  have hdv:P.d+P.v=nv:=by rw [← hiv,iG]
  have h3:Spec Tryz.prog 22 (bj [xf P, .sl v.length (du v)] []) (aX (.sl (fI v (P.d+P.v)).length (du (fI v (P.d+P.v)))) []):=vj P v ⟨hv.1,hv.2⟩ ab
  obtain ⟨M,hM⟩: ∃ M,M=DM P v A:=⟨_,rfl⟩
  rw [hXS] at hups hxl
  refine bv (hK7 _ ?_)
  clear hK7;try clear K7
  refine aF fun K9 hK9=> ?_
  refine au (am (eV rfl (ai (aL aa al (h4) rfl rfl) ?_)))
  refine ai (ay (15,0) aa rfl rfl) (bO rfl rfl rfl rfl rfl rfl (aj (am (aZ rfl (aj (au ?_))))))
  refine bw (α:=Nat) (fun h=> h≤40) 164 [(1,_),(12,_),(13,_),(14,_),(15,_)] [((15,0),_)] (fun h=> [(16, .v (.int .i64 (h:Int)))]) (fun h=> []) [] [] (fun h=> 40 - h) 0 ?_ (by
   refine Le.mkJ [] [] rfl ?_ ?_ trivial trivial ?_
   ·exact ⟨(iS rfl),(iS rfl),(iS rfl),(iV rfl),(iP rfl),(ck ag),trivial⟩
   ·exact ⟨(cF rfl rfl rfl),trivial⟩
   ·kernel_rfl) ?_
  ·omega
  intro h hh
  refine aF fun K12 hK12=> ?_
  refine am (aQ rfl (ai (bo _ _ rfl rfl rfl) (aj (aT rfl (fun hc43=> ?_) (fun hc43=> ?_)))))
  ·skip
   have ho:=hB h ab
   have hr2:=hR h ab
   have s0: ∀ a∈(sU (DM P v A) h).acts,qZ ⟨P.c,P.d,(List.range 9).map (xd v),A⟩ nv a:=ho.ac
   generalize sU (DM P v A) h=s at ho hr2 s0
   have s1:=ho.vl
   have s2:=ho.al
   have s3:=ho.cl
   have s4:=ho.st
   have s5:=ho.sn
   have s6:=ho.rv
   have s7:=ho.sf
   refine bv (hK12 _ ?_)
   clear hK12;try clear K12
   refine ap (au (ap (qB 22 [47,48,49,50,51,52,53,54,55,56,57,58,59,60,46,61,62,63,17,18,19] [(17,0),(17,0)] ae ae rfl (rfl:_=[_,_,_,_,_,_,_,_,_,_,_,_,_,_,_,_,_,_,_,_,_,_]) (rfl:_=[]) ?_)))
   refine cg (_,[]) (fun τ=> aE _ (rfl:_=AV.sl _ _)) ?_
   refine ci (rfl:_=[_]) ?_
   refine cg (_,[]) (fun τ=> aE _ (rfl:_=AV.v (.int _ _))) ?_
   refine ci (rfl:_=[_,_]) ?_
   refine cg (_,[]) (fun τ=> bf _ _ aa rfl rfl i rfl ab hxl rfl) ?_
   refine ci (rfl:_=[_,_,_]) ?_
   refine cg (_,[]) (fun τ=> cd _ aa rfl (by exact hups) rfl) ?_
   refine ci (rfl:_=[_,_,_,_]) ?_
   refine cg (_,[]) (fun τ=> aE _ (rfl:_=AV.v (.int _ _))) ?_
   refine ci (rfl:_=[_,_,_,_,_]) ?_
   refine cg (_,[]) (fun τ=> aE _ (rfl:_=AV.sl _ _)) ?_
   refine ci (rfl:_=[_,_,_,_,_,_]) ?_
   refine cg (_,[]) (fun τ=> aE _ (rfl:_=AV.v (.int _ _))) ?_
   refine ci (rfl:_=[_,_,_,_,_,_,_]) ?_
   refine cg (_,[]) (fun τ=> bf _ _ aa rfl rfl i rfl ab hxl rfl) ?_
   refine ci (rfl:_=[_,_,_,_,_,_,_,_]) ?_
   refine cg (_,[]) (fun τ=> cd _ aa rfl (by exact hups) rfl) ?_
   refine ci (rfl:_=[_,_,_,_,_,_,_,_,_]) ?_
   refine cg (_,[]) (fun τ=> aE _ (rfl:_=AV.sl _ _)) ?_
   refine ci (rfl:_=[_,_,_,_,_,_,_,_,_,_]) ?_
   refine cg (_,[]) (fun τ=> (aL aa al (h3) rfl rfl)) ?_
   refine ci (rfl:_=[_,_,_,_,_,_,_,_,_,_,_]) ?_
   refine cg (_,[]) (fun τ=> aR _ aa rfl rfl rfl rfl) ?_
   refine ci (rfl:_=[_,_,_,_,_,_,_,_,_,_,_,_]) ?_
   refine cg (_,[]) (fun τ=> aE _ (rfl:_=AV.sl _ _)) ?_
   refine ci (rfl:_=[_,_,_,_,_,_,_,_,_,_,_,_,_]) ?_
   refine cg (_,[]) (fun τ=> (aL aa al (hr2) rfl rfl)) ?_
   refine ci (rfl:_=[_,_,_,_,_,_,_,_,_,_,_,_,_,_]) ?_
   refine cg (_,[]) (fun τ=> aE _ (rfl:_=AV.tup _)) ?_
   refine ci (rfl:_=[_,_,_,_,_,_,_,_,_,_,_,_,_,_,_]) ?_
   refine cg (_,[]) (fun τ=> db _ rfl (rfl:_=some (AV.agg _))) ?_
   refine ci (rfl:_=[_,_,_,_,_,_,_,_,_,_,_,_,_,_,_,_]) ?_
   refine cg (_,[]) (fun τ=> db _ rfl (rfl:_=some (AV.sl _ _))) ?_
   refine ci (rfl:_=[_,_,_,_,_,_,_,_,_,_,_,_,_,_,_,_,_]) ?_
   refine cg (_,[]) (fun τ=> db _ rfl (rfl:_=some (AV.v (.bool _)))) ?_
   refine ci (rfl:_=[_,_,_,_,_,_,_,_,_,_,_,_,_,_,_,_,_,_]) ?_
   refine cg (_,[((17,0),_)]) (fun τ=> ay (17,0) aa rfl rfl) ?_
   refine ci (rfl:_=[_,_,_,_,_,_,_,_,_,_,_,_,_,_,_,_,_,_,_]) ?_
   refine cg (_,[((17,0),_)]) (fun τ=> jN _ _ aa rfl rfl rfl rfl (Nat.le_of_ble_eq_true rfl) rfl) ?_
   refine ci (rfl:_=[_,_,_,_,_,_,_,_,_,_,_,_,_,_,_,_,_,_,_,_]) ?_
   refine cg (_,[]) (fun τ=> bG _ (rfl:_=AV.sl _ _)) ?_
   refine ci (rfl:_=[_,_,_,_,_,_,_,_,_,_,_,_,_,_,_,_,_,_,_,_,_]) ?_
   refine cg (_,[]) (fun τ=> bG _ (rfl:_=AV.v (.bool _))) ?_
   refine ci (rfl:_=[_,_,_,_,_,_,_,_,_,_,_,_,_,_,_,_,_,_,_,_,_,_]) ?_
   refine nB ⟨⟨rfl,by kernel_rfl,by kernel_rfl⟩,?_⟩
   refine aj (ap ?_)
   refine aN (σ':=aB 164 [(1,_),(12,_),(13,_),(14,_),(15,_),(16,_),(17,_)] [((15,0),_),((17,0),_)] [] []) kp ?_
   refine an (aZ rfl (aj (aF fun K17 hK17=> ?_)))
   refine am (aZ rfl (aj (au ?_)))
   refine bw (α:=Nat) (fun k=> k≤s.acts.length) 164 [(1,_),(12,_),(13,_),(14,_),(15,_),(16,_),(17,_)] [((15,0),_),((17,0),_)] (fun k=> [(20, .v (.int .i64 (cm (s.acts.take k):Int))),(21, .v (.int .i64 (k:Int)))]) (fun k=> []) [] [] (fun k=> s.acts.length - k) 0 ?_ (by
    refine Le.mkJ [] [] rfl ?_ ?_ trivial trivial ?_
    ·exact ⟨(iS rfl),(iS rfl),(iS rfl),(iV rfl),(iP rfl),(iV rfl),(iP rfl),(ck ag),(ck ag),trivial⟩
    ·exact ⟨(cF rfl rfl rfl),(cF rfl rfl rfl),trivial⟩
    ·kernel_rfl) ?_
   ·omega
   intro k hk
   refine aF fun K19 hK19=> ?_
   refine am (aQ rfl (bA rfl rfl rfl (fh rfl rfl rfl (ai (bE _ aa rfl) (ai (bo _ _ rfl rfl rfl) (aj (aT rfl (fun hc68=> ?_) (fun hc68=> ?_))))))))
   ·skip
    have t1:=Db s0 (k:=k) ab
    have t2:=uJ s.acts (k:=k) ab
    have t3:=zJ (s.acts.take k)
    have t4:(s.acts.take k).length≤500:=by rw [List.length_take];omega
    have hia:=sq s.acts k ab
    obtain ⟨⟨ra,rb,rc,rd⟩,t5,_⟩:=t1
    unfold Rg at ra rb rc rd
    have t5:(sD s.acts k).k=3→0≤(sD s.acts k).a∧(sD s.acts k).a < xd v 1:=t5
    generalize sD s.acts k=ac at hia t2 t5 ra rb rc rd
    refine bv (hK19 _ ?_)
    clear hK19;try clear K19
    refine ap (au (am (bA rfl rfl rfl (fh rfl rfl rfl (aQ rfl (ai (bf _ _ aa rfl rfl _ rfl ab (by (simp only [ba,bn,bl,ba,gn,bM];omega)) ag) ?_))))))
    refine ai (cd _ aa rfl (by exact hia) rfl) ?_
    refine ai (ay (22,0) aa rfl rfl) (bO rfl rfl rfl rfl rfl rfl (aj (ap (am (bA rfl rfl rfl (cC rfl rfl rfl (ai (bP _ _ rfl rfl rfl) (aj (aT rfl (fun hc78=> ?_) (fun hc78=> ?_))))))))))
    ·skip
     have t6:ac.k=3:=by simpa using hc78
     rw [if_pos t6] at t2
     have t7:=t5 t6
     refine ap ?_
     refine aN (σ':=aB 164 [(1,_),(12,_),(13,_),(14,_),(15,_),(16,_),(17,_),(20,_),(21,_),(22,_)] [((15,0),_),((17,0),_),((22,0),_)] [] []) kp ?_
     refine an (aQ rfl (ai (bc _ _ rfl rfl (bq ab)) ?_))
     refine aZ rfl (aj (am (bA rfl rfl rfl (cC rfl rfl rfl (ai (bo (r:=false) _ _ rfl rfl (decide_eq_false ab)) ?_)))))
     refine cJ rfl (ax rfl rfl (aH _ aa rfl rfl rfl) (ax rfl rfl (aK _ aa rfl rfl (rfl:_=some (AV.v (.int _ _)))) (ax rfl rfl (eD _ _ aa rfl rfl rfl 1 rfl ab rfl) ?_)))
     refine ax rfl rfl (aK _ aa rfl rfl (rfl:_=some (AV.v (.int _ _)))) (ax rfl rfl (eR (r:=false) _ _ rfl rfl (decide_eq_false ab)) ?_)
     refine ai (aD _ _ _ rfl (rfl:_=AV.v (.bool _))) (aj (aP rfl rfl (aJ (am (bA rfl rfl rfl (cC rfl rfl rfl (bA rfl rfl rfl (cC rfl rfl rfl (bA rfl rfl rfl (cC rfl rfl rfl ?_))))))))))
     refine bA rfl rfl rfl (cC rfl rfl rfl (ai (uE (r:=max (max (max ac.a ac.b) ac.c) ac.d) _ _ _ _ rfl rfl rfl rfl rfl) ?_))
     refine ai (cP (r:=false) _ _ rfl rfl (decide_eq_false ab)) ?_
     refine cJ rfl (ax rfl rfl (aH _ aa rfl rfl rfl) (ax rfl rfl (aK _ aa rfl rfl (rfl:_=some (AV.v (.int _ _)))) (ax rfl rfl (aH _ aa rfl rfl rfl) (ax rfl rfl (aK _ aa rfl rfl (rfl:_=some (AV.v (.int _ _)))) (ax rfl rfl (aH _ aa rfl rfl rfl) (ax rfl rfl (aK _ aa rfl rfl (rfl:_=some (AV.v (.int _ _)))) (ax rfl rfl (aH _ aa rfl rfl rfl) (ax rfl rfl (aK _ aa rfl rfl (rfl:_=some (AV.v (.int _ _)))) (ax rfl rfl (tT (r:=min (min (min ac.a ac.b) ac.c) ac.d) _ _ _ _ rfl rfl rfl rfl rfl) ?_)))))))))
     refine ax rfl rfl (bo (r:=false) _ _ rfl rfl (decide_eq_false ab)) ?_
     refine ai (aD _ _ _ rfl (rfl:_=AV.v (.bool _))) (aj (aP rfl rfl (bZ ?_)))
     refine aN (σ':=aB 164 [(1,_),(12,_),(13,_),(14,_),(15,_),(16,_),(17,_),(20,_),(21,_)] [((15,0),_),((17,0),_)] [] []) kp ?_
     refine an (aQ rfl (ai (bc _ _ rfl rfl (bq ab)) ?_))
     refine aZ rfl (az (⟨k+1,?_,?_,?_⟩))
     ·omega
     ·skip
      refine Le.mkJ [] [] rfl ?_ ?_ trivial trivial ?_
      ·exact ⟨(iS rfl),(iS rfl),(iS rfl),(iV rfl),(iP rfl),(iV rfl),(iP rfl),(ck ab),(ck ag),trivial⟩
      ·exact ⟨(cF rfl rfl rfl),(cF rfl rfl rfl),trivial⟩
      ·kernel_rfl
     ·omega
    ·skip
     rw [if_neg (by simpa using hc78)] at t2
     refine aJ (ap ?_)
     refine aN (σ':=aB 164 [(1,_),(12,_),(13,_),(14,_),(15,_),(16,_),(17,_),(20,_),(21,_),(22,_)] [((15,0),_),((17,0),_),((22,0),_)] [] []) kp ?_
     refine an (bA rfl rfl rfl (cC rfl rfl rfl (bA rfl rfl rfl (cC rfl rfl rfl (bA rfl rfl rfl (cC rfl rfl rfl (bA rfl rfl rfl (cC rfl rfl rfl (ai (uE (r:=max (max (max ac.a ac.b) ac.c) ac.d) _ _ _ _ rfl rfl rfl rfl rfl) ?_)))))))))
     refine ai (cP (r:=false) _ _ rfl rfl (decide_eq_false ab)) ?_
     refine cJ rfl (ax rfl rfl (aH _ aa rfl rfl rfl) (ax rfl rfl (aK _ aa rfl rfl (rfl:_=some (AV.v (.int _ _)))) (ax rfl rfl (aH _ aa rfl rfl rfl) (ax rfl rfl (aK _ aa rfl rfl (rfl:_=some (AV.v (.int _ _)))) (ax rfl rfl (aH _ aa rfl rfl rfl) (ax rfl rfl (aK _ aa rfl rfl (rfl:_=some (AV.v (.int _ _)))) (ax rfl rfl (aH _ aa rfl rfl rfl) (ax rfl rfl (aK _ aa rfl rfl (rfl:_=some (AV.v (.int _ _)))) (ax rfl rfl (tT (r:=min (min (min ac.a ac.b) ac.c) ac.d) _ _ _ _ rfl rfl rfl rfl rfl) ?_)))))))))
     refine ax rfl rfl (bo (r:=false) _ _ rfl rfl (decide_eq_false ab)) ?_
     refine ai (aD _ _ _ rfl (rfl:_=AV.v (.bool _))) (aj (aP rfl rfl (bZ ?_)))
     refine aN (σ':=aB 164 [(1,_),(12,_),(13,_),(14,_),(15,_),(16,_),(17,_),(20,_),(21,_)] [((15,0),_),((17,0),_)] [] []) kp ?_
     refine an (aQ rfl (ai (bc _ _ rfl rfl (bq ab)) ?_))
     refine aZ rfl (az (⟨k+1,?_,?_,?_⟩))
     ·omega
     ·skip
      refine Le.mkJ [] [] rfl ?_ ?_ trivial trivial ?_
      ·exact ⟨(iS rfl),(iS rfl),(iS rfl),(iV rfl),(iP rfl),(iV rfl),(iP rfl),(ck ab),(ck ag),trivial⟩
      ·exact ⟨(cF rfl rfl rfl),(cF rfl rfl rfl),trivial⟩
      ·kernel_rfl
     ·omega
   ·skip
    obtain rfl:k=s.acts.length:=by omega
    have t3:cm (s.acts.take s.acts.length)≤20:=by rw [List.take_length];exact s5
    refine bK (id (hK17 _ ?_))
    clear hK17;try clear K17
    refine aF fun K29 hK29=> ?_
    refine am (aZ rfl (aj (au ?_)))
    refine bw (α:=Nat) (fun q=> q≤s.vars.length) 164 [(1,_),(12,_),(13,_),(14,_),(15,_),(16,_),(17,_),(20,_)] [((15,0),_),((17,0),_)] (fun q=> [(23, .v (.int .i64 (q:Int)))]) (fun q=> []) [] [] (fun q=> s.vars.length - q) 0 ?_ (by
     refine Le.mkJ [] [] rfl ?_ ?_ trivial trivial ?_
     ·exact ⟨(iS rfl),(iS rfl),(iS rfl),(iV rfl),(iP rfl),(iV rfl),(iP rfl),(iV rfl),(ck ag),trivial⟩
     ·exact ⟨(cF rfl rfl rfl),(cF rfl rfl rfl),trivial⟩
     ·kernel_rfl) ?_
    ·omega
    intro q hq
    refine aF fun K31 hK31=> ?_
    refine am (aQ rfl (bA rfl rfl rfl (fh rfl rfl rfl (ai (bE _ aa rfl) (ai (bo _ _ rfl rfl rfl) (aj (aT rfl (fun hc117=> ?_) (fun hc117=> ?_))))))))
    ·skip
     have u1:Rg (s.vars.getD q 0):=lH s6 q
     unfold Rg at u1
     refine bv (hK31 _ ?_)
     clear hK31;try clear K31
     refine ap (au (am (bA rfl rfl rfl (fh rfl rfl rfl (aQ rfl (ai (bf _ _ aa rfl rfl _ rfl ab (by (simp only [ba,bn,bl,ba,gn,bM];omega)) (by exact Nat.mul_one _)) ?_))))))
     refine ai (bH _ aa rfl (by exact dH _ _ ab) rfl) ?_
     refine ai (cP (r:=false) _ _ rfl rfl (decide_eq_false ab)) ?_
     refine cJ rfl (ax rfl rfl (aH _ aa rfl rfl rfl) (ax rfl rfl (aK _ aa rfl rfl (rfl:_=some (AV.sl _ _))) (ax rfl rfl (aE _ (rfl:_=AV.v (.int _ _))) (ax rfl rfl (bf _ _ aa rfl rfl _ rfl ab (by (simp only [ba,bn,bl,ba,gn,bM];omega)) (by exact Nat.mul_one _)) ?_))))
     refine ax rfl rfl (bH _ aa rfl (by exact dH _ _ ab) rfl) ?_
     refine ax rfl rfl (bo (r:=false) _ _ rfl rfl (decide_eq_false ab)) ?_
     refine ai (aD _ _ _ rfl (rfl:_=AV.v (.bool _))) (aj (aP rfl rfl (bZ ?_)))
     refine aN (σ':=aB 164 [(1,_),(12,_),(13,_),(14,_),(15,_),(16,_),(17,_),(20,_),(23,_)] [((15,0),_),((17,0),_)] [] []) kp ?_
     refine an (aQ rfl (ai (bc _ _ rfl rfl (bq ab)) ?_))
     refine aZ rfl (az (⟨q+1,?_,?_,?_⟩))
     ·omega
     ·skip
      refine Le.mkJ [] [] rfl ?_ ?_ trivial trivial ?_
      ·exact ⟨(iS rfl),(iS rfl),(iS rfl),(iV rfl),(iP rfl),(iV rfl),(iP rfl),(iV rfl),(ck ag),trivial⟩
      ·exact ⟨(cF rfl rfl rfl),(cF rfl rfl rfl),trivial⟩
      ·kernel_rfl
     ·omega
    ·skip
     refine bK (id (hK29 _ ?_))
     clear hK29;try clear K29
     refine am (aQ rfl (ai (cP (r:=false) _ _ rfl rfl (decide_eq_false ab)) ?_))
     refine cJ rfl (ax rfl rfl (aH _ aa rfl rfl rfl) (ax rfl rfl (aK _ aa rfl rfl (rfl:_=some (AV.v (.int _ _)))) (ax rfl rfl (bo (r:=false) _ _ rfl rfl (decide_eq_false ab)) ?_)))
     refine ai (aD _ _ _ rfl (rfl:_=AV.v (.bool _))) (cJ rfl (ax rfl rfl (aH _ aa rfl rfl rfl) (ax rfl rfl (aK _ aa rfl rfl (rfl:_=some (AV.v (.int _ _)))) (ax rfl rfl (cP (r:=false) _ _ rfl rfl (decide_eq_false ab)) ?_))))
     refine ai (aD _ _ _ rfl (rfl:_=AV.v (.bool _))) (cJ rfl (ax rfl rfl (aH _ aa rfl rfl rfl) (ax rfl rfl (aK _ aa rfl rfl (rfl:_=some (AV.v (.bool _)))) (ax rfl rfl (aE _ (rfl:_=AV.v (.bool _))) (dE (fun hg149=> ?_) (fun hg149=> ?_))))))
     ·skip
      have u2:=s7 (by simpa using hg149)
      refine ax rfl rfl (aH _ aa rfl rfl rfl) (ax rfl rfl (aK _ aa rfl rfl (rfl:_=some (AV.v (.int _ _)))) (ax rfl rfl (ca (r:=false) _ _ rfl rfl (by rw [u2];rfl)) ?_))
      refine ax rfl rfl (aD _ _ _ rfl (rfl:_=AV.v (.bool _))) (ai (aD _ _ _ rfl (rfl:_=AV.v (.bool _))) (cJ rfl (ax rfl rfl (aH _ aa rfl rfl rfl) (ax rfl rfl (aK _ aa rfl rfl (rfl:_=some (AV.sl _ _))) (ax rfl rfl (bE _ aa rfl) (ax rfl rfl (aH _ aa rfl rfl rfl) (ax rfl rfl (aK _ aa rfl rfl (rfl:_=some (AV.v (.int _ _)))) (ax rfl rfl (cP (r:=false) _ _ rfl rfl (decide_eq_false ab)) ?_))))))))
      refine ai (aD _ _ _ rfl (rfl:_=AV.v (.bool _))) (aj (aP rfl rfl (bZ ?_)))
      refine aN (σ':=aB 164 [(1,_),(12,_),(13,_),(14,_),(15,_),(16,_)] [((15,0),_)] [] []) kp ?_
      refine an (aQ rfl (ai (bc _ _ rfl rfl (bq ab)) ?_))
      refine aZ rfl (az (⟨h+1,?_,?_,?_⟩))
      ·omega
      ·skip
       refine Le.mkJ [] [] rfl ?_ ?_ trivial trivial ?_
       ·exact ⟨(iS rfl),(iS rfl),(iS rfl),(iV rfl),(iP rfl),(ck ag),trivial⟩
       ·exact ⟨(cF rfl rfl rfl),trivial⟩
       ·kernel_rfl
      ·omega
     ·skip
      refine aW rfl rfl ah ?_
      refine aW rfl rfl ah ?_
      refine aW rfl rfl ah ?_
      refine ax rfl rfl (aD _ _ _ rfl (rfl:_=AV.v (.bool _))) (ai (aD _ _ _ rfl (rfl:_=AV.v (.bool _))) (cJ rfl (ax rfl rfl (aH _ aa rfl rfl rfl) (ax rfl rfl (aK _ aa rfl rfl (rfl:_=some (AV.sl _ _))) (ax rfl rfl (bE _ aa rfl) (ax rfl rfl (aH _ aa rfl rfl rfl) (ax rfl rfl (aK _ aa rfl rfl (rfl:_=some (AV.v (.int _ _)))) (ax rfl rfl (cP (r:=false) _ _ rfl rfl (decide_eq_false ab)) ?_))))))))
      refine ai (aD _ _ _ rfl (rfl:_=AV.v (.bool _))) (aj (aP rfl rfl (bZ ?_)))
      refine aN (σ':=aB 164 [(1,_),(12,_),(13,_),(14,_),(15,_),(16,_)] [((15,0),_)] [] []) kp ?_
      refine an (aQ rfl (ai (bc _ _ rfl rfl (bq ab)) ?_))
      refine aZ rfl (az (⟨h+1,?_,?_,?_⟩))
      ·omega
      ·skip
       refine Le.mkJ [] [] rfl ?_ ?_ trivial trivial ?_
       ·exact ⟨(iS rfl),(iS rfl),(iS rfl),(iV rfl),(iP rfl),(ck ag),trivial⟩
       ·exact ⟨(cF rfl rfl rfl),trivial⟩
       ·kernel_rfl
      ·omega
  ·skip
   refine bK (id (hK9 _ ?_))
   clear hK9;try clear K9
   refine an (aQ rfl (ai (bc _ _ rfl rfl (bq ab)) ?_))
   refine aZ rfl (az (⟨i+1,?_,?_,?_⟩))
   ·omega
   ·skip
    refine Le.mkJ [] [] rfl ?_ ?_ trivial trivial ?_
    ·exact ⟨(iS rfl),(iS rfl),(iS rfl),(ck ag),trivial⟩
    ·exact trivial
    ·kernel_rfl
   ·omega
 ·skip
  refine bK (id (hK5 _ ?_))
  clear hK5;try clear K5
  refine am (ai (aL aa (by repeat' (exact dN)) (sK) rfl rfl) ?_)
  exact ct rfl (aj (aC (aY (.inr rfl) rfl (.tmp (rfl:_=AV.v _)) (Le.out [] [] .v rfl rfl rfl trivial trivial))))
theorem qu (n0:Nat) (p:List Int) (h0:p.length=n0) (g0:n0≤4611686018427387904) (r0:Rng p) (n1:Nat) (v:List Int) (h1:v.length=n1) (g1:n1≤4611686018427387904) (r1:Rng v)
  (n2:Nat) (b:List Int) (h2:b.length=n2) (g2:n2≤4611686018427387904) (r2:Rng b) (it to:Int) (hit: -9223372036854775808≤it∧it≤9223372036854775807) (hto: -9223372036854775808≤to∧to≤9223372036854775807):
  Spec Tryz.prog 6 (bj [.sl n0 (du p), .sl n1 (du v), .sl n2 (du b), .v (.int .i64 it), .v (.int .i64 to)] []) (aX (.v (.bool true)) []):=by
 subst h0;subst h1;subst h2
 exact oX p v b ⟨g0,r0⟩ ⟨g1,r1⟩ ⟨g2,r2⟩ it to hit hto
end Go.Proofs.YtmjnackchaahbaaGreat
