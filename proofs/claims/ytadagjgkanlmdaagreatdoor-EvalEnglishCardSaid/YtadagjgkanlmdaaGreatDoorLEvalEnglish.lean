import Derived.Test.YtadagjgkanlmdaaGreatDoorSB
import Derived.Test.YtadagjgkanlmdaaGreatDoorPx14
namespace Go.Proofs.YtadagjgkanlmdaaGreatDoor.P
open Go.RowKit Go.Proofs.YtadagjgkanlmdaaGreatDoorW.PrintWords Go.Proofs.YtadagjgkanlmdaaGreatDoorW.PrintLast Go.Proofs.YtadagjgkanlmdaaGreatDoorW.PrintMore Go.Proofs.YtadagjgkanlmdaaGreatDoor.FM
set_option linter.unusedVariables false
set_option linter.unusedSimpArgs false

namespace RR
def enR:List RG.Ru:=headR7
def plT:List UInt8:=[111,110,101,58,32,105,32,61,32,49,32,97,110,100,32,118,32,61,32,48,59,32,102,101,119,58,32,118,32,61,32,48,32,97,110,100,32,105,32,37,32,49,48,32,61,32,50,46,46,52,32,97,110,100,32,105,32,37,32,49,48,48,32,33,61,32,49,50,46,46,49,52,59,32,109,97,110,121,58,32,118,32,61,32,48,32,97,110,100,32,105,32,33,61,32,49,32,97,110,100,32,105,32,37,32,49,48,32,61,32,48,46,46,49,32,111,114,32,118,32,61,32,48,32,97,110,100,32,105,32,37,32,49,48,32,61,32,53,46,46,57,32,111,114,32,118,32,61,32,48,32,97,110,100,32,105,32,37,32,49,48,48,32,61,32,49,50,46,46,49,52]
def arT:List UInt8:=[122,101,114,111,58,32,110,32,61,32,48,59,32,111,110,101,58,32,110,32,61,32,49,59,32,116,119,111,58,32,110,32,61,32,50,59,32,102,101,119,58,32,110,32,37,32,49,48,48,32,61,32,51,46,46,49,48,59,32,109,97,110,121,58,32,110,32,37,32,49,48,48,32,61,32,49,49,46,46,57,57]
def plR:List RG.Ru:=[⟨1,[[⟨105,0,false,[(1,1)]⟩,⟨118,0,false,[(0,0)]⟩]],[]⟩,⟨3,[[⟨118,0,false,[(0,0)]⟩,⟨105,10,false,[(2,4)]⟩,⟨105,100,true,[(12,14)]⟩]],[]⟩,
  ⟨4,[[⟨118,0,false,[(0,0)]⟩,⟨105,0,true,[(1,1)]⟩,⟨105,10,false,[(0,1)]⟩],[⟨118,0,false,[(0,0)]⟩,⟨105,10,false,[(5,9)]⟩],[⟨118,0,false,[(0,0)]⟩,⟨105,100,false,[(12,14)]⟩]],[]⟩]
def arR:List RG.Ru:=[⟨0,[[⟨110,0,false,[(0,0)]⟩]],[]⟩,⟨1,[[⟨110,0,false,[(1,1)]⟩]],[]⟩,⟨2,[[⟨110,0,false,[(2,2)]⟩]],[]⟩,⟨3,[[⟨110,100,false,[(3,10)]⟩]],[]⟩,⟨4,[[⟨110,100,false,[(11,99)]⟩]],[]⟩]
set_option maxRecDepth 100000 in
theorem plT_ok:RG.parse plT= .ok plR:=by rfl
set_option maxRecDepth 100000 in
theorem arT_ok:RG.parse arT= .ok arR:=by rfl
def okRb (r:RG.Rl):Bool:=RG.ops.contains r.op&&decide (r.md≤1000000000)&&decide (r.rs.length≤1000000)
def okUb (x:RG.Ru):Bool:=decide (x.any.length≤1000000)&&x.any.all fun a=>decide (a.length≤1000000)&&a.all okRb
theorem okU_of {l:List RG.Ru} (h:l.all okUb=true):∀x∈l,OkU x:=by
  intro x hx
  have h1:=List.all_eq_true.1 h x hx
  unfold okUb at h1
  rw[Bool.and_eq_true,decide_eq_true_eq] at h1
  refine⟨h1.1,fun a ha=>?_⟩
  have h2:=List.all_eq_true.1 h1.2 a ha
  rw[Bool.and_eq_true,decide_eq_true_eq] at h2
  refine⟨h2.1,fun r hr=>?_⟩
  have h3:=List.all_eq_true.1 h2.2 r hr
  unfold okRb at h3
  rw[Bool.and_eq_true,Bool.and_eq_true,decide_eq_true_eq,decide_eq_true_eq] at h3
  exact⟨List.contains_iff_mem.1 h3.1.1,h3.1.2,h3.2⟩
theorem plR_ok:∀x∈plR,OkU x:=okU_of (by decide)
theorem arR_ok:∀x∈arR,OkU x:=okU_of (by decide)
section
variable {o:EV.Op}
theorem inn1 (x lo hi:Nat):EV.inn x [(lo,hi)]=decide (lo≤x∧x≤hi):=by unfold EV.inn;simp
theorem h_i0 (hn:o.n<1024) (nt:Bool) (lo hi:Nat):EV.hold o ⟨105,0,nt,[(lo,hi)]⟩=(decide (lo≤o.n∧o.n≤hi) !=nt):=by
  have hs:decide (o.n<10 ^ 18)=true:=decide_eq_true (by omega)
  show((true&&(if (0:Nat)=0 then decide (o.n<10 ^ 18)&&EV.inn o.n [(lo,hi)] else _)) !=nt)=_
  rw[_root_.if_pos rfl,inn1,hs,Bool.true_and,Bool.true_and]
theorem h_im (m:Nat) (nt:Bool) (lo hi:Nat):EV.hold o ⟨105,m+1,nt,[(lo,hi)]⟩=(decide (lo≤o.n%(m+1)∧o.n%(m+1)≤hi) !=nt):=by
  show((true&&(if (m+1:Nat)=0 then _ else EV.inn (o.n%(m+1)) [(lo,hi)])) !=nt)=_
  rw[_root_.if_neg (by omega),inn1,Bool.true_and]
theorem h_v (hf:o.f.length<1024) (nt:Bool) (lo hi:Nat):EV.hold o ⟨118,0,nt,[(lo,hi)]⟩=(decide (lo≤o.f.length∧o.f.length≤hi) !=nt):=by
  have hs:decide (o.f.length<10 ^ 18)=true:=decide_eq_true (by omega)
  show((true&&(if (0:Nat)=0 then decide (o.f.length<10 ^ 18)&&EV.inn o.f.length [(lo,hi)] else _)) !=nt)=_
  rw[_root_.if_pos rfl,inn1,hs,Bool.true_and,Bool.true_and]
theorem h_n0 (hn:o.n<1024) (nt:Bool) (lo hi:Nat):EV.hold o ⟨110,0,nt,[(lo,hi)]⟩=((decide (nvl (tr o.f)=0)&&decide (lo≤o.n∧o.n≤hi)) !=nt):=by
  have hs:decide (o.n<10 ^ 18)=true:=decide_eq_true (by omega)
  show((decide (nvl (tr o.f)=0)&&(if (0:Nat)=0 then decide (o.n<10 ^ 18)&&EV.inn o.n [(lo,hi)] else _)) !=nt)=_
  rw[_root_.if_pos rfl,inn1,hs,Bool.true_and]
theorem h_nm (m:Nat) (nt:Bool) (lo hi:Nat):EV.hold o ⟨110,m+1,nt,[(lo,hi)]⟩=((decide (nvl (tr o.f)=0)&&decide (lo≤o.n%(m+1)∧o.n%(m+1)≤hi)) !=nt):=by
  show((decide (nvl (tr o.f)=0)&&(if (m+1:Nat)=0 then _ else EV.inn (o.n%(m+1)) [(lo,hi)])) !=nt)=_
  rw[_root_.if_neg (by omega),inn1]
theorem en_pick (hn:o.n<1024) (hf:o.f.length<1024):EV.pick o 5 enR=if o.n=1∧o.f.length=0 then 1 else 5:=by
  unfold enR headR7
  simp only[EV.pick,EV.pick1,EV.meet,List.any_cons,List.any_nil,List.all_cons,List.all_nil,h_i0 hn,h_v hf,Bool.bne_false,Bool.bne_true,Bool.or_false,Bool.and_true,Bool.or_eq_true,Bool.and_eq_true,decide_eq_true_eq]
  repeat' split
  all_goals omega
theorem pl_pick (hn:o.n<1024) (hf:o.f.length<1024):EV.pick o 5 plR=if o.f.length=0 then (if o.n=1 then 1 else if 2≤o.n%10∧o.n%10≤4∧(o.n%100<12∨14<o.n%100) then 3 else 4) else 5:=by
  unfold plR
  simp only[EV.pick,EV.pick1,EV.meet,List.any_cons,List.any_nil,List.all_cons,List.all_nil,h_i0 hn,h_v hf,h_im 9,h_im 99,Bool.bne_false,Bool.bne_true,Bool.or_false,Bool.and_true,Bool.or_eq_true,Bool.and_eq_true,decide_eq_true_eq,Bool.not_eq_true',decide_eq_false_iff_not]
  repeat' split
  all_goals omega
theorem m1_ (c:Nat) (hc:c≠5) (r:RG.Rl) (smp:List UInt8):EV.meet o ⟨c,[[r]],smp⟩=EV.hold o r:=by
  unfold EV.meet
  simp[hc]
theorem ar_pick (hn:o.n<1024):EV.pick o 5 arR=if nvl (tr o.f)=0 then (if o.n<3 then o.n else if 3≤o.n%100∧o.n%100≤10 then 3 else if 11≤o.n%100 then 4 else 5) else 5:=by
  unfold arR
  simp only[EV.pick,EV.pick1,m1_ 0 (by decide),m1_ 1 (by decide),m1_ 2 (by decide),m1_ 3 (by decide),m1_ 4 (by decide),h_n0 hn,h_nm 99,Bool.bne_false]
  by_cases hW:nvl (tr o.f)=0
  · rw[decide_eq_true hW,_root_.if_pos hW]
    simp only[Bool.true_and]
    have key:∀b0 b1 b2 b3 b4:Bool,(let x0:=if (0:Nat)<5 then (if b0=true then 0 else 5) else 5
        let x1:=if 1<x0 then (if b1=true then 1 else x0) else x0
        let x2:=if 2<x1 then (if b2=true then 2 else x1) else x1
        let x3:=if 3<x2 then (if b3=true then 3 else x2) else x2
        if 4<x3 then (if b4=true then 4 else x3) else x3)=if b0=true then 0 else if b1=true then 1 else if b2=true then 2 else if b3=true then 3 else if b4=true then 4 else 5:=by decide
    refine(key (decide (0≤o.n∧o.n≤0)) (decide (1≤o.n∧o.n≤1)) (decide (2≤o.n∧o.n≤2)) (decide (3≤o.n%(99+1)∧o.n%(99+1)≤10)) (decide (11≤o.n%(99+1)∧o.n%(99+1)≤99))).trans ?_
    simp only[decide_eq_true_eq]
    repeat' split
    all_goals omega
  · rw[decide_eq_false hW,_root_.if_neg hW]
    simp
end
end RR
namespace RR
theorem nvl_tr0 (l:List UInt8):nvl (tr l)=0↔nvl l=0:=by
  have h:nvl l=nvl (tr l)*10 ^ (l.length-(tr l).length):=by
    conv=>lhs;rw[(tr_eq l).1]
    rw[nvl_append_zs]
  rw[h]
  have hp:0<10 ^ (l.length-(tr l).length):=Nat.pow_pos (by decide)
  constructor
  · intro h0;rw[h0,Nat.zero_mul]
  · intro h0
    rcases Nat.mul_eq_zero.1 h0 with h1|h1
    · exact h1
    · omega
theorem nvl_digs (l:List Int):nvl (digs l)=l.foldl (fun a x=>10*a+x.toNat%10) 0:=by
  unfold nvl digs
  rw[List.foldl_map]
  congr 1
  funext a x
  have:(UInt8.ofNat (48+x.toNat%10)).toNat=48+x.toNat%10:=by
    rw[UInt8.toNat_ofNat']
    omega
  rw[this]
  omega
theorem wf8 {x:Int} (h0:0≤x) (h1:x≤255):(Lit.int .u8 x).wf=true:=by
  unfold Lit.wf
  rw[Bool.and_eq_true,decide_eq_true_eq,decide_eq_true_eq]
  exact⟨h0,h1⟩
section
variable {o:EV.Op} {N F V:Nat}
theorem en_j5 (ok:OkO o) (hn:o.n=N) (hN:N<1024) (hF:nvl (tr o.f)=0↔F=0) {w:Nat} (h2:EV.pick o 5 plR=w) :
    Ev (fun k=>florinlaw07_EvalEnglish.j5 k (N:Int) (F:Int) (plR.map toU) (arR.map toU) (w:Int) (S (mkl o.n)) (S o.f) (o.e:Int)) true:=by
  have e1:=pick_ev ok (l:=plR) (by decide) plR_ok
  have e2:=pick_ev ok (l:=arR) (by decide) arR_ok
  rw[h2] at e1
  have har:=ar_pick (o:=o) (by omega)
  rw[hn] at har
  rw[har] at e2
  have t100:Int.tmod (N:Int) 100=((N%100:Nat):Int):=(Int.ofNat_tmod N 100).symm
  refine Ev.step (fun k=>florinlaw07_EvalEnglish.j5.eq_2 ..) (Ev.bind e1 (Ev.if_pos rfl ?_))
  rw[t100]
  by_cases h0:F=0
  · rw[_root_.if_pos (hF.2 h0)] at e2
    refine Ev.if_pos (by omega) ?_
    by_cases h3:N<3
    · rw[_root_.if_pos h3] at e2
      refine Ev.if_pos (by omega) (Ev.const rfl (Ev.if_pos (by omega) (Ev.if_pos (by show(N:Int)<3;omega) (Ev.bind e2 (Ev.yes ?_)))))
      match N,h3 with
      | 0,_=>rfl
      | 1,_=>rfl
      | 2,_=>rfl
    · rw[_root_.if_neg h3] at e2
      refine Ev.if_neg (by omega) ?_
      have j6n:∀b:Bool,(b=true↔3≤N%100∧N%100≤10)→Ev (fun k=>florinlaw07_EvalEnglish.j6 k (N:Int) (arR.map toU) 5 b (S (mkl o.n)) (S o.f) (o.e:Int)) true:=by
        intro b hb
        refine Ev.step (fun k=>florinlaw07_EvalEnglish.j6.eq_2 ..) ?_
        cases b with
        | true =>
          rw[_root_.if_pos (hb.1 rfl)] at e2
          exact Ev.if_pos rfl (Ev.bind e2 (Ev.yes rfl))
        | false =>
          rw[_root_.if_neg (fun h=>absurd (hb.2 h) (by decide))] at e2
          rw[t100]
          refine Ev.if_neg (by decide) ?_
          by_cases h11:11≤N%100
          · rw[_root_.if_pos h11] at e2
            exact Ev.if_pos (by omega) (Ev.bind e2 (Ev.yes rfl))
          · rw[_root_.if_neg h11] at e2
            exact Ev.if_neg (by omega) (Ev.bind e2 (Ev.yes rfl))
      by_cases g3:3≤N%100
      · refine Ev.if_pos (by omega) (j6n _ ?_)
        rw[decide_eq_true_eq]
        omega
      · refine Ev.if_neg (by omega) (j6n false ?_)
        simp only[Bool.false_eq_true,false_iff]
        omega
  · rw[_root_.if_neg (fun h=>h0 (hF.1 h))] at e2
    exact Ev.if_neg (by omega) (Ev.bind e2 (Ev.yes rfl))
theorem en_j4 (ok:OkO o) (hn:o.n=N) (hN:N<1024) (hV:o.f.length=V) (hV3:V<3) (hF:nvl (tr o.f)=0↔F=0) {w:Nat} (h1:EV.pick o 5 enR=w) :
    Ev (fun k=>florinlaw07_EvalEnglish.j4 k (N:Int) (F:Int) (V:Int) (enR.map toU) (plR.map toU) (arR.map toU) (w:Int) (S (mkl o.n)) (S o.f) (o.e:Int)) true:=by
  have e1:=pick_ev ok (l:=enR) (by decide) headR7_ok
  rw[h1] at e1
  have hp:=pl_pick (o:=o) (by omega) (by omega)
  rw[hn,hV] at hp
  have t10:Int.tmod (N:Int) 10=((N%10:Nat):Int):=(Int.ofNat_tmod N 10).symm
  have t100:Int.tmod (N:Int) 100=((N%100:Nat):Int):=(Int.ofNat_tmod N 100).symm
  have j5:=fun (w:Nat) (h:EV.pick o 5 plR=w)=>en_j5 ok hn hN hF h
  refine Ev.step (fun k=>florinlaw07_EvalEnglish.j4.eq_2 ..) (Ev.bind e1 (Ev.if_pos rfl ?_))
  rw[t10,t100]
  by_cases h0:V=0
  · rw[_root_.if_pos h0] at hp
    refine Ev.if_pos (by omega) ?_
    by_cases g1:N=1
    · rw[_root_.if_pos g1] at hp
      exact Ev.if_pos (by omega) (j5 1 hp)
    rw[_root_.if_neg g1] at hp
    refine Ev.if_neg (by omega) ?_
    by_cases g2:2≤N%10
    · refine Ev.if_pos (by omega) ?_
      by_cases g4:N%10≤4
      · refine Ev.if_pos (by omega) ?_
        by_cases g12:N%100<12
        · rw[_root_.if_pos ⟨g2,g4,.inl g12⟩] at hp
          exact Ev.if_pos (by omega) (j5 3 hp)
        · refine Ev.if_neg (by omega) ?_
          by_cases g14:14<N%100
          · rw[_root_.if_pos ⟨g2,g4,.inr g14⟩] at hp
            exact Ev.if_pos (by omega) (j5 3 hp)
          · rw[_root_.if_neg (by omega)] at hp
            exact Ev.if_neg (by omega) (j5 4 hp)
      · rw[_root_.if_neg (by omega)] at hp
        exact Ev.if_neg (by omega) (j5 4 hp)
    · rw[_root_.if_neg (by omega)] at hp
      exact Ev.if_neg (by omega) (j5 4 hp)
  · rw[_root_.if_neg h0] at hp
    exact Ev.if_neg (by omega) (j5 5 hp)
set_option maxRecDepth 100000 in
theorem en_j1 (hN:N<1024) (hV3:V<3) (bl:List Int) (hw:∀x∈bl,(Lit.int .u8 x).wf=true) (hbl:bl.length=V) (hbn:nvl (digs bl)=F) :
    Ev (fun k=>florinlaw07_EvalEnglish.j1 k (N:Int) (F:Int) (V:Int) bl) true:=by
  have q1:(wrap64 (Int.tdiv (N:Int) 1000))%256=((N/1000:Nat):Int):=by
    rw[show Int.tdiv (N:Int) 1000=((N/1000:Nat):Int) from(Int.ofNat_tdiv N 1000).symm,w64 (by omega) (by omega)]
    omega
  have q2:(Int.tmod (wrap64 (Int.tdiv (N:Int) 100)) 10)%256=((N/100%10:Nat):Int):=by
    rw[show Int.tdiv (N:Int) 100=((N/100:Nat):Int) from(Int.ofNat_tdiv N 100).symm,w64 (by omega) (by omega),show Int.tmod ((N/100:Nat):Int) 10=((N/100%10:Nat):Int) from(Int.ofNat_tmod (N/100) 10).symm]
    omega
  have q3:(Int.tmod (wrap64 (Int.tdiv (N:Int) 10)) 10)%256=((N/10%10:Nat):Int):=by
    rw[show Int.tdiv (N:Int) 10=((N/10:Nat):Int) from(Int.ofNat_tdiv N 10).symm,w64 (by omega) (by omega),show Int.tmod ((N/10:Nat):Int) 10=((N/10%10:Nat):Int) from(Int.ofNat_tmod (N/10) 10).symm]
    omega
  have q4:(Int.tmod (N:Int) 10)%256=((N%10:Nat):Int):=by
    rw[show Int.tmod (N:Int) 10=((N%10:Nat):Int) from(Int.ofNat_tmod N 10).symm]
    omega
  have hal:nvl (digs [((N/1000:Nat):Int),((N/100%10:Nat):Int),((N/10%10:Nat):Int),((N%10:Nat):Int)])=N:=by
    rw[nvl_digs]
    simp only[List.foldl_cons,List.foldl_nil,Int.toNat_natCast]
    clear q1 q2 q3 q4
    omega
  have hwa:∀x∈[((N/1000:Nat):Int),((N/100%10:Nat):Int),((N/10%10:Nat):Int),((N%10:Nat):Int)],(Lit.int .u8 x).wf=true:=by
    clear q1 q2 q3 q4
    intro x hx
    simp only[List.mem_cons,List.not_mem_nil,or_false] at hx
    rcases hx with rfl|rfl|rfl|rfl <;> exact wf8 (by omega) (by omega)
  obtain⟨a,b,da,db,la,lb,eb,ea,hs,hof⟩:=made_ev _ bl (by show 4≤9000;decide) (by omega) hwa hw
  obtain⟨ok,ho⟩:=hof 0
  rw[hal] at ea
  have on:(opMade a b 0).n=N:=by
    show nvl (a++b.take (min (min (0:Int).toNat 10000) b.length))*10 ^ (min (0:Int).toNat 10000-min (min (0:Int).toNat 10000) b.length)=N
    simp[ea]
  have of:(opMade a b 0).f=b:=by
    show b.drop (min (min (0:Int).toNat 10000) b.length)=b
    simp
  have oF:nvl (tr (opMade a b 0).f)=0↔F=0:=by
    rw[of,nvl_tr0,eb,hbn]
  have oV:(opMade a b 0).f.length=V:=by rw[of];omega
  have p1:=parse_ok (l:=headT7) (by decide) headT7_ok
  have p2:=parse_ok (l:=plT) (by decide) plT_ok
  have p3:=parse_ok (l:=arT) (by decide) arT_ok
  refine Ev.step (fun k=>florinlaw07_EvalEnglish.j1.eq_2 ..) ?_
  rw[q1,q2,q3,q4]
  refine Ev.bind hs (Ev.bind ho (Ev.bind p1 (Ev.bind p2 (Ev.bind p3 (Ev.if_pos rfl (Ev.if_pos rfl ?_))))))
  refine Ev.step (fun k=>florinlaw07_EvalEnglish.j2.eq_2 ..) (Ev.if_neg (by decide) ?_)
  have hp:=en_pick (o:=opMade a b 0) (by omega) (by omega)
  rw[on,oV] at hp
  have j4:=fun (w:Nat) (h:EV.pick (opMade a b 0) 5 enR=w)=>en_j4 ok on hN oV hV3 oF h
  by_cases g1:N=1
  · refine Ev.if_pos (by omega) (Ev.step (fun k=>florinlaw07_EvalEnglish.j3.eq_2 ..) ?_)
    by_cases g2:V=0
    · rw[_root_.if_pos ⟨g1,g2⟩] at hp
      exact Ev.if_pos (by rw[g2];rfl) (j4 1 hp)
    · rw[_root_.if_neg (fun h=>g2 h.2)] at hp
      exact Ev.if_neg (by rw[beq_eq_false_iff_ne.2 (show ¬(V:Int)=0 by omega)];decide) (j4 5 hp)
  · rw[_root_.if_neg (fun h=>g1 h.1)] at hp
    exact Ev.if_neg (by omega) (Ev.step (fun k=>florinlaw07_EvalEnglish.j3.eq_2 ..) (Ev.if_neg (by decide) (j4 5 hp)))
theorem en_j0 (hN:N<1024) (hV3:V<3) (bl:List Int) (h:(V≠2∧(∀x∈bl,(Lit.int .u8 x).wf=true)∧bl.length=V∧nvl (digs bl)=F)∨(V=2∧bl=[]∧F<100)) :
    Ev (fun k=>florinlaw07_EvalEnglish.j0 k (N:Int) (F:Int) (V:Int) bl) true:=by
  refine Ev.step (fun k=>florinlaw07_EvalEnglish.j0.eq_2 ..) ?_
  rcases h with ⟨h1,h2,h3,h4⟩|⟨rfl,rfl,h3⟩
  · exact Ev.if_neg (by omega) (en_j1 hN hV3 bl h2 h3 h4)
  · refine Ev.if_pos rfl (Ev.const rfl (Ev.if_pos (by show 0+2<140737488355328;decide) ?_))
    have q1:(wrap64 (Int.tdiv (F:Int) 10))%256=((F/10:Nat):Int):=by
      rw[show Int.tdiv (F:Int) 10=((F/10:Nat):Int) from(Int.ofNat_tdiv F 10).symm,w64 (by omega) (by omega)]
      omega
    have q4:(Int.tmod (F:Int) 10)%256=((F%10:Nat):Int):=by
      rw[show Int.tmod (F:Int) 10=((F%10:Nat):Int) from(Int.ofNat_tmod F 10).symm]
      omega
    rw[q1,q4,List.nil_append]
    refine en_j1 hN hV3 _ ?_ rfl ?_
    · clear q1 q4
      intro x hx
      simp only[List.mem_cons,List.not_mem_nil,or_false] at hx
      rcases hx with rfl|rfl <;> exact wf8 (by omega) (by omega)
    · rw[nvl_digs]
      simp only[List.foldl_cons,List.foldl_nil,Int.toNat_natCast]
      clear q1 q4
      omega
end
end RR
theorem pureEvalEnglish (a0 a1 a2:Int) (w0:(Lit.int .i64 a0).wf=true) (w1:(Lit.int .i64 a1).wf=true) (w2:(Lit.int .i64 a2).wf=true):∃k,florinlaw07_EvalEnglish.f k a0 a1 a2=some true:=by
  refine Ev.rounds ?_
  unfold florinlaw07_EvalEnglish.f
  obtain⟨N,h1,h2⟩:=low64 10 (by omega) a0 1023 (by decide)
  obtain⟨y,h3,h4⟩:=low64 2 (by omega) a2 3 (by decide)
  obtain⟨z,h5,h6⟩:=low64 10 (by omega) a1 1023 (by decide)
  have hN:N<1024:=h2
  have hz:z<1024:=h6
  have hy:y<4:=h4
  refine Ev.bind RR.head7_ev (Ev.if_pos rfl (Ev.const rfl ?_))
  rw[h1,h3,h5]
  have hv:Int.tmod (y:Int) 3=((y%3:Nat):Int):=(Int.ofNat_tmod y 3).symm
  rw[hv]
  obtain⟨V,hVe⟩:∃V,y%3=V:=⟨_,rfl⟩
  have hV:V<3:=by omega
  rw[hVe]
  clear hv hVe h1 h3 h5 h2 h4 h6
  refine Ev.if_pos (by omega) (Ev.if_pos (by show(V:Int)<3;omega) ?_)
  match V,hV with
  | 0,_ =>
    have e:Int.tmod (z:Int) (rd ([1,10,100]:List Int) ((0:Nat):Int))=((0:Nat):Int):=by
      show Int.tmod (z:Int) 1=0
      rw[Int.tmod_one]
    rw[e]
    exact Ev.if_neg (by decide) (Ev.const rfl (Ev.if_neg (by decide) (RR.en_j0 hN (by decide) [] (.inl ⟨by decide,by simp,rfl,rfl⟩))))
  | 1,_ =>
    have e:Int.tmod (z:Int) (rd ([1,10,100]:List Int) ((1:Nat):Int))=((z%10:Nat):Int):=(Int.ofNat_tmod z 10).symm
    have q:((z%10:Nat):Int)%256=((z%10:Nat):Int):=by omega
    rw[e,q]
    refine Ev.if_neg (by decide) (Ev.const rfl (Ev.if_pos (by decide) (Ev.if_pos (by decide) (RR.en_j0 hN (by decide) _ (.inl ⟨by decide,?_,rfl,?_⟩)))))
    · intro x hx
      rw[List.nil_append,List.mem_singleton] at hx
      rw[hx]
      exact RR.wf8 (by omega) (by omega)
    · rw[RR.nvl_digs]
      simp only[List.nil_append,List.foldl_cons,List.foldl_nil,Int.toNat_natCast]
      omega
  | 2,_ =>
    have e:Int.tmod (z:Int) (rd ([1,10,100]:List Int) ((2:Nat):Int))=((z%100:Nat):Int):=(Int.ofNat_tmod z 100).symm
    rw[e]
    exact Ev.if_neg (by decide) (Ev.const rfl (Ev.if_neg (by decide) (RR.en_j0 hN (by decide) [] (.inr ⟨rfl,rfl,by omega⟩))))
end Go.Proofs.YtadagjgkanlmdaaGreatDoor.P
